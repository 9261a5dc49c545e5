/- The walks. Written by our own program gen.py; Lean checks it. -/
import Derived.Test.YtgpfgnpdbmbknaaGreatDoorPlain
import Derived.Test.YtgpfgnpdbmbknaaGreatDoorEqs
import Derived.Test.YtgpfgnpdbmbknaaGreatDoorProg
import Derived.Test.YtgpfgnpdbmbknaaGreatDoorExt
import Derived.Test.YtgpfgnpdbmbknaaGreatDoorClone
import Derived.Test.YtgpfgnpdbmbknaaGreatDoorSort
import Derived.Test.YtgpfgnpdbmbknaaGreatDoorWalk5
set_option linter.unusedVariables false
set_option maxRecDepth 100000
set_option maxHeartbeats 4000000
namespace Go.Proofs.YtgpfgnpdbmbknaaGreatDoor.W
open Go Go.RowKit Go.Proofs.Tryz
theorem ref15_node_con (p_x : Node) (ao1 : Option Addr) (cap1 : Nat) (ao2 : Option Addr) (cap2 : Nat) (w : World) (H : Heap) (hH : Le H (hp w)) (h1 : SL H encStroke ao1 p_x.step.strokes) (hc1 : p_x.step.strokes.length ≤ cap1) (h2 : SL H encNode ao2 p_x.nodes) (hc2 : p_x.nodes.length ≤ cap2) (hG : Glob H) (r : Int) (hm : ref15_node p_x = some r) :
  Con prog 112 [(.agg #[(.int .i64 p_x.kind), (.slice ao1 p_x.step.strokes.length cap1), (.int .i64 p_x.step.wait), (.int .i64 p_x.count), (mkS p_x.name), (.slice ao2 p_x.nodes.length cap2)])] w H (fun v _ => v = (.int .i64 r)) := by
 unfold ref15_node at hm
 refine con_of hH func112 rfl 36 ntmps112 rfl ?_
 refine WP.seq (WP.region ?_)
 refine ws rfl (os_box (cs := [(.int .i64 p_x.kind), (.slice ao1 p_x.step.strokes.length cap1), (.int .i64 p_x.step.wait), (.int .i64 p_x.count), (mkS p_x.name), (.slice ao2 p_x.nodes.length cap2)]) rfl rfl rfl (fun b1 => ?_))
 refine wq rfl rfl rfl (ov_assign rfl rfl) ?_
 refine WL.nil (tn (WP.seq (WP.seq (WP.region ?_))))
 refine wq rfl rfl rfl (ov_fieldAddr underlying28 rfl rfl rfl sizeOf3 rfl rfl) ?_
 refine wq rfl rfl rfl (ov_load_box (i := 0) isAgg3 rfl rfl rfl rfl) ?_
 refine wq rfl rfl rfl (ov_lss rfl rfl rfl) ?_
 refine wq rfl rfl rfl (ov_move rfl rfl) ?_
 refine WL.cut_bool 4 10 (x := ((decide (p_x.kind < 0)) || (decide (p_x.kind > 3)))) ?_ ?_
 ·
  rcases Bool.eq_false_or_eq_true (decide (p_x.kind < 0)) with hc3 | hc3
  ·
   refine WL.idle (Idle.no rfl rfl rfl hc3) rfl rfl ?_
   refine WL.idle (Idle.no rfl rfl rfl hc3) rfl rfl ?_
   refine WL.idle (Idle.no rfl rfl rfl hc3) rfl rfl ?_
   refine wq rfl rfl rfl (ov_pick_true rfl (guard_eq rfl hc3) rfl) ?_
   exact WL.nil ⟨Sub.cons' rfl (congrArg Value.bool (orT hc3)) (Sub.dropn 4 rfl), fun _ s => s⟩
  refine wy hc3 rfl (ov_fieldAddr underlying28 rfl rfl rfl sizeOf3 rfl rfl) ?_
  refine wy hc3 rfl (ov_load_box (i := 0) isAgg3 rfl rfl rfl rfl) ?_
  refine wy hc3 rfl (ov_gtr rfl rfl rfl) ?_
  refine wq rfl rfl rfl (ov_pick_false rfl (guard_eq rfl hc3) rfl) ?_
  exact WL.nil ⟨Sub.cons' rfl (congrArg Value.bool (orF hc3)) (Sub.dropn 4 rfl), fun _ s => s⟩
 refine WL.nil (tn ?_)
 refine WP.cond rfl (fun hc4 => ?_) (fun hc4 => ?_)
 ·
  replace hm := ite_t hc4 hm
  refine WP.seq (WP.region ?_)
  refine wq rfl rfl rfl (ov_assign rfl rfl) ?_
  refine WL.nil (tn (WP.ret (then_ret ?_)))
  obtain rfl := Option.some.inj hm
  refine retQ_ret results112 (Res.tmp rfl Res.nil) rfl (fun w' s => ⟨s.below, ?_⟩)
  exact rfl
 replace hm := ite_f hc4 hm
 refine WP.skip (tn (WP.seq (WP.seq (WP.region ?_))))
 refine wq rfl rfl rfl (ov_load_whole (i := 0) isAgg28 sizeOf28 rfl rfl rfl rfl) ?_
 obtain ⟨r1, e1, hm⟩ := bind_some hm
 refine wo rfl (oq_con (r := (.bool r1)) call144 rfl rfl (fun w' s => ⟨_, (ref15_shape_con p_x ao1 cap1 ao2 cap2  w' H s.hold h1 hc1 h2 hc2 hG r1 e1)⟩)) ?_
 refine wq rfl rfl rfl (ov_not rfl rfl) ?_
 refine WL.nil (tn ?_)
 refine WP.cond rfl (fun hc5 => ?_) (fun hc5 => ?_)
 ·
  replace hm := ite_t hc5 hm
  refine WP.seq (WP.region ?_)
  refine wq rfl rfl rfl (ov_assign rfl rfl) ?_
  refine WL.nil (tn (WP.ret (then_ret ?_)))
  obtain rfl := Option.some.inj hm
  refine retQ_ret results112 (Res.tmp rfl Res.nil) rfl (fun w' s => ⟨s.below, ?_⟩)
  exact rfl
 replace hm := ite_f hc5 hm
 refine WP.skip (tn ?_)
 obtain ⟨k1, hk1, hm⟩ := joinK_some hm
 refine WP.seq_join (fun g' S' => Sub [(1000000007, (.bool false))] g' ∧ (∀ w', S' w' → St w H [] H w') ∧ k1 = some r) ?_ ?_
 ·
  refine WP.seq (WP.region ?_)
  refine wq rfl rfl rfl (ov_fieldAddr underlying28 rfl rfl rfl sizeOf3 rfl rfl) ?_
  refine wq rfl rfl rfl (ov_load_box (i := 0) isAgg3 rfl rfl rfl rfl) ?_
  refine WL.nil (tn (WP.block (WP.seq (WP.region ?_))))
  refine wq rfl rfl rfl (ov_eql rfl rfl rfl) ?_
  refine wq rfl rfl rfl (ov_assign rfl rfl) ?_
  refine WL.nil (tn ?_)
  refine WP.cond rfl (fun hc6 => ?_) (fun hc6 => ?_)
  ·
   replace hm := ite_t hc6 hm
   refine WP.seq (WP.region ?_)
   refine wq rfl rfl rfl (ov_fieldAddr underlying28 rfl rfl rfl sizeOf25 rfl rfl) ?_
   refine wq rfl rfl rfl (ov_load_boxes (i := 0) (vs := [(.slice ao1 p_x.step.strokes.length cap1), (.int .i64 p_x.step.wait)]) isAgg25 sizeOf25 rfl rfl rfl rfl (part_of rfl)) ?_
   obtain ⟨r2, e2, hm⟩ := bind_some hm
   refine wo rfl (oq_con (r := (.int .i64 r2)) call132 rfl rfl (fun w' s => ⟨_, (ref13_CheckStep_con p_x.step ao1 cap1  w' H s.hold h1 hc1 hG r2 e2)⟩)) ?_
   refine wq rfl rfl rfl (ov_assign rfl rfl) ?_
   refine WL.nil (tn (WP.ret (block_ret (then_ret ?_))))
   obtain rfl := Option.some.inj hm
   refine retQ_ret results112 (Res.tmp rfl Res.nil) rfl (fun w' s => ⟨s.below, ?_⟩)
   exact rfl
  replace hm := ite_f hc6 hm
  refine WP.seq (WP.region ?_)
  refine wq rfl rfl rfl (ov_eql rfl rfl rfl) ?_
  refine wq rfl rfl rfl (ov_assign rfl rfl) ?_
  refine WL.nil (tn ?_)
  refine WP.cond rfl (fun hc7 => ?_) (fun hc7 => ?_)
  ·
   replace hm := ite_t hc7 hm
   refine WP.seq (WP.region ?_)
   refine wq rfl rfl rfl (ov_fieldAddr underlying28 rfl rfl rfl sizeOf3 rfl rfl) ?_
   refine wq rfl rfl rfl (ov_load_box (i := 0) isAgg3 rfl rfl rfl rfl) ?_
   refine wq rfl rfl rfl (ov_lss rfl rfl rfl) ?_
   refine wq rfl rfl rfl (ov_move rfl rfl) ?_
   refine WL.cut_bool 4 30 (x := ((decide (p_x.count < 1)) || (decide (p_x.count > 64)))) ?_ ?_
   ·
    rcases Bool.eq_false_or_eq_true (decide (p_x.count < 1)) with hc8 | hc8
    ·
     refine WL.idle (Idle.no rfl rfl rfl hc8) rfl rfl ?_
     refine WL.idle (Idle.no rfl rfl rfl hc8) rfl rfl ?_
     refine WL.idle (Idle.no rfl rfl rfl hc8) rfl rfl ?_
     refine wq rfl rfl rfl (ov_pick_true rfl (guard_eq rfl hc8) rfl) ?_
     exact WL.nil ⟨Sub.cons' rfl (congrArg Value.bool (orT hc8)) (Sub.dropn 4 rfl), fun _ s => s⟩
    refine wy hc8 rfl (ov_fieldAddr underlying28 rfl rfl rfl sizeOf3 rfl rfl) ?_
    refine wy hc8 rfl (ov_load_box (i := 0) isAgg3 rfl rfl rfl rfl) ?_
    refine wy hc8 rfl (ov_gtr rfl rfl rfl) ?_
    refine wq rfl rfl rfl (ov_pick_false rfl (guard_eq rfl hc8) rfl) ?_
    exact WL.nil ⟨Sub.cons' rfl (congrArg Value.bool (orF hc8)) (Sub.dropn 4 rfl), fun _ s => s⟩
   refine WL.nil (tn ?_)
   refine WP.cond rfl (fun hc9 => ?_) (fun hc9 => ?_)
   ·
    replace hm := ite_t hc9 hm
    refine WP.seq (WP.region ?_)
    refine wq rfl rfl rfl (ov_assign rfl rfl) ?_
    refine WL.nil (tn (WP.ret (block_ret (then_ret ?_))))
    obtain rfl := Option.some.inj hm
    refine retQ_ret results112 (Res.tmp rfl Res.nil) rfl (fun w' s => ⟨s.below, ?_⟩)
    exact rfl
   replace hm := ite_f hc9 hm
   refine WP.skip (bn (tn ?_))
   exact ⟨(Sub.all rfl), fun w' s => (s.select [] (by decide) rfl), hm⟩
  replace hm := ite_f hc7 hm
  refine WP.seq (WP.region ?_)
  refine wq rfl rfl rfl (ov_eql rfl rfl rfl) ?_
  refine wq rfl rfl rfl (ov_assign rfl rfl) ?_
  refine WL.nil (tn ?_)
  refine WP.cond rfl (fun hc10 => ?_) (fun hc10 => ?_)
  ·
   replace hm := ite_t hc10 hm
   refine WP.seq (WP.region ?_)
   refine wq rfl rfl rfl (ov_fieldAddr underlying28 rfl rfl rfl sizeOf9 rfl rfl) ?_
   refine wq rfl rfl rfl (ov_load_box (i := 0) isAgg9 rfl rfl rfl rfl) ?_
   obtain ⟨r3, e3, hm⟩ := bind_some hm
   refine wo rfl (oq_con (r := (.int .i64 r3)) call127 rfl rfl (fun w' s => ⟨_, (ref12_Word_con p_x.name  w' H s.hold hG r3 e3)⟩)) ?_
   refine wq rfl rfl rfl (ov_assign rfl rfl) ?_
   refine WL.nil (tn (WP.ret (block_ret (then_ret ?_))))
   obtain rfl := Option.some.inj hm
   refine retQ_ret results112 (Res.tmp rfl Res.nil) rfl (fun w' s => ⟨s.below, ?_⟩)
   exact rfl
  replace hm := ite_f hc10 hm
  refine WP.skip (bn (tn ?_))
  exact ⟨(Sub.all rfl), fun w' s => (s.select [] (by decide) rfl), hm⟩
 rintro g' S' ⟨hsub1, hS1, hm⟩
 refine WP.sub hsub1 (WP.weaken hS1 ?_)
 replace hm := hk1.symm.trans hm
 refine WP.seq (WP.region ?_)
 refine wq rfl rfl rfl (ov_assign rfl rfl) ?_
 refine WL.nil (tn (WP.ret ?_))
 obtain rfl := Option.some.inj hm
 refine retQ_ret results112 (Res.tmp rfl Res.nil) rfl (fun w' s => ⟨s.below, ?_⟩)
 exact rfl
theorem ref15_nodes_body_con (self : Node → Option Int) (hself : ∀ (p_x : Node) (ao1 : Option Addr) (cap1 : Nat) (ao2 : Option Addr) (cap2 : Nat) (w : World) (H : Heap) (hH : Le H (hp w)) (h1 : SL H encStroke ao1 p_x.step.strokes) (hc1 : p_x.step.strokes.length ≤ cap1) (h2 : SL H encNode ao2 p_x.nodes) (hc2 : p_x.nodes.length ≤ cap2) (hG : Glob H) (r : Int) (hm : self p_x = some r), Con prog 71 [(.agg #[(.int .i64 p_x.kind), (.slice ao1 p_x.step.strokes.length cap1), (.int .i64 p_x.step.wait), (.int .i64 p_x.count), (mkS p_x.name), (.slice ao2 p_x.nodes.length cap2)])] w H (fun v _ => v = (.int .i64 r))) (p_x : Node) (ao1 : Option Addr) (cap1 : Nat) (ao2 : Option Addr) (cap2 : Nat) (w : World) (H : Heap) (hH : Le H (hp w)) (h1 : SL H encStroke ao1 p_x.step.strokes) (hc1 : p_x.step.strokes.length ≤ cap1) (h2 : SL H encNode ao2 p_x.nodes) (hc2 : p_x.nodes.length ≤ cap2) (hG : Glob H) (r : Int) (hm : ref15_nodes_body self p_x = some r) :
  Con prog 71 [(.agg #[(.int .i64 p_x.kind), (.slice ao1 p_x.step.strokes.length cap1), (.int .i64 p_x.step.wait), (.int .i64 p_x.count), (mkS p_x.name), (.slice ao2 p_x.nodes.length cap2)])] w H (fun v _ => v = (.int .i64 r)) := by
 unfold ref15_nodes_body at hm
 refine con_of hH func71 rfl 27 ntmps71 rfl ?_
 refine WP.seq (WP.region ?_)
 refine ws rfl (os_box (cs := [(.int .i64 p_x.kind), (.slice ao1 p_x.step.strokes.length cap1), (.int .i64 p_x.step.wait), (.int .i64 p_x.count), (mkS p_x.name), (.slice ao2 p_x.nodes.length cap2)]) rfl rfl rfl (fun b1 => ?_))
 refine wq rfl rfl rfl (ov_assign rfl rfl) ?_
 refine WL.nil (tn (WP.seq (WP.seq (WP.region ?_))))
 refine wq rfl rfl rfl (ov_load_whole (i := 0) isAgg28 sizeOf28 rfl rfl rfl rfl) ?_
 obtain ⟨r1, e1, hm⟩ := bind_some hm
 refine wo rfl (oq_con (r := (.int .i64 r1)) call112 rfl rfl (fun w' s => ⟨_, (ref15_node_con p_x ao1 cap1 ao2 cap2  w' H s.hold h1 hc1 h2 hc2 hG r1 e1)⟩)) ?_
 refine wq rfl rfl rfl (ov_assign rfl rfl) ?_
 refine WL.nil (tn (WP.seq (WP.region ?_)))
 refine wq rfl rfl rfl (ov_move rfl rfl) ?_
 refine wq rfl rfl rfl (ov_neq rfl rfl rfl) ?_
 refine WL.nil (tn ?_)
 refine WP.cond rfl (fun hc3 => ?_) (fun hc3 => ?_)
 ·
  replace hm := ite_t hc3 hm
  refine WP.seq (WP.region ?_)
  refine wq rfl rfl rfl (ov_move rfl rfl) ?_
  refine wq rfl rfl rfl (ov_assign rfl rfl) ?_
  refine WL.nil (tn (WP.ret (then_ret ?_)))
  obtain rfl := Option.some.inj hm
  refine retQ_ret results71 (Res.tmp rfl Res.nil) rfl (fun w' s => ⟨s.below, ?_⟩)
  exact rfl
 replace hm := ite_f hc3 hm
 refine WP.skip (tn ?_)
 obtain ⟨k1, hk1, hm⟩ := joinK_some hm
 refine WP.seq_join (fun g' S' => Sub [(1000000007, (.bool false))] g' ∧ (∀ w', S' w' → St w H [] H w') ∧ k1 = some r) ?_ ?_
 ·
  refine WP.seq (WP.region ?_)
  refine wq rfl rfl rfl (ov_assign rfl rfl) ?_
  refine WL.nil (tn (WP.block ?_))
  refine WP.loop (fun m1 g' S' => ∃ (i1 : Int), Sub [(1, (pB b1 0)), (4, (.int .i64 i1)), (1000000007, (.bool false))] g' ∧ (∀ w', S' w' → St w H [.blk b1 28 [(.int .i64 p_x.kind), (.slice ao1 p_x.step.strokes.length cap1), (.int .i64 p_x.step.wait), (.int .i64 p_x.count), (mkS p_x.name), (.slice ao2 p_x.nodes.length cap2)]] H w') ∧ ref15_nodes_loop1 p_x self k1 m1 i1 = some r) ((Int.toNat ((p_x.nodes.length : Int) - 0) + 1)) ⟨0, (Sub.all rfl), fun w' s => s, hm⟩ ?_ ?_
  ·
   rintro g' S' ⟨_, _, _, hm⟩
   exact none_some hm
  rintro m1 g' S' ⟨i1, hsub1, hS1, hm⟩
  refine WP.sub hsub1 (WP.weaken hS1 ?_)
  rw [ref15_nodes_loop1] at hm
  refine WP.seq (WP.seq (WP.region ?_))
  refine wq rfl rfl rfl (ov_move rfl rfl) ?_
  refine wq rfl rfl rfl (ov_fieldAddr underlying28 rfl rfl rfl sizeOf26 rfl rfl) ?_
  refine wq rfl rfl rfl (ov_load_box (i := 0) isAgg26 rfl rfl rfl rfl) ?_
  refine wq rfl rfl rfl (ov_len_slice underlying26 rfl rfl) ?_
  refine wq rfl rfl rfl (ov_lss rfl rfl rfl) ?_
  refine WL.nil (tn ?_)
  refine WP.cond rfl (fun hc4 => ?_) (fun hc4 => ?_)
  ·
   replace hm := ite_t hc4 hm
   refine WP.skip (tn (WP.seq (WP.block (WP.seq (WP.region ?_)))))
   refine wq rfl rfl rfl (ov_fieldAddr underlying28 rfl rfl rfl sizeOf26 rfl rfl) ?_
   refine wq rfl rfl rfl (ov_load_box (i := 0) isAgg26 rfl rfl rfl rfl) ?_
   refine wq rfl rfl rfl (ov_move rfl rfl) ?_
   obtain ⟨x1, e2, hm⟩ := bind_some hm
   obtain ⟨h5, h6, h7, cs1, h8, h9⟩ := h2.get e2 (by decide)
   obtain ⟨ao3, cap3, ao4, cap4, rfl, h3, hc5, h4, hc6⟩ := (encNode_open h8)
   refine wq rfl rfl rfl (ov_indexAddr underlying26 sizeOf28 rfl rfl rfl h5 h6 h7) ?_
   refine wq rfl rfl rfl (ov_load_elems (vs := [(.int .i64 x1.kind), (.slice ao3 x1.step.strokes.length cap3), (.int .i64 x1.step.wait), (.int .i64 x1.count), (mkS x1.name), (.slice ao4 x1.nodes.length cap4)]) isAgg28 sizeOf28 rfl rfl rfl h9 h7) ?_
   obtain ⟨r2, e3, hm⟩ := bind_some hm
   refine wo rfl (oq_con (r := (.int .i64 r2)) call71 rfl rfl (fun w' s => ⟨_, (hself x1 ao3 cap3 ao4 cap4  w' H s.hold h3 hc5 h4 hc6 hG r2 e3)⟩)) ?_
   refine wq rfl rfl rfl (ov_assign rfl rfl) ?_
   refine WL.nil (tn (WP.seq (WP.region ?_)))
   refine wq rfl rfl rfl (ov_move rfl rfl) ?_
   refine wq rfl rfl rfl (ov_neq rfl rfl rfl) ?_
   refine WL.nil (tn ?_)
   refine WP.cond rfl (fun hc7 => ?_) (fun hc7 => ?_)
   ·
    replace hm := ite_t hc7 hm
    refine WP.seq (WP.region ?_)
    refine wq rfl rfl rfl (ov_move rfl rfl) ?_
    refine wq rfl rfl rfl (ov_assign rfl rfl) ?_
    refine WL.nil (tn (WP.ret (block_ret (then_ret (then_ret (block_ret (then_ret ?_)))))))
    obtain rfl := Option.some.inj hm
    refine retQ_ret results71 (Res.tmp rfl Res.nil) rfl (fun w' s => ⟨s.below, ?_⟩)
    exact rfl
   replace hm := ite_f hc7 hm
   refine WP.skip (bn (tn (WP.region ?_)))
   refine wq rfl rfl rfl (ov_move rfl rfl) ?_
   refine wq rfl rfl rfl (ov_add rfl rfl rfl) ?_
   refine wq rfl rfl rfl (ov_assign rfl rfl) ?_
   refine WL.nil (tn ?_)
   exact ⟨(IntKind.wrap .i64 (i1 + 1)), (Sub.all rfl), fun w' s => s, hm⟩
  replace hm := ite_f hc4 hm
  refine WP.exit (then_exit (then_exit (block_here (tn ?_))))
  exact ⟨(Sub.all rfl), fun w' s => (s.select [] (by decide) rfl), hm⟩
 rintro g' S' ⟨hsub2, hS2, hm⟩
 refine WP.sub hsub2 (WP.weaken hS2 ?_)
 replace hm := hk1.symm.trans hm
 refine WP.seq (WP.region ?_)
 refine wq rfl rfl rfl (ov_assign rfl rfl) ?_
 refine WL.nil (tn (WP.ret ?_))
 obtain rfl := Option.some.inj hm
 refine retQ_ret results71 (Res.tmp rfl Res.nil) rfl (fun w' s => ⟨s.below, ?_⟩)
 exact rfl
theorem ref15_nodes_con (n : Nat) : ∀ (p_x : Node) (ao1 : Option Addr) (cap1 : Nat) (ao2 : Option Addr) (cap2 : Nat) (w : World) (H : Heap) (hH : Le H (hp w)) (h1 : SL H encStroke ao1 p_x.step.strokes) (hc1 : p_x.step.strokes.length ≤ cap1) (h2 : SL H encNode ao2 p_x.nodes) (hc2 : p_x.nodes.length ≤ cap2) (hG : Glob H) (r : Int) (hm : ref15_nodes n p_x = some r),
  Con prog 71 [(.agg #[(.int .i64 p_x.kind), (.slice ao1 p_x.step.strokes.length cap1), (.int .i64 p_x.step.wait), (.int .i64 p_x.count), (mkS p_x.name), (.slice ao2 p_x.nodes.length cap2)])] w H (fun v _ => v = (.int .i64 r)) := by
 induction n with
 | zero => intro p_x ao1 cap1 ao2 cap2 w H hH h1 hc1 h2 hc2 hG r hm; exact (none_some hm).elim
 | succ n ih => intro p_x ao1 cap1 ao2 cap2 w H hH h1 hc1 h2 hc2 hG r hm; exact ref15_nodes_body_con (ref15_nodes n) ih p_x ao1 cap1 ao2 cap2 w H hH h1 hc1 h2 hc2 hG r hm
theorem ref15_Check_con (p_x : Node) (ao1 : Option Addr) (cap1 : Nat) (ao2 : Option Addr) (cap2 : Nat) (w : World) (H : Heap) (hH : Le H (hp w)) (h1 : SL H encStroke ao1 p_x.step.strokes) (hc1 : p_x.step.strokes.length ≤ cap1) (h2 : SL H encNode ao2 p_x.nodes) (hc2 : p_x.nodes.length ≤ cap2) (hG : Glob H) (r : Int) (hm : ref15_Check p_x = some r) :
  Con prog 32 [(.agg #[(.int .i64 p_x.kind), (.slice ao1 p_x.step.strokes.length cap1), (.int .i64 p_x.step.wait), (.int .i64 p_x.count), (mkS p_x.name), (.slice ao2 p_x.nodes.length cap2)])] w H (fun v _ => v = (.int .i64 r)) := by
 unfold ref15_Check at hm
 refine con_of hH func32 rfl 8 ntmps32 rfl ?_
 refine WP.seq (WP.region ?_)
 refine ws rfl (os_box (cs := [(.int .i64 p_x.kind), (.slice ao1 p_x.step.strokes.length cap1), (.int .i64 p_x.step.wait), (.int .i64 p_x.count), (mkS p_x.name), (.slice ao2 p_x.nodes.length cap2)]) rfl rfl rfl (fun b1 => ?_))
 refine wq rfl rfl rfl (ov_assign rfl rfl) ?_
 refine WL.nil (tn (WP.seq (WP.seq (WP.region ?_))))
 refine wq rfl rfl rfl (ov_load_whole (i := 0) isAgg28 sizeOf28 rfl rfl rfl rfl) ?_
 obtain ⟨r1, e1, hm⟩ := bind_some hm
 refine wo rfl (oq_con (r := (.bool r1)) call38 rfl rfl (fun w' s => ⟨_, (ref15_Light_con p_x ao1 cap1 ao2 cap2  w' H s.hold h1 hc1 h2 hc2 hG r1 e1)⟩)) ?_
 refine wq rfl rfl rfl (ov_not rfl rfl) ?_
 refine WL.nil (tn ?_)
 refine WP.cond rfl (fun hc3 => ?_) (fun hc3 => ?_)
 ·
  replace hm := ite_t hc3 hm
  refine WP.seq (WP.region ?_)
  refine wq rfl rfl rfl (ov_assign rfl rfl) ?_
  refine WL.nil (tn (WP.ret (then_ret ?_)))
  obtain rfl := Option.some.inj hm
  refine retQ_ret results32 (Res.tmp rfl Res.nil) rfl (fun w' s => ⟨s.below, ?_⟩)
  exact rfl
 replace hm := ite_f hc3 hm
 refine WP.skip (tn (WP.seq (WP.region ?_)))
 refine wq rfl rfl rfl (ov_load_whole (i := 0) isAgg28 sizeOf28 rfl rfl rfl rfl) ?_
 obtain ⟨r2, e2, hm⟩ := bind_some hm
 refine wo rfl (oq_con (r := (.int .i64 r2)) call71 rfl rfl (fun w' s => ⟨_, (ref15_nodes_con 600 p_x ao1 cap1 ao2 cap2  w' H s.hold h1 hc1 h2 hc2 hG r2 e2)⟩)) ?_
 refine wq rfl rfl rfl (ov_assign rfl rfl) ?_
 refine WL.nil (tn (WP.ret ?_))
 obtain rfl := Option.some.inj hm
 refine retQ_ret results32 (Res.tmp rfl Res.nil) rfl (fun w' s => ⟨s.below, ?_⟩)
 exact rfl
theorem ref13_SameStrokes_con (p_a : (List Stroke)) (p_b : (List Stroke)) (ao1 : Option Addr) (cap1 : Nat) (ao2 : Option Addr) (cap2 : Nat) (w : World) (H : Heap) (hH : Le H (hp w)) (h1 : SL H encStroke ao1 p_a) (hc1 : p_a.length ≤ cap1) (h2 : SL H encStroke ao2 p_b) (hc2 : p_b.length ≤ cap2) (hG : Glob H) (r : Bool) (hm : ref13_SameStrokes p_a p_b = some r) :
  Con prog 99 [(.slice ao1 p_a.length cap1), (.slice ao2 p_b.length cap2)] w H (fun v _ => v = (.bool r)) := by
 unfold ref13_SameStrokes at hm
 refine con_of hH func99 rfl 26 ntmps99 rfl ?_
 refine WP.seq (WP.region ?_)
 refine wq rfl rfl rfl (ov_assign rfl rfl) ?_
 refine WL.nil (tn (WP.seq (WP.seq (WP.region ?_))))
 refine wq rfl rfl rfl (ov_move rfl rfl) ?_
 refine wq rfl rfl rfl (ov_len_slice underlying23 rfl rfl) ?_
 refine wq rfl rfl rfl (ov_move rfl rfl) ?_
 refine wq rfl rfl rfl (ov_len_slice underlying23 rfl rfl) ?_
 refine wq rfl rfl rfl (ov_neq rfl rfl rfl) ?_
 refine WL.nil (tn ?_)
 refine WP.cond rfl (fun hc3 => ?_) (fun hc3 => ?_)
 ·
  replace hm := ite_t hc3 hm
  refine WP.seq (WP.region ?_)
  refine wq rfl rfl rfl (ov_assign rfl rfl) ?_
  refine WL.nil (tn (WP.ret (then_ret ?_)))
  obtain rfl := Option.some.inj hm
  refine retQ_ret results99 (Res.tmp rfl Res.nil) rfl (fun w' s => ⟨s.below, ?_⟩)
  exact rfl
 replace hm := ite_f hc3 hm
 refine WP.skip (tn ?_)
 obtain ⟨k1, hk1, hm⟩ := joinK_some hm
 refine WP.seq_join (fun g' S' => Sub [(1000000007, (.bool false))] g' ∧ (∀ w', S' w' → St w H [] H w') ∧ k1 = some r) ?_ ?_
 ·
  refine WP.seq (WP.region ?_)
  refine wq rfl rfl rfl (ov_assign rfl rfl) ?_
  refine WL.nil (tn (WP.block ?_))
  refine WP.loop (fun m1 g' S' => ∃ (i1 : Int), Sub [(0, (.slice ao1 p_a.length cap1)), (1, (.slice ao2 p_b.length cap2)), (5, (.int .i64 i1)), (1000000007, (.bool false))] g' ∧ (∀ w', S' w' → St w H [] H w') ∧ ref13_SameStrokes_loop1 p_a p_b k1 m1 i1 = some r) ((Int.toNat ((p_a.length : Int) - 0) + 1)) ⟨0, (Sub.all rfl), fun w' s => s, hm⟩ ?_ ?_
  ·
   rintro g' S' ⟨_, _, _, hm⟩
   exact none_some hm
  rintro m1 g' S' ⟨i1, hsub1, hS1, hm⟩
  refine WP.sub hsub1 (WP.weaken hS1 ?_)
  rw [ref13_SameStrokes_loop1] at hm
  refine WP.seq (WP.seq (WP.region ?_))
  refine wq rfl rfl rfl (ov_move rfl rfl) ?_
  refine wq rfl rfl rfl (ov_move rfl rfl) ?_
  refine wq rfl rfl rfl (ov_len_slice underlying23 rfl rfl) ?_
  refine wq rfl rfl rfl (ov_lss rfl rfl rfl) ?_
  refine WL.nil (tn ?_)
  refine WP.cond rfl (fun hc4 => ?_) (fun hc4 => ?_)
  ·
   replace hm := ite_t hc4 hm
   refine WP.skip (tn (WP.seq (WP.block (WP.seq ?_))))
   refine WP.region_draws (by kernel_rfl) (by kernel_rfl) (fun _ s => s.drew) ?_
   refine qf rfl (ov_move rfl rfl) ?_
   refine qf rfl (ov_move rfl rfl) ?_
   obtain ⟨x1, e1, hm⟩ := bind_some hm
   obtain ⟨h3, h4, h5, cs1, h6, h7⟩ := h1.get e1 (by decide)
   obtain rfl : cs1 = [(.int .i64 x1.actuator), (.bool x1.out)] := h6
   refine qf rfl (ov_indexAddr underlying23 sizeOf112 rfl rfl rfl h3 h4 h5) ?_
   refine qf rfl (ov_load_elems (vs := [(.int .i64 x1.actuator), (.bool x1.out)]) isAgg112 sizeOf112 rfl rfl rfl h7 h5) ?_
   refine qf rfl (ov_move rfl rfl) ?_
   refine qf rfl (ov_move rfl rfl) ?_
   obtain ⟨x2, e2, hm⟩ := bind_some hm
   obtain ⟨h8, h9, h10, cs2, h11, h12⟩ := h2.get e2 (by decide)
   obtain rfl : cs2 = [(.int .i64 x2.actuator), (.bool x2.out)] := h11
   refine qf rfl (ov_indexAddr underlying23 sizeOf112 rfl rfl rfl h8 h9 h10) ?_
   refine qf rfl (ov_load_elems (vs := [(.int .i64 x2.actuator), (.bool x2.out)]) isAgg112 sizeOf112 rfl rfl rfl h12 h10) ?_
   refine qf rfl (neq_struct112 (a := x1) (b := x2) rfl rfl rfl) ?_
   refine QL.nil ?_
   refine tn ?_
   refine WP.cond rfl (fun hc5 => ?_) (fun hc5 => ?_)
   ·
    replace hm := ite_t hc5 hm
    refine WP.seq (WP.region ?_)
    refine wq rfl rfl rfl (ov_assign rfl rfl) ?_
    refine WL.nil (tn (WP.ret (block_ret (then_ret (then_ret (block_ret (then_ret ?_)))))))
    obtain rfl := Option.some.inj hm
    refine retQ_ret results99 (Res.tmp rfl Res.nil) rfl (fun w' s => ⟨s.below, ?_⟩)
    exact rfl
   replace hm := ite_f hc5 hm
   refine WP.skip (bn (tn (WP.region ?_)))
   refine wq rfl rfl rfl (ov_move rfl rfl) ?_
   refine wq rfl rfl rfl (ov_add rfl rfl rfl) ?_
   refine wq rfl rfl rfl (ov_assign rfl rfl) ?_
   refine WL.nil (tn ?_)
   exact ⟨(IntKind.wrap .i64 (i1 + 1)), (Sub.all rfl), fun w' s => s, hm⟩
  replace hm := ite_f hc4 hm
  refine WP.exit (then_exit (then_exit (block_here (tn ?_))))
  exact ⟨(Sub.all rfl), fun w' s => s, hm⟩
 rintro g' S' ⟨hsub2, hS2, hm⟩
 refine WP.sub hsub2 (WP.weaken hS2 ?_)
 replace hm := hk1.symm.trans hm
 refine WP.seq (WP.region ?_)
 refine wq rfl rfl rfl (ov_assign rfl rfl) ?_
 refine WL.nil (tn (WP.ret ?_))
 obtain rfl := Option.some.inj hm
 refine retQ_ret results99 (Res.tmp rfl Res.nil) rfl (fun w' s => ⟨s.below, ?_⟩)
 exact rfl
theorem ref13_Same_con (p_a : Step) (p_b : Step) (ao1 : Option Addr) (cap1 : Nat) (ao2 : Option Addr) (cap2 : Nat) (w : World) (H : Heap) (hH : Le H (hp w)) (h1 : SL H encStroke ao1 p_a.strokes) (hc1 : p_a.strokes.length ≤ cap1) (h2 : SL H encStroke ao2 p_b.strokes) (hc2 : p_b.strokes.length ≤ cap2) (hG : Glob H) (r : Bool) (hm : ref13_Same p_a p_b = some r) :
  Con prog 60 [(.agg #[(.slice ao1 p_a.strokes.length cap1), (.int .i64 p_a.wait)]), (.agg #[(.slice ao2 p_b.strokes.length cap2), (.int .i64 p_b.wait)])] w H (fun v _ => v = (.bool r)) := by
 unfold ref13_Same at hm
 refine con_of hH func60 rfl 17 ntmps60 rfl ?_
 refine WP.seq (WP.region ?_)
 refine ws rfl (os_box (cs := [(.slice ao1 p_a.strokes.length cap1), (.int .i64 p_a.wait)]) rfl rfl rfl (fun b1 => ?_))
 refine ws rfl (os_box (cs := [(.slice ao2 p_b.strokes.length cap2), (.int .i64 p_b.wait)]) rfl rfl rfl (fun b2 => ?_))
 refine wq rfl rfl rfl (ov_assign rfl rfl) ?_
 refine WL.nil (tn (WP.seq (WP.region ?_)))
 refine wq rfl rfl rfl (ov_fieldAddr underlying25 rfl rfl rfl sizeOf3 rfl rfl) ?_
 refine wq rfl rfl rfl (ov_load_box (i := 1) isAgg3 rfl rfl rfl rfl) ?_
 refine wq rfl rfl rfl (ov_fieldAddr underlying25 rfl rfl rfl sizeOf3 rfl rfl) ?_
 refine wq rfl rfl rfl (ov_load_box (i := 0) isAgg3 rfl rfl rfl rfl) ?_
 refine wq rfl rfl rfl (ov_eql rfl rfl rfl) ?_
 refine wq rfl rfl rfl (ov_move rfl rfl) ?_
 obtain ⟨c1, e1, hm⟩ := bind_some hm
 refine WL.cut_bool 6 16 (x := c1) ?_ ?_
 ·
  rcases Bool.eq_false_or_eq_true (p_a.wait == p_b.wait) with hc3 | hc3
  ·
   replace hm := ite_t hc3 e1
   refine wy hc3 rfl (ov_fieldAddr underlying25 rfl rfl rfl sizeOf23 rfl rfl) ?_
   refine wy hc3 rfl (ov_load_box (i := 1) isAgg23 rfl rfl rfl rfl) ?_
   refine wy hc3 rfl (ov_fieldAddr underlying25 rfl rfl rfl sizeOf23 rfl rfl) ?_
   refine wy hc3 rfl (ov_load_box (i := 0) isAgg23 rfl rfl rfl rfl) ?_
   obtain ⟨r1, e2, hm⟩ := bind_some hm
   refine WL.quiet (Runs.yes rfl rfl rfl hc3) rfl rfl (oq_con (r := (.bool r1)) call99 rfl rfl (fun w' s => ⟨_, (ref13_SameStrokes_con p_a.strokes p_b.strokes ao1 cap1 ao2 cap2  w' H s.hold h1 hc1 h2 hc2 hG r1 e2)⟩)) ?_
   refine wq rfl rfl rfl (ov_pick_true rfl (guard_eq rfl hc3) rfl) ?_
   exact WL.nil ⟨Sub.cons' rfl (congrArg Value.bool (Option.some.inj hm)) (Sub.dropn 6 rfl), fun _ s => s⟩
  replace hm := ite_f hc3 e1
  refine WL.idle (Idle.no rfl rfl rfl hc3) rfl rfl ?_
  refine WL.idle (Idle.no rfl rfl rfl hc3) rfl rfl ?_
  refine WL.idle (Idle.no rfl rfl rfl hc3) rfl rfl ?_
  refine WL.idle (Idle.no rfl rfl rfl hc3) rfl rfl ?_
  refine WL.idle (Idle.no rfl rfl rfl hc3) rfl rfl ?_
  refine wq rfl rfl rfl (ov_pick_false rfl (guard_eq rfl hc3) rfl) ?_
  exact WL.nil ⟨Sub.cons' rfl (congrArg Value.bool (Option.some.inj hm)) (Sub.dropn 6 rfl), fun _ s => s⟩
 refine wq rfl rfl rfl (ov_assign rfl rfl) ?_
 refine WL.nil (tn (WP.ret ?_))
 obtain rfl := Option.some.inj hm
 refine retQ_ret results60 (Res.tmp rfl Res.nil) rfl (fun w' s => ⟨s.below, ?_⟩)
 exact rfl
theorem ref15_equal_body_con (self : Node → Node → Option Bool) (hself : ∀ (p_a : Node) (p_b : Node) (ao1 : Option Addr) (cap1 : Nat) (ao2 : Option Addr) (cap2 : Nat) (ao3 : Option Addr) (cap3 : Nat) (ao4 : Option Addr) (cap4 : Nat) (w : World) (H : Heap) (hH : Le H (hp w)) (h1 : SL H encStroke ao1 p_a.step.strokes) (hc1 : p_a.step.strokes.length ≤ cap1) (h2 : SL H encNode ao2 p_a.nodes) (hc2 : p_a.nodes.length ≤ cap2) (h3 : SL H encStroke ao3 p_b.step.strokes) (hc3 : p_b.step.strokes.length ≤ cap3) (h4 : SL H encNode ao4 p_b.nodes) (hc4 : p_b.nodes.length ≤ cap4) (hG : Glob H) (r : Bool) (hm : self p_a p_b = some r), Con prog 49 [(.agg #[(.int .i64 p_a.kind), (.slice ao1 p_a.step.strokes.length cap1), (.int .i64 p_a.step.wait), (.int .i64 p_a.count), (mkS p_a.name), (.slice ao2 p_a.nodes.length cap2)]), (.agg #[(.int .i64 p_b.kind), (.slice ao3 p_b.step.strokes.length cap3), (.int .i64 p_b.step.wait), (.int .i64 p_b.count), (mkS p_b.name), (.slice ao4 p_b.nodes.length cap4)])] w H (fun v _ => v = (.bool r))) (p_a : Node) (p_b : Node) (ao1 : Option Addr) (cap1 : Nat) (ao2 : Option Addr) (cap2 : Nat) (ao3 : Option Addr) (cap3 : Nat) (ao4 : Option Addr) (cap4 : Nat) (w : World) (H : Heap) (hH : Le H (hp w)) (h1 : SL H encStroke ao1 p_a.step.strokes) (hc1 : p_a.step.strokes.length ≤ cap1) (h2 : SL H encNode ao2 p_a.nodes) (hc2 : p_a.nodes.length ≤ cap2) (h3 : SL H encStroke ao3 p_b.step.strokes) (hc3 : p_b.step.strokes.length ≤ cap3) (h4 : SL H encNode ao4 p_b.nodes) (hc4 : p_b.nodes.length ≤ cap4) (hG : Glob H) (r : Bool) (hm : ref15_equal_body self p_a p_b = some r) :
  Con prog 49 [(.agg #[(.int .i64 p_a.kind), (.slice ao1 p_a.step.strokes.length cap1), (.int .i64 p_a.step.wait), (.int .i64 p_a.count), (mkS p_a.name), (.slice ao2 p_a.nodes.length cap2)]), (.agg #[(.int .i64 p_b.kind), (.slice ao3 p_b.step.strokes.length cap3), (.int .i64 p_b.step.wait), (.int .i64 p_b.count), (mkS p_b.name), (.slice ao4 p_b.nodes.length cap4)])] w H (fun v _ => v = (.bool r)) := by
 unfold ref15_equal_body at hm
 refine con_of hH func49 rfl 61 ntmps49 rfl ?_
 refine WP.seq (WP.region ?_)
 refine ws rfl (os_box (cs := [(.int .i64 p_a.kind), (.slice ao1 p_a.step.strokes.length cap1), (.int .i64 p_a.step.wait), (.int .i64 p_a.count), (mkS p_a.name), (.slice ao2 p_a.nodes.length cap2)]) rfl rfl rfl (fun b1 => ?_))
 refine ws rfl (os_box (cs := [(.int .i64 p_b.kind), (.slice ao3 p_b.step.strokes.length cap3), (.int .i64 p_b.step.wait), (.int .i64 p_b.count), (mkS p_b.name), (.slice ao4 p_b.nodes.length cap4)]) rfl rfl rfl (fun b2 => ?_))
 refine wq rfl rfl rfl (ov_assign rfl rfl) ?_
 refine WL.nil (tn (WP.seq (WP.seq (WP.region ?_))))
 refine wq rfl rfl rfl (ov_fieldAddr underlying28 rfl rfl rfl sizeOf3 rfl rfl) ?_
 refine wq rfl rfl rfl (ov_load_box (i := 1) isAgg3 rfl rfl rfl rfl) ?_
 refine wq rfl rfl rfl (ov_fieldAddr underlying28 rfl rfl rfl sizeOf3 rfl rfl) ?_
 refine wq rfl rfl rfl (ov_load_box (i := 0) isAgg3 rfl rfl rfl rfl) ?_
 refine wq rfl rfl rfl (ov_neq rfl rfl rfl) ?_
 refine wq rfl rfl rfl (ov_move rfl rfl) ?_
 refine WL.cut_bool 6 17 (x := ((p_a.kind != p_b.kind) || (p_a.count != p_b.count))) ?_ ?_
 ·
  rcases Bool.eq_false_or_eq_true (p_a.kind != p_b.kind) with hc5 | hc5
  ·
   refine WL.idle (Idle.no rfl rfl rfl hc5) rfl rfl ?_
   refine WL.idle (Idle.no rfl rfl rfl hc5) rfl rfl ?_
   refine WL.idle (Idle.no rfl rfl rfl hc5) rfl rfl ?_
   refine WL.idle (Idle.no rfl rfl rfl hc5) rfl rfl ?_
   refine WL.idle (Idle.no rfl rfl rfl hc5) rfl rfl ?_
   refine wq rfl rfl rfl (ov_pick_true rfl (guard_eq rfl hc5) rfl) ?_
   exact WL.nil ⟨Sub.cons' rfl (congrArg Value.bool (orT hc5)) (Sub.dropn 6 rfl), fun _ s => s⟩
  refine wy hc5 rfl (ov_fieldAddr underlying28 rfl rfl rfl sizeOf3 rfl rfl) ?_
  refine wy hc5 rfl (ov_load_box (i := 1) isAgg3 rfl rfl rfl rfl) ?_
  refine wy hc5 rfl (ov_fieldAddr underlying28 rfl rfl rfl sizeOf3 rfl rfl) ?_
  refine wy hc5 rfl (ov_load_box (i := 0) isAgg3 rfl rfl rfl rfl) ?_
  refine wy hc5 rfl (ov_neq rfl rfl rfl) ?_
  refine wq rfl rfl rfl (ov_pick_false rfl (guard_eq rfl hc5) rfl) ?_
  exact WL.nil ⟨Sub.cons' rfl (congrArg Value.bool (orF hc5)) (Sub.dropn 6 rfl), fun _ s => s⟩
 refine wq rfl rfl rfl (ov_move rfl rfl) ?_
 refine WL.cut_bool 6 24 (x := (((p_a.kind != p_b.kind) || (p_a.count != p_b.count)) || (!(p_a.name == p_b.name)))) ?_ ?_
 ·
  rcases Bool.eq_false_or_eq_true ((p_a.kind != p_b.kind) || (p_a.count != p_b.count)) with hc6 | hc6
  ·
   refine WL.idle (Idle.no rfl rfl rfl hc6) rfl rfl ?_
   refine WL.idle (Idle.no rfl rfl rfl hc6) rfl rfl ?_
   refine WL.idle (Idle.no rfl rfl rfl hc6) rfl rfl ?_
   refine WL.idle (Idle.no rfl rfl rfl hc6) rfl rfl ?_
   refine WL.idle (Idle.no rfl rfl rfl hc6) rfl rfl ?_
   refine wq rfl rfl rfl (ov_pick_true rfl (guard_eq rfl hc6) rfl) ?_
   exact WL.nil ⟨Sub.cons' rfl (congrArg Value.bool (orT hc6)) (Sub.dropn 6 rfl), fun _ s => s⟩
  refine wy hc6 rfl (ov_fieldAddr underlying28 rfl rfl rfl sizeOf9 rfl rfl) ?_
  refine wy hc6 rfl (ov_load_box (i := 1) isAgg9 rfl rfl rfl rfl) ?_
  refine wy hc6 rfl (ov_fieldAddr underlying28 rfl rfl rfl sizeOf9 rfl rfl) ?_
  refine wy hc6 rfl (ov_load_box (i := 0) isAgg9 rfl rfl rfl rfl) ?_
  refine wy hc6 rfl (ov_sneq rfl rfl rfl) ?_
  refine wq rfl rfl rfl (ov_pick_false rfl (guard_eq rfl hc6) rfl) ?_
  exact WL.nil ⟨Sub.cons' rfl (congrArg Value.bool (orF hc6)) (Sub.dropn 6 rfl), fun _ s => s⟩
 refine wq rfl rfl rfl (ov_move rfl rfl) ?_
 refine WL.cut_bool 8 33 (x := ((((p_a.kind != p_b.kind) || (p_a.count != p_b.count)) || (!(p_a.name == p_b.name))) || ((p_a.nodes.length : Int) != (p_b.nodes.length : Int)))) ?_ ?_
 ·
  rcases Bool.eq_false_or_eq_true (((p_a.kind != p_b.kind) || (p_a.count != p_b.count)) || (!(p_a.name == p_b.name))) with hc7 | hc7
  ·
   refine WL.idle (Idle.no rfl rfl rfl hc7) rfl rfl ?_
   refine WL.idle (Idle.no rfl rfl rfl hc7) rfl rfl ?_
   refine WL.idle (Idle.no rfl rfl rfl hc7) rfl rfl ?_
   refine WL.idle (Idle.no rfl rfl rfl hc7) rfl rfl ?_
   refine WL.idle (Idle.no rfl rfl rfl hc7) rfl rfl ?_
   refine WL.idle (Idle.no rfl rfl rfl hc7) rfl rfl ?_
   refine WL.idle (Idle.no rfl rfl rfl hc7) rfl rfl ?_
   refine wq rfl rfl rfl (ov_pick_true rfl (guard_eq rfl hc7) rfl) ?_
   exact WL.nil ⟨Sub.cons' rfl (congrArg Value.bool (orT hc7)) (Sub.dropn 8 rfl), fun _ s => s⟩
  refine wy hc7 rfl (ov_fieldAddr underlying28 rfl rfl rfl sizeOf26 rfl rfl) ?_
  refine wy hc7 rfl (ov_load_box (i := 1) isAgg26 rfl rfl rfl rfl) ?_
  refine wy hc7 rfl (ov_len_slice underlying26 rfl rfl) ?_
  refine wy hc7 rfl (ov_fieldAddr underlying28 rfl rfl rfl sizeOf26 rfl rfl) ?_
  refine wy hc7 rfl (ov_load_box (i := 0) isAgg26 rfl rfl rfl rfl) ?_
  refine wy hc7 rfl (ov_len_slice underlying26 rfl rfl) ?_
  refine wy hc7 rfl (ov_neq rfl rfl rfl) ?_
  refine wq rfl rfl rfl (ov_pick_false rfl (guard_eq rfl hc7) rfl) ?_
  exact WL.nil ⟨Sub.cons' rfl (congrArg Value.bool (orF hc7)) (Sub.dropn 8 rfl), fun _ s => s⟩
 refine wq rfl rfl rfl (ov_move rfl rfl) ?_
 obtain ⟨c1, e1, hm⟩ := bind_some hm
 refine WL.cut_bool 7 41 (x := c1) ?_ ?_
 ·
  rcases Bool.eq_false_or_eq_true ((((p_a.kind != p_b.kind) || (p_a.count != p_b.count)) || (!(p_a.name == p_b.name))) || ((p_a.nodes.length : Int) != (p_b.nodes.length : Int))) with hc8 | hc8
  ·
   replace hm := ite_t hc8 e1
   refine WL.idle (Idle.no rfl rfl rfl hc8) rfl rfl ?_
   refine WL.idle (Idle.no rfl rfl rfl hc8) rfl rfl ?_
   refine WL.idle (Idle.no rfl rfl rfl hc8) rfl rfl ?_
   refine WL.idle (Idle.no rfl rfl rfl hc8) rfl rfl ?_
   refine WL.idle (Idle.no rfl rfl rfl hc8) rfl rfl ?_
   refine WL.idle (Idle.no rfl rfl rfl hc8) rfl rfl ?_
   refine wq rfl rfl rfl (ov_pick_true rfl (guard_eq rfl hc8) rfl) ?_
   exact WL.nil ⟨Sub.cons' rfl (congrArg Value.bool (Option.some.inj hm)) (Sub.dropn 7 rfl), fun _ s => s⟩
  replace hm := ite_f hc8 e1
  refine wy hc8 rfl (ov_fieldAddr underlying28 rfl rfl rfl sizeOf25 rfl rfl) ?_
  refine wy hc8 rfl (ov_load_boxes (i := 1) (vs := [(.slice ao1 p_a.step.strokes.length cap1), (.int .i64 p_a.step.wait)]) isAgg25 sizeOf25 rfl rfl rfl rfl (part_of rfl)) ?_
  refine wy hc8 rfl (ov_fieldAddr underlying28 rfl rfl rfl sizeOf25 rfl rfl) ?_
  refine wy hc8 rfl (ov_load_boxes (i := 0) (vs := [(.slice ao3 p_b.step.strokes.length cap3), (.int .i64 p_b.step.wait)]) isAgg25 sizeOf25 rfl rfl rfl rfl (part_of rfl)) ?_
  obtain ⟨r1, e2, hm⟩ := bind_some hm
  refine WL.quiet (Runs.yes rfl rfl rfl hc8) rfl rfl (oq_con (r := (.bool r1)) call60 rfl rfl (fun w' s => ⟨_, (ref13_Same_con p_a.step p_b.step ao1 cap1 ao3 cap3  w' H s.hold h1 hc1 h3 hc3 hG r1 e2)⟩)) ?_
  refine wy hc8 rfl (ov_not rfl rfl) ?_
  refine wq rfl rfl rfl (ov_pick_false rfl (guard_eq rfl hc8) rfl) ?_
  exact WL.nil ⟨Sub.cons' rfl (congrArg Value.bool (Option.some.inj hm)) (Sub.dropn 7 rfl), fun _ s => s⟩
 refine WL.nil (tn ?_)
 refine WP.cond rfl (fun hc9 => ?_) (fun hc9 => ?_)
 ·
  replace hm := ite_t hc9 hm
  refine WP.seq (WP.region ?_)
  refine wq rfl rfl rfl (ov_assign rfl rfl) ?_
  refine WL.nil (tn (WP.ret (then_ret ?_)))
  obtain rfl := Option.some.inj hm
  refine retQ_ret results49 (Res.tmp rfl Res.nil) rfl (fun w' s => ⟨s.below, ?_⟩)
  exact rfl
 replace hm := ite_f hc9 hm
 refine WP.skip (tn ?_)
 obtain ⟨k1, hk1, hm⟩ := joinK_some hm
 refine WP.seq_join (fun g' S' => Sub [(1000000007, (.bool false))] g' ∧ (∀ w', S' w' → St w H [] H w') ∧ k1 = some r) ?_ ?_
 ·
  refine WP.seq (WP.region ?_)
  refine wq rfl rfl rfl (ov_assign rfl rfl) ?_
  refine WL.nil (tn (WP.block ?_))
  refine WP.loop (fun m1 g' S' => ∃ (i1 : Int), Sub [(2, (pB b1 0)), (3, (pB b2 0)), (5, (.int .i64 i1)), (1000000007, (.bool false))] g' ∧ (∀ w', S' w' → St w H [.blk b2 28 [(.int .i64 p_b.kind), (.slice ao3 p_b.step.strokes.length cap3), (.int .i64 p_b.step.wait), (.int .i64 p_b.count), (mkS p_b.name), (.slice ao4 p_b.nodes.length cap4)], .blk b1 28 [(.int .i64 p_a.kind), (.slice ao1 p_a.step.strokes.length cap1), (.int .i64 p_a.step.wait), (.int .i64 p_a.count), (mkS p_a.name), (.slice ao2 p_a.nodes.length cap2)]] H w') ∧ ref15_equal_loop1 p_a p_b self k1 m1 i1 = some r) ((Int.toNat ((p_a.nodes.length : Int) - 0) + 1)) ⟨0, (Sub.all rfl), fun w' s => s, hm⟩ ?_ ?_
  ·
   rintro g' S' ⟨_, _, _, hm⟩
   exact none_some hm
  rintro m1 g' S' ⟨i1, hsub1, hS1, hm⟩
  refine WP.sub hsub1 (WP.weaken hS1 ?_)
  rw [ref15_equal_loop1] at hm
  refine WP.seq (WP.seq (WP.region ?_))
  refine wq rfl rfl rfl (ov_move rfl rfl) ?_
  refine wq rfl rfl rfl (ov_fieldAddr underlying28 rfl rfl rfl sizeOf26 rfl rfl) ?_
  refine wq rfl rfl rfl (ov_load_box (i := 1) isAgg26 rfl rfl rfl rfl) ?_
  refine wq rfl rfl rfl (ov_len_slice underlying26 rfl rfl) ?_
  refine wq rfl rfl rfl (ov_lss rfl rfl rfl) ?_
  refine WL.nil (tn ?_)
  refine WP.cond rfl (fun hc10 => ?_) (fun hc10 => ?_)
  ·
   replace hm := ite_t hc10 hm
   refine WP.skip (tn (WP.seq (WP.block (WP.seq ?_))))
   refine WP.region_draws (by kernel_rfl) (by kernel_rfl) (fun _ s => s.drew) ?_
   refine qf rfl (ov_fieldAddr underlying28 rfl rfl rfl sizeOf26 rfl rfl) ?_
   refine qf rfl (ov_load_box (i := 1) isAgg26 rfl rfl rfl rfl) ?_
   refine qf rfl (ov_move rfl rfl) ?_
   obtain ⟨x1, e3, hm⟩ := bind_some hm
   obtain ⟨h7, h8, h9, cs1, h10, h11⟩ := h2.get e3 (by decide)
   obtain ⟨ao5, cap5, ao6, cap6, rfl, h5, hc11, h6, hc12⟩ := (encNode_open h10)
   refine qf rfl (ov_indexAddr underlying26 sizeOf28 rfl rfl rfl h7 h8 h9) ?_
   refine qf rfl (ov_load_elems (vs := [(.int .i64 x1.kind), (.slice ao5 x1.step.strokes.length cap5), (.int .i64 x1.step.wait), (.int .i64 x1.count), (mkS x1.name), (.slice ao6 x1.nodes.length cap6)]) isAgg28 sizeOf28 rfl rfl rfl h11 h9) ?_
   refine qf rfl (ov_fieldAddr underlying28 rfl rfl rfl sizeOf26 rfl rfl) ?_
   refine qf rfl (ov_load_box (i := 0) isAgg26 rfl rfl rfl rfl) ?_
   refine qf rfl (ov_move rfl rfl) ?_
   obtain ⟨x2, e4, hm⟩ := bind_some hm
   obtain ⟨h14, h15, h16, cs2, h17, h18⟩ := h4.get e4 (by decide)
   obtain ⟨ao7, cap7, ao8, cap8, rfl, h12, hc13, h13, hc14⟩ := (encNode_open h17)
   refine qf rfl (ov_indexAddr underlying26 sizeOf28 rfl rfl rfl h14 h15 h16) ?_
   refine qf rfl (ov_load_elems (vs := [(.int .i64 x2.kind), (.slice ao7 x2.step.strokes.length cap7), (.int .i64 x2.step.wait), (.int .i64 x2.count), (mkS x2.name), (.slice ao8 x2.nodes.length cap8)]) isAgg28 sizeOf28 rfl rfl rfl h18 h16) ?_
   obtain ⟨r2, e5, hm⟩ := bind_some hm
   refine QL.quiet (Runs.free rfl) rfl rfl (oq_con (r := (.bool r2)) call49 rfl rfl (fun w' s => ⟨_, (hself x1 x2 ao5 cap5 ao6 cap6 ao7 cap7 ao8 cap8  w' H s.hold h5 hc11 h6 hc12 h12 hc13 h13 hc14 hG r2 e5)⟩)) ?_
   refine qf rfl (ov_not rfl rfl) ?_
   refine QL.nil ?_
   refine tn ?_
   refine WP.cond rfl (fun hc15 => ?_) (fun hc15 => ?_)
   ·
    replace hm := ite_t hc15 hm
    refine WP.seq (WP.region ?_)
    refine wq rfl rfl rfl (ov_assign rfl rfl) ?_
    refine WL.nil (tn (WP.ret (block_ret (then_ret (then_ret (block_ret (then_ret ?_)))))))
    obtain rfl := Option.some.inj hm
    refine retQ_ret results49 (Res.tmp rfl Res.nil) rfl (fun w' s => ⟨s.below, ?_⟩)
    exact rfl
   replace hm := ite_f hc15 hm
   refine WP.skip (bn (tn (WP.region ?_)))
   refine wq rfl rfl rfl (ov_move rfl rfl) ?_
   refine wq rfl rfl rfl (ov_add rfl rfl rfl) ?_
   refine wq rfl rfl rfl (ov_assign rfl rfl) ?_
   refine WL.nil (tn ?_)
   exact ⟨(IntKind.wrap .i64 (i1 + 1)), (Sub.all rfl), fun w' s => s, hm⟩
  replace hm := ite_f hc10 hm
  refine WP.exit (then_exit (then_exit (block_here (tn ?_))))
  exact ⟨(Sub.all rfl), fun w' s => (s.select [] (by decide) rfl), hm⟩
 rintro g' S' ⟨hsub2, hS2, hm⟩
 refine WP.sub hsub2 (WP.weaken hS2 ?_)
 replace hm := hk1.symm.trans hm
 refine WP.seq (WP.region ?_)
 refine wq rfl rfl rfl (ov_assign rfl rfl) ?_
 refine WL.nil (tn (WP.ret ?_))
 obtain rfl := Option.some.inj hm
 refine retQ_ret results49 (Res.tmp rfl Res.nil) rfl (fun w' s => ⟨s.below, ?_⟩)
 exact rfl
theorem ref15_equal_con (n : Nat) : ∀ (p_a : Node) (p_b : Node) (ao1 : Option Addr) (cap1 : Nat) (ao2 : Option Addr) (cap2 : Nat) (ao3 : Option Addr) (cap3 : Nat) (ao4 : Option Addr) (cap4 : Nat) (w : World) (H : Heap) (hH : Le H (hp w)) (h1 : SL H encStroke ao1 p_a.step.strokes) (hc1 : p_a.step.strokes.length ≤ cap1) (h2 : SL H encNode ao2 p_a.nodes) (hc2 : p_a.nodes.length ≤ cap2) (h3 : SL H encStroke ao3 p_b.step.strokes) (hc3 : p_b.step.strokes.length ≤ cap3) (h4 : SL H encNode ao4 p_b.nodes) (hc4 : p_b.nodes.length ≤ cap4) (hG : Glob H) (r : Bool) (hm : ref15_equal n p_a p_b = some r),
  Con prog 49 [(.agg #[(.int .i64 p_a.kind), (.slice ao1 p_a.step.strokes.length cap1), (.int .i64 p_a.step.wait), (.int .i64 p_a.count), (mkS p_a.name), (.slice ao2 p_a.nodes.length cap2)]), (.agg #[(.int .i64 p_b.kind), (.slice ao3 p_b.step.strokes.length cap3), (.int .i64 p_b.step.wait), (.int .i64 p_b.count), (mkS p_b.name), (.slice ao4 p_b.nodes.length cap4)])] w H (fun v _ => v = (.bool r)) := by
 induction n with
 | zero => intro p_a p_b ao1 cap1 ao2 cap2 ao3 cap3 ao4 cap4 w H hH h1 hc1 h2 hc2 h3 hc3 h4 hc4 hG r hm; exact (none_some hm).elim
 | succ n ih => intro p_a p_b ao1 cap1 ao2 cap2 ao3 cap3 ao4 cap4 w H hH h1 hc1 h2 hc2 h3 hc3 h4 hc4 hG r hm; exact ref15_equal_body_con (ref15_equal n) ih p_a p_b ao1 cap1 ao2 cap2 ao3 cap3 ao4 cap4 w H hH h1 hc1 h2 hc2 h3 hc3 h4 hc4 hG r hm
theorem ref15_Same_con (p_a : Node) (p_b : Node) (ao1 : Option Addr) (cap1 : Nat) (ao2 : Option Addr) (cap2 : Nat) (ao3 : Option Addr) (cap3 : Nat) (ao4 : Option Addr) (cap4 : Nat) (w : World) (H : Heap) (hH : Le H (hp w)) (h1 : SL H encStroke ao1 p_a.step.strokes) (hc1 : p_a.step.strokes.length ≤ cap1) (h2 : SL H encNode ao2 p_a.nodes) (hc2 : p_a.nodes.length ≤ cap2) (h3 : SL H encStroke ao3 p_b.step.strokes) (hc3 : p_b.step.strokes.length ≤ cap3) (h4 : SL H encNode ao4 p_b.nodes) (hc4 : p_b.nodes.length ≤ cap4) (hG : Glob H) (r : Bool) (hm : ref15_Same p_a p_b = some r) :
  Con prog 14 [(.agg #[(.int .i64 p_a.kind), (.slice ao1 p_a.step.strokes.length cap1), (.int .i64 p_a.step.wait), (.int .i64 p_a.count), (mkS p_a.name), (.slice ao2 p_a.nodes.length cap2)]), (.agg #[(.int .i64 p_b.kind), (.slice ao3 p_b.step.strokes.length cap3), (.int .i64 p_b.step.wait), (.int .i64 p_b.count), (mkS p_b.name), (.slice ao4 p_b.nodes.length cap4)])] w H (fun v _ => v = (.bool r)) := by
 unfold ref15_Same at hm
 refine con_of hH func14 rfl 16 ntmps14 rfl ?_
 refine WP.seq (WP.region ?_)
 refine ws rfl (os_box (cs := [(.int .i64 p_a.kind), (.slice ao1 p_a.step.strokes.length cap1), (.int .i64 p_a.step.wait), (.int .i64 p_a.count), (mkS p_a.name), (.slice ao2 p_a.nodes.length cap2)]) rfl rfl rfl (fun b1 => ?_))
 refine ws rfl (os_box (cs := [(.int .i64 p_b.kind), (.slice ao3 p_b.step.strokes.length cap3), (.int .i64 p_b.step.wait), (.int .i64 p_b.count), (mkS p_b.name), (.slice ao4 p_b.nodes.length cap4)]) rfl rfl rfl (fun b2 => ?_))
 refine wq rfl rfl rfl (ov_assign rfl rfl) ?_
 refine WL.nil (tn (WP.seq (WP.region ?_)))
 refine wq rfl rfl rfl (ov_load_whole (i := 1) isAgg28 sizeOf28 rfl rfl rfl rfl) ?_
 obtain ⟨r1, e1, hm⟩ := bind_some hm
 refine wo rfl (oq_con (r := (.bool r1)) call38 rfl rfl (fun w' s => ⟨_, (ref15_Light_con p_a ao1 cap1 ao2 cap2  w' H s.hold h1 hc1 h2 hc2 hG r1 e1)⟩)) ?_
 refine wq rfl rfl rfl (ov_move rfl rfl) ?_
 obtain ⟨c1, e2, hm⟩ := bind_some hm
 refine WL.cut_bool 3 10 (x := c1) ?_ ?_
 ·
  rcases Bool.eq_false_or_eq_true r1 with hc5 | hc5
  ·
   replace hm := ite_t hc5 e2
   refine wy hc5 rfl (ov_load_whole (i := 0) isAgg28 sizeOf28 rfl rfl rfl rfl) ?_
   obtain ⟨r2, e3, hm⟩ := bind_some hm
   refine WL.quiet (Runs.yes rfl rfl rfl hc5) rfl rfl (oq_con (r := (.bool r2)) call38 rfl rfl (fun w' s => ⟨_, (ref15_Light_con p_b ao3 cap3 ao4 cap4  w' H s.hold h3 hc3 h4 hc4 hG r2 e3)⟩)) ?_
   refine wq rfl rfl rfl (ov_pick_true rfl (guard_eq rfl hc5) rfl) ?_
   exact WL.nil ⟨Sub.cons' rfl (congrArg Value.bool (Option.some.inj hm)) (Sub.dropn 3 rfl), fun _ s => s⟩
  replace hm := ite_f hc5 e2
  refine WL.idle (Idle.no rfl rfl rfl hc5) rfl rfl ?_
  refine WL.idle (Idle.no rfl rfl rfl hc5) rfl rfl ?_
  refine wq rfl rfl rfl (ov_pick_false rfl (guard_eq rfl hc5) rfl) ?_
  exact WL.nil ⟨Sub.cons' rfl (congrArg Value.bool (Option.some.inj hm)) (Sub.dropn 3 rfl), fun _ s => s⟩
 refine wq rfl rfl rfl (ov_move rfl rfl) ?_
 obtain ⟨c2, e4, hm⟩ := bind_some hm
 refine WL.cut_bool 4 15 (x := c2) ?_ ?_
 ·
  rcases Bool.eq_false_or_eq_true c1 with hc6 | hc6
  ·
   replace hm := ite_t hc6 e4
   refine wy hc6 rfl (ov_load_whole (i := 1) isAgg28 sizeOf28 rfl rfl rfl rfl) ?_
   refine wy hc6 rfl (ov_load_whole (i := 0) isAgg28 sizeOf28 rfl rfl rfl rfl) ?_
   obtain ⟨r3, e5, hm⟩ := bind_some hm
   refine WL.quiet (Runs.yes rfl rfl rfl hc6) rfl rfl (oq_con (r := (.bool r3)) call49 rfl rfl (fun w' s => ⟨_, (ref15_equal_con 600 p_a p_b ao1 cap1 ao2 cap2 ao3 cap3 ao4 cap4  w' H s.hold h1 hc1 h2 hc2 h3 hc3 h4 hc4 hG r3 e5)⟩)) ?_
   refine wq rfl rfl rfl (ov_pick_true rfl (guard_eq rfl hc6) rfl) ?_
   exact WL.nil ⟨Sub.cons' rfl (congrArg Value.bool (Option.some.inj hm)) (Sub.dropn 4 rfl), fun _ s => s⟩
  replace hm := ite_f hc6 e4
  refine WL.idle (Idle.no rfl rfl rfl hc6) rfl rfl ?_
  refine WL.idle (Idle.no rfl rfl rfl hc6) rfl rfl ?_
  refine WL.idle (Idle.no rfl rfl rfl hc6) rfl rfl ?_
  refine wq rfl rfl rfl (ov_pick_false rfl (guard_eq rfl hc6) rfl) ?_
  exact WL.nil ⟨Sub.cons' rfl (congrArg Value.bool (Option.some.inj hm)) (Sub.dropn 4 rfl), fun _ s => s⟩
 refine wq rfl rfl rfl (ov_assign rfl rfl) ?_
 refine WL.nil (tn (WP.ret ?_))
 obtain rfl := Option.some.inj hm
 refine retQ_ret results14 (Res.tmp rfl Res.nil) rfl (fun w' s => ⟨s.below, ?_⟩)
 exact rfl
theorem ref15_short_body_con (self : Node → Option Bool) (hself : ∀ (p_x : Node) (ao1 : Option Addr) (cap1 : Nat) (ao2 : Option Addr) (cap2 : Nat) (w : World) (H : Heap) (hH : Le H (hp w)) (h1 : SL H encStroke ao1 p_x.step.strokes) (hc1 : p_x.step.strokes.length ≤ cap1) (h2 : SL H encNode ao2 p_x.nodes) (hc2 : p_x.nodes.length ≤ cap2) (hG : Glob H) (r : Bool) (hm : self p_x = some r), Con prog 93 [(.agg #[(.int .i64 p_x.kind), (.slice ao1 p_x.step.strokes.length cap1), (.int .i64 p_x.step.wait), (.int .i64 p_x.count), (mkS p_x.name), (.slice ao2 p_x.nodes.length cap2)])] w H (fun v _ => v = (.bool r))) (p_x : Node) (ao1 : Option Addr) (cap1 : Nat) (ao2 : Option Addr) (cap2 : Nat) (w : World) (H : Heap) (hH : Le H (hp w)) (h1 : SL H encStroke ao1 p_x.step.strokes) (hc1 : p_x.step.strokes.length ≤ cap1) (h2 : SL H encNode ao2 p_x.nodes) (hc2 : p_x.nodes.length ≤ cap2) (hG : Glob H) (r : Bool) (hm : ref15_short_body self p_x = some r) :
  Con prog 93 [(.agg #[(.int .i64 p_x.kind), (.slice ao1 p_x.step.strokes.length cap1), (.int .i64 p_x.step.wait), (.int .i64 p_x.count), (mkS p_x.name), (.slice ao2 p_x.nodes.length cap2)])] w H (fun v _ => v = (.bool r)) := by
 unfold ref15_short_body at hm
 refine con_of hH func93 rfl 29 ntmps93 rfl ?_
 refine WP.seq (WP.region ?_)
 refine ws rfl (os_box (cs := [(.int .i64 p_x.kind), (.slice ao1 p_x.step.strokes.length cap1), (.int .i64 p_x.step.wait), (.int .i64 p_x.count), (mkS p_x.name), (.slice ao2 p_x.nodes.length cap2)]) rfl rfl rfl (fun b1 => ?_))
 refine wq rfl rfl rfl (ov_assign rfl rfl) ?_
 refine WL.nil (tn (WP.seq (WP.seq (WP.region ?_))))
 refine wq rfl rfl rfl (ov_fieldAddr underlying28 rfl rfl rfl sizeOf25 rfl rfl) ?_
 refine wq rfl rfl rfl (ov_fieldAddr underlying25 rfl rfl rfl sizeOf23 rfl rfl) ?_
 refine wq rfl rfl rfl (ov_load_box (i := 0) isAgg23 rfl rfl rfl rfl) ?_
 refine wq rfl rfl rfl (ov_len_slice underlying23 rfl rfl) ?_
 refine wq rfl rfl rfl (ov_gtr rfl rfl rfl) ?_
 refine wq rfl rfl rfl (ov_move rfl rfl) ?_
 refine WL.cut_bool 5 14 (x := ((decide ((p_x.step.strokes.length : Int) > 40)) || (decide ((p_x.name.length : Int) > 60)))) ?_ ?_
 ·
  rcases Bool.eq_false_or_eq_true (decide ((p_x.step.strokes.length : Int) > 40)) with hc3 | hc3
  ·
   refine WL.idle (Idle.no rfl rfl rfl hc3) rfl rfl ?_
   refine WL.idle (Idle.no rfl rfl rfl hc3) rfl rfl ?_
   refine WL.idle (Idle.no rfl rfl rfl hc3) rfl rfl ?_
   refine WL.idle (Idle.no rfl rfl rfl hc3) rfl rfl ?_
   refine wq rfl rfl rfl (ov_pick_true rfl (guard_eq rfl hc3) rfl) ?_
   exact WL.nil ⟨Sub.cons' rfl (congrArg Value.bool (orT hc3)) (Sub.dropn 5 rfl), fun _ s => s⟩
  refine wy hc3 rfl (ov_fieldAddr underlying28 rfl rfl rfl sizeOf9 rfl rfl) ?_
  refine wy hc3 rfl (ov_load_box (i := 0) isAgg9 rfl rfl rfl rfl) ?_
  refine wy hc3 rfl (ov_len_string underlying9 rfl rfl) ?_
  refine wy hc3 rfl (ov_gtr rfl rfl rfl) ?_
  refine wq rfl rfl rfl (ov_pick_false rfl (guard_eq rfl hc3) rfl) ?_
  exact WL.nil ⟨Sub.cons' rfl (congrArg Value.bool (orF hc3)) (Sub.dropn 5 rfl), fun _ s => s⟩
 refine WL.nil (tn ?_)
 refine WP.cond rfl (fun hc4 => ?_) (fun hc4 => ?_)
 ·
  replace hm := ite_t hc4 hm
  refine WP.seq (WP.region ?_)
  refine wq rfl rfl rfl (ov_assign rfl rfl) ?_
  refine WL.nil (tn (WP.ret (then_ret ?_)))
  obtain rfl := Option.some.inj hm
  refine retQ_ret results93 (Res.tmp rfl Res.nil) rfl (fun w' s => ⟨s.below, ?_⟩)
  exact rfl
 replace hm := ite_f hc4 hm
 refine WP.skip (tn ?_)
 obtain ⟨k1, hk1, hm⟩ := joinK_some hm
 refine WP.seq_join (fun g' S' => Sub [(1000000007, (.bool false))] g' ∧ (∀ w', S' w' → St w H [] H w') ∧ k1 = some r) ?_ ?_
 ·
  refine WP.seq (WP.region ?_)
  refine wq rfl rfl rfl (ov_assign rfl rfl) ?_
  refine WL.nil (tn (WP.block ?_))
  refine WP.loop (fun m1 g' S' => ∃ (i1 : Int), Sub [(1, (pB b1 0)), (3, (.int .i64 i1)), (1000000007, (.bool false))] g' ∧ (∀ w', S' w' → St w H [.blk b1 28 [(.int .i64 p_x.kind), (.slice ao1 p_x.step.strokes.length cap1), (.int .i64 p_x.step.wait), (.int .i64 p_x.count), (mkS p_x.name), (.slice ao2 p_x.nodes.length cap2)]] H w') ∧ ref15_short_loop1 p_x self k1 m1 i1 = some r) ((Int.toNat ((p_x.nodes.length : Int) - 0) + 1)) ⟨0, (Sub.all rfl), fun w' s => s, hm⟩ ?_ ?_
  ·
   rintro g' S' ⟨_, _, _, hm⟩
   exact none_some hm
  rintro m1 g' S' ⟨i1, hsub1, hS1, hm⟩
  refine WP.sub hsub1 (WP.weaken hS1 ?_)
  rw [ref15_short_loop1] at hm
  refine WP.seq (WP.seq (WP.region ?_))
  refine wq rfl rfl rfl (ov_move rfl rfl) ?_
  refine wq rfl rfl rfl (ov_fieldAddr underlying28 rfl rfl rfl sizeOf26 rfl rfl) ?_
  refine wq rfl rfl rfl (ov_load_box (i := 0) isAgg26 rfl rfl rfl rfl) ?_
  refine wq rfl rfl rfl (ov_len_slice underlying26 rfl rfl) ?_
  refine wq rfl rfl rfl (ov_lss rfl rfl rfl) ?_
  refine WL.nil (tn ?_)
  refine WP.cond rfl (fun hc5 => ?_) (fun hc5 => ?_)
  ·
   replace hm := ite_t hc5 hm
   refine WP.skip (tn (WP.seq (WP.block (WP.seq (WP.region ?_)))))
   refine wq rfl rfl rfl (ov_fieldAddr underlying28 rfl rfl rfl sizeOf26 rfl rfl) ?_
   refine wq rfl rfl rfl (ov_load_box (i := 0) isAgg26 rfl rfl rfl rfl) ?_
   refine wq rfl rfl rfl (ov_move rfl rfl) ?_
   obtain ⟨x1, e1, hm⟩ := bind_some hm
   obtain ⟨h5, h6, h7, cs1, h8, h9⟩ := h2.get e1 (by decide)
   obtain ⟨ao3, cap3, ao4, cap4, rfl, h3, hc6, h4, hc7⟩ := (encNode_open h8)
   refine wq rfl rfl rfl (ov_indexAddr underlying26 sizeOf28 rfl rfl rfl h5 h6 h7) ?_
   refine wq rfl rfl rfl (ov_load_elems (vs := [(.int .i64 x1.kind), (.slice ao3 x1.step.strokes.length cap3), (.int .i64 x1.step.wait), (.int .i64 x1.count), (mkS x1.name), (.slice ao4 x1.nodes.length cap4)]) isAgg28 sizeOf28 rfl rfl rfl h9 h7) ?_
   obtain ⟨r1, e2, hm⟩ := bind_some hm
   refine wo rfl (oq_con (r := (.bool r1)) call93 rfl rfl (fun w' s => ⟨_, (hself x1 ao3 cap3 ao4 cap4  w' H s.hold h3 hc6 h4 hc7 hG r1 e2)⟩)) ?_
   refine wq rfl rfl rfl (ov_not rfl rfl) ?_
   refine WL.nil (tn ?_)
   refine WP.cond rfl (fun hc8 => ?_) (fun hc8 => ?_)
   ·
    replace hm := ite_t hc8 hm
    refine WP.seq (WP.region ?_)
    refine wq rfl rfl rfl (ov_assign rfl rfl) ?_
    refine WL.nil (tn (WP.ret (block_ret (then_ret (then_ret (block_ret (then_ret ?_)))))))
    obtain rfl := Option.some.inj hm
    refine retQ_ret results93 (Res.tmp rfl Res.nil) rfl (fun w' s => ⟨s.below, ?_⟩)
    exact rfl
   replace hm := ite_f hc8 hm
   refine WP.skip (bn (tn (WP.region ?_)))
   refine wq rfl rfl rfl (ov_move rfl rfl) ?_
   refine wq rfl rfl rfl (ov_add rfl rfl rfl) ?_
   refine wq rfl rfl rfl (ov_assign rfl rfl) ?_
   refine WL.nil (tn ?_)
   exact ⟨(IntKind.wrap .i64 (i1 + 1)), (Sub.all rfl), fun w' s => s, hm⟩
  replace hm := ite_f hc5 hm
  refine WP.exit (then_exit (then_exit (block_here (tn ?_))))
  exact ⟨(Sub.all rfl), fun w' s => (s.select [] (by decide) rfl), hm⟩
 rintro g' S' ⟨hsub2, hS2, hm⟩
 refine WP.sub hsub2 (WP.weaken hS2 ?_)
 replace hm := hk1.symm.trans hm
 refine WP.seq (WP.region ?_)
 refine wq rfl rfl rfl (ov_assign rfl rfl) ?_
 refine WL.nil (tn (WP.ret ?_))
 obtain rfl := Option.some.inj hm
 refine retQ_ret results93 (Res.tmp rfl Res.nil) rfl (fun w' s => ⟨s.below, ?_⟩)
 exact rfl
theorem ref15_short_con (n : Nat) : ∀ (p_x : Node) (ao1 : Option Addr) (cap1 : Nat) (ao2 : Option Addr) (cap2 : Nat) (w : World) (H : Heap) (hH : Le H (hp w)) (h1 : SL H encStroke ao1 p_x.step.strokes) (hc1 : p_x.step.strokes.length ≤ cap1) (h2 : SL H encNode ao2 p_x.nodes) (hc2 : p_x.nodes.length ≤ cap2) (hG : Glob H) (r : Bool) (hm : ref15_short n p_x = some r),
  Con prog 93 [(.agg #[(.int .i64 p_x.kind), (.slice ao1 p_x.step.strokes.length cap1), (.int .i64 p_x.step.wait), (.int .i64 p_x.count), (mkS p_x.name), (.slice ao2 p_x.nodes.length cap2)])] w H (fun v _ => v = (.bool r)) := by
 induction n with
 | zero => intro p_x ao1 cap1 ao2 cap2 w H hH h1 hc1 h2 hc2 hG r hm; exact (none_some hm).elim
 | succ n ih => intro p_x ao1 cap1 ao2 cap2 w H hH h1 hc1 h2 hc2 hG r hm; exact ref15_short_body_con (ref15_short n) ih p_x ao1 cap1 ao2 cap2 w H hH h1 hc1 h2 hc2 hG r hm
theorem ref15_Few_con (p_x : Node) (ao1 : Option Addr) (cap1 : Nat) (ao2 : Option Addr) (cap2 : Nat) (w : World) (H : Heap) (hH : Le H (hp w)) (h1 : SL H encStroke ao1 p_x.step.strokes) (hc1 : p_x.step.strokes.length ≤ cap1) (h2 : SL H encNode ao2 p_x.nodes) (hc2 : p_x.nodes.length ≤ cap2) (hG : Glob H) (r : Bool) (hm : ref15_Few p_x = some r) :
  Con prog 50 [(.agg #[(.int .i64 p_x.kind), (.slice ao1 p_x.step.strokes.length cap1), (.int .i64 p_x.step.wait), (.int .i64 p_x.count), (mkS p_x.name), (.slice ao2 p_x.nodes.length cap2)])] w H (fun v _ => v = (.bool r)) := by
 unfold ref15_Few at hm
 refine con_of hH func50 rfl 27 ntmps50 rfl ?_
 refine WP.seq (WP.region ?_)
 refine ws rfl (os_box (cs := [(.int .i64 p_x.kind), (.slice ao1 p_x.step.strokes.length cap1), (.int .i64 p_x.step.wait), (.int .i64 p_x.count), (mkS p_x.name), (.slice ao2 p_x.nodes.length cap2)]) rfl rfl rfl (fun b1 => ?_))
 refine wq rfl rfl rfl (ov_assign rfl rfl) ?_
 refine WL.nil (tn (WP.seq (WP.region ?_)))
 refine wq rfl rfl rfl (ov_load_whole (i := 0) isAgg28 sizeOf28 rfl rfl rfl rfl) ?_
 obtain ⟨r1, e1, hm⟩ := bind_some hm
 refine wo rfl (oq_con (r := (.int .i64 r1)) call77 rfl rfl (fun w' s => ⟨_, (ref15_count_con 600 p_x 512 ao1 cap1 ao2 cap2  w' H s.hold h1 hc1 h2 hc2 hG r1 e1)⟩)) ?_
 refine wq rfl rfl rfl (ov_assign rfl rfl) ?_
 refine WL.nil (tn (WP.seq (WP.seq (WP.region ?_))))
 refine wq rfl rfl rfl (ov_move rfl rfl) ?_
 refine wq rfl rfl rfl (ov_gtr rfl rfl rfl) ?_
 refine wq rfl rfl rfl (ov_move rfl rfl) ?_
 refine WL.cut_bool 3 11 (x := ((decide (r1 > 30)) && (decide (r1 ≤ 256)))) ?_ ?_
 ·
  rcases Bool.eq_false_or_eq_true (decide (r1 > 30)) with hc3 | hc3
  ·
   refine wy hc3 rfl (ov_move rfl rfl) ?_
   refine wy hc3 rfl (ov_leq rfl rfl rfl) ?_
   refine wq rfl rfl rfl (ov_pick_true rfl (guard_eq rfl hc3) rfl) ?_
   exact WL.nil ⟨Sub.cons' rfl (congrArg Value.bool (andT hc3)) (Sub.dropn 3 rfl), fun _ s => s⟩
  refine WL.idle (Idle.no rfl rfl rfl hc3) rfl rfl ?_
  refine WL.idle (Idle.no rfl rfl rfl hc3) rfl rfl ?_
  refine wq rfl rfl rfl (ov_pick_false rfl (guard_eq rfl hc3) rfl) ?_
  exact WL.nil ⟨Sub.cons' rfl (congrArg Value.bool (andF hc3)) (Sub.dropn 3 rfl), fun _ s => s⟩
 refine wq rfl rfl rfl (ov_move rfl rfl) ?_
 refine WL.cut_bool 3 15 (x := (((decide (r1 > 30)) && (decide (r1 ≤ 256))) || (decide (r1 > 512)))) ?_ ?_
 ·
  rcases Bool.eq_false_or_eq_true ((decide (r1 > 30)) && (decide (r1 ≤ 256))) with hc4 | hc4
  ·
   refine WL.idle (Idle.no rfl rfl rfl hc4) rfl rfl ?_
   refine WL.idle (Idle.no rfl rfl rfl hc4) rfl rfl ?_
   refine wq rfl rfl rfl (ov_pick_true rfl (guard_eq rfl hc4) rfl) ?_
   exact WL.nil ⟨Sub.cons' rfl (congrArg Value.bool (orT hc4)) (Sub.dropn 3 rfl), fun _ s => s⟩
  refine wy hc4 rfl (ov_move rfl rfl) ?_
  refine wy hc4 rfl (ov_gtr rfl rfl rfl) ?_
  refine wq rfl rfl rfl (ov_pick_false rfl (guard_eq rfl hc4) rfl) ?_
  exact WL.nil ⟨Sub.cons' rfl (congrArg Value.bool (orF hc4)) (Sub.dropn 3 rfl), fun _ s => s⟩
 refine wq rfl rfl rfl (ov_move rfl rfl) ?_
 obtain ⟨c1, e2, hm⟩ := bind_some hm
 refine WL.cut_bool 4 20 (x := c1) ?_ ?_
 ·
  rcases Bool.eq_false_or_eq_true (((decide (r1 > 30)) && (decide (r1 ≤ 256))) || (decide (r1 > 512))) with hc5 | hc5
  ·
   replace hm := ite_t hc5 e2
   refine WL.idle (Idle.no rfl rfl rfl hc5) rfl rfl ?_
   refine WL.idle (Idle.no rfl rfl rfl hc5) rfl rfl ?_
   refine WL.idle (Idle.no rfl rfl rfl hc5) rfl rfl ?_
   refine wq rfl rfl rfl (ov_pick_true rfl (guard_eq rfl hc5) rfl) ?_
   exact WL.nil ⟨Sub.cons' rfl (congrArg Value.bool (Option.some.inj hm)) (Sub.dropn 4 rfl), fun _ s => s⟩
  replace hm := ite_f hc5 e2
  refine wy hc5 rfl (ov_load_whole (i := 0) isAgg28 sizeOf28 rfl rfl rfl rfl) ?_
  obtain ⟨r2, e3, hm⟩ := bind_some hm
  refine WL.quiet (Runs.yes rfl rfl rfl hc5) rfl rfl (oq_con (r := (.bool r2)) call78 rfl rfl (fun w' s => ⟨_, (ref15_deep_con 600 p_x 40 ao1 cap1 ao2 cap2  w' H s.hold h1 hc1 h2 hc2 hG r2 e3)⟩)) ?_
  refine wy hc5 rfl (ov_not rfl rfl) ?_
  refine wq rfl rfl rfl (ov_pick_false rfl (guard_eq rfl hc5) rfl) ?_
  exact WL.nil ⟨Sub.cons' rfl (congrArg Value.bool (Option.some.inj hm)) (Sub.dropn 4 rfl), fun _ s => s⟩
 refine WL.nil (tn ?_)
 refine WP.cond rfl (fun hc6 => ?_) (fun hc6 => ?_)
 ·
  replace hm := ite_t hc6 hm
  refine WP.seq (WP.region ?_)
  refine wq rfl rfl rfl (ov_assign rfl rfl) ?_
  refine WL.nil (tn (WP.ret (then_ret ?_)))
  obtain rfl := Option.some.inj hm
  refine retQ_ret results50 (Res.tmp rfl Res.nil) rfl (fun w' s => ⟨s.below, ?_⟩)
  exact rfl
 replace hm := ite_f hc6 hm
 refine WP.skip (tn (WP.seq (WP.region ?_)))
 refine wq rfl rfl rfl (ov_move rfl rfl) ?_
 refine wq rfl rfl rfl (ov_gtr rfl rfl rfl) ?_
 refine wq rfl rfl rfl (ov_move rfl rfl) ?_
 obtain ⟨c2, e4, hm⟩ := bind_some hm
 refine WL.cut_bool 3 26 (x := c2) ?_ ?_
 ·
  rcases Bool.eq_false_or_eq_true (decide (r1 > 256)) with hc7 | hc7
  ·
   replace hm := ite_t hc7 e4
   refine WL.idle (Idle.no rfl rfl rfl hc7) rfl rfl ?_
   refine WL.idle (Idle.no rfl rfl rfl hc7) rfl rfl ?_
   refine wq rfl rfl rfl (ov_pick_true rfl (guard_eq rfl hc7) rfl) ?_
   exact WL.nil ⟨Sub.cons' rfl (congrArg Value.bool (Option.some.inj hm)) (Sub.dropn 3 rfl), fun _ s => s⟩
  replace hm := ite_f hc7 e4
  refine wy hc7 rfl (ov_load_whole (i := 0) isAgg28 sizeOf28 rfl rfl rfl rfl) ?_
  obtain ⟨r3, e5, hm⟩ := bind_some hm
  refine WL.quiet (Runs.yes rfl rfl rfl hc7) rfl rfl (oq_con (r := (.bool r3)) call93 rfl rfl (fun w' s => ⟨_, (ref15_short_con 600 p_x ao1 cap1 ao2 cap2  w' H s.hold h1 hc1 h2 hc2 hG r3 e5)⟩)) ?_
  refine wq rfl rfl rfl (ov_pick_false rfl (guard_eq rfl hc7) rfl) ?_
  exact WL.nil ⟨Sub.cons' rfl (congrArg Value.bool (Option.some.inj hm)) (Sub.dropn 3 rfl), fun _ s => s⟩
 refine wq rfl rfl rfl (ov_assign rfl rfl) ?_
 refine WL.nil (tn (WP.ret ?_))
 obtain rfl := Option.some.inj hm
 refine retQ_ret results50 (Res.tmp rfl Res.nil) rfl (fun w' s => ⟨s.below, ?_⟩)
 exact rfl
theorem ref15_FewNames_con (p_l : (List (List UInt8))) (ao1 : Option Addr) (cap1 : Nat) (w : World) (H : Heap) (hH : Le H (hp w)) (h1 : SL H encStr ao1 p_l) (hc1 : p_l.length ≤ cap1) (hG : Glob H) (r : Bool) (hm : ref15_FewNames p_l = some r) :
  Con prog 51 [(.slice ao1 p_l.length cap1)] w H (fun v _ => v = (.bool r)) := by
 unfold ref15_FewNames at hm
 refine con_of hH func51 rfl 23 ntmps51 rfl ?_
 refine WP.seq (WP.region ?_)
 refine wq rfl rfl rfl (ov_assign rfl rfl) ?_
 refine WL.nil (tn ?_)
 obtain ⟨k1, hk1, hm⟩ := joinK_some hm
 refine WP.seq_join (fun g' S' => Sub [(0, (.slice ao1 p_l.length cap1)), (1000000007, (.bool false))] g' ∧ (∀ w', S' w' → St w H [] H w') ∧ k1 = some r) ?_ ?_
 ·
  refine WP.seq (WP.region ?_)
  refine wq rfl rfl rfl (ov_assign rfl rfl) ?_
  refine WL.nil (tn (WP.block ?_))
  refine WP.loop (fun m1 g' S' => ∃ (i1 : Int), Sub [(0, (.slice ao1 p_l.length cap1)), (3, (.int .i64 i1)), (1000000007, (.bool false))] g' ∧ (∀ w', S' w' → St w H [] H w') ∧ ref15_FewNames_loop1 p_l k1 m1 i1 = some r) ((p_l.length + 1)) ⟨0, (Sub.all rfl), fun w' s => s, hm⟩ ?_ ?_
  ·
   rintro g' S' ⟨_, _, _, hm⟩
   exact none_some hm
  rintro m1 g' S' ⟨i1, hsub1, hS1, hm⟩
  refine WP.sub hsub1 (WP.weaken hS1 ?_)
  rw [ref15_FewNames_loop1] at hm
  refine WP.seq (WP.seq (WP.region ?_))
  refine wq rfl rfl rfl (ov_move rfl rfl) ?_
  refine wq rfl rfl rfl (ov_move rfl rfl) ?_
  refine wq rfl rfl rfl (ov_len_slice underlying36 rfl rfl) ?_
  refine wq rfl rfl rfl (ov_lss rfl rfl rfl) ?_
  refine wq rfl rfl rfl (ov_move rfl rfl) ?_
  refine WL.cut_bool 3 11 (x := ((decide (i1 < (p_l.length : Int))) && (decide (i1 < 20)))) ?_ ?_
  ·
   rcases Bool.eq_false_or_eq_true (decide (i1 < (p_l.length : Int))) with hc2 | hc2
   ·
    refine wy hc2 rfl (ov_move rfl rfl) ?_
    refine wy hc2 rfl (ov_lss rfl rfl rfl) ?_
    refine wq rfl rfl rfl (ov_pick_true rfl (guard_eq rfl hc2) rfl) ?_
    exact WL.nil ⟨Sub.cons' rfl (congrArg Value.bool (andT hc2)) (Sub.dropn 3 rfl), fun _ s => s⟩
   refine WL.idle (Idle.no rfl rfl rfl hc2) rfl rfl ?_
   refine WL.idle (Idle.no rfl rfl rfl hc2) rfl rfl ?_
   refine wq rfl rfl rfl (ov_pick_false rfl (guard_eq rfl hc2) rfl) ?_
   exact WL.nil ⟨Sub.cons' rfl (congrArg Value.bool (andF hc2)) (Sub.dropn 3 rfl), fun _ s => s⟩
  refine WL.nil (tn ?_)
  refine WP.cond rfl (fun hc3 => ?_) (fun hc3 => ?_)
  ·
   replace hm := ite_t hc3 hm
   refine WP.skip (tn (WP.seq (WP.block (WP.seq (WP.region ?_)))))
   refine wq rfl rfl rfl (ov_move rfl rfl) ?_
   refine wq rfl rfl rfl (ov_move rfl rfl) ?_
   obtain ⟨x1, e1, hm⟩ := bind_some hm
   obtain ⟨h2, h3, h4, cs1, h5, h6⟩ := h1.get e1 (by decide)
   obtain rfl : cs1 = [(mkS x1)] := h5
   refine wq rfl rfl rfl (ov_indexAddr underlying36 sizeOf9 rfl rfl rfl h2 h3 h4) ?_
   refine wq rfl rfl rfl (ov_load_elem (v := (mkS x1)) isAgg9 rfl rfl h6) ?_
   refine wq rfl rfl rfl (ov_len_string underlying9 rfl rfl) ?_
   refine wq rfl rfl rfl (ov_gtr rfl rfl rfl) ?_
   refine WL.nil (tn ?_)
   refine WP.cond rfl (fun hc4 => ?_) (fun hc4 => ?_)
   ·
    replace hm := ite_t hc4 hm
    refine WP.seq (WP.region ?_)
    refine wq rfl rfl rfl (ov_assign rfl rfl) ?_
    refine WL.nil (tn (WP.ret (block_ret (then_ret (then_ret (block_ret (then_ret ?_)))))))
    obtain rfl := Option.some.inj hm
    refine retQ_ret results51 (Res.tmp rfl Res.nil) rfl (fun w' s => ⟨s.below, ?_⟩)
    exact rfl
   replace hm := ite_f hc4 hm
   refine WP.skip (bn (tn (WP.region ?_)))
   refine wq rfl rfl rfl (ov_move rfl rfl) ?_
   refine wq rfl rfl rfl (ov_add rfl rfl rfl) ?_
   refine wq rfl rfl rfl (ov_assign rfl rfl) ?_
   refine WL.nil (tn ?_)
   exact ⟨(IntKind.wrap .i64 (i1 + 1)), (Sub.all rfl), fun w' s => s, hm⟩
  replace hm := ite_f hc3 hm
  refine WP.exit (then_exit (then_exit (block_here (tn ?_))))
  exact ⟨(Sub.all rfl), fun w' s => s, hm⟩
 rintro g' S' ⟨hsub2, hS2, hm⟩
 refine WP.sub hsub2 (WP.weaken hS2 ?_)
 replace hm := hk1.symm.trans hm
 refine WP.seq (WP.region ?_)
 refine wq rfl rfl rfl (ov_move rfl rfl) ?_
 refine wq rfl rfl rfl (ov_len_slice underlying36 rfl rfl) ?_
 refine wq rfl rfl rfl (ov_leq rfl rfl rfl) ?_
 refine wq rfl rfl rfl (ov_assign rfl rfl) ?_
 refine WL.nil (tn (WP.ret ?_))
 obtain rfl := Option.some.inj hm
 refine retQ_ret results51 (Res.tmp rfl Res.nil) rfl (fun w' s => ⟨s.below, ?_⟩)
 exact rfl
theorem law15_few_con (p_x : Node) (p_names : (List (List UInt8))) (ao1 : Option Addr) (cap1 : Nat) (ao2 : Option Addr) (cap2 : Nat) (ao3 : Option Addr) (cap3 : Nat) (w : World) (H : Heap) (hH : Le H (hp w)) (h1 : SL H encStroke ao1 p_x.step.strokes) (hc1 : p_x.step.strokes.length ≤ cap1) (h2 : SL H encNode ao2 p_x.nodes) (hc2 : p_x.nodes.length ≤ cap2) (h3 : SL H encStr ao3 p_names) (hc3 : p_names.length ≤ cap3) (hG : Glob H) (r : Bool) (hm : law15_few p_x p_names = some r) :
  Con prog 15 [(.agg #[(.int .i64 p_x.kind), (.slice ao1 p_x.step.strokes.length cap1), (.int .i64 p_x.step.wait), (.int .i64 p_x.count), (mkS p_x.name), (.slice ao2 p_x.nodes.length cap2)]), (.slice ao3 p_names.length cap3)] w H (fun v _ => v = (.bool r)) := by
 unfold law15_few at hm
 refine con_of hH func15 rfl 11 ntmps15 rfl ?_
 refine WP.seq (WP.region ?_)
 refine ws rfl (os_box (cs := [(.int .i64 p_x.kind), (.slice ao1 p_x.step.strokes.length cap1), (.int .i64 p_x.step.wait), (.int .i64 p_x.count), (mkS p_x.name), (.slice ao2 p_x.nodes.length cap2)]) rfl rfl rfl (fun b1 => ?_))
 refine wq rfl rfl rfl (ov_assign rfl rfl) ?_
 refine WL.nil (tn (WP.seq (WP.region ?_)))
 refine wq rfl rfl rfl (ov_load_whole (i := 0) isAgg28 sizeOf28 rfl rfl rfl rfl) ?_
 obtain ⟨r1, e1, hm⟩ := bind_some hm
 refine wo rfl (oq_con (r := (.bool r1)) call50 rfl rfl (fun w' s => ⟨_, (ref15_Few_con p_x ao1 cap1 ao2 cap2  w' H s.hold h1 hc1 h2 hc2 hG r1 e1)⟩)) ?_
 refine wq rfl rfl rfl (ov_move rfl rfl) ?_
 obtain ⟨c1, e2, hm⟩ := bind_some hm
 refine WL.cut_bool 3 10 (x := c1) ?_ ?_
 ·
  rcases Bool.eq_false_or_eq_true r1 with hc4 | hc4
  ·
   replace hm := ite_t hc4 e2
   refine wy hc4 rfl (ov_move rfl rfl) ?_
   obtain ⟨r2, e3, hm⟩ := bind_some hm
   refine WL.quiet (Runs.yes rfl rfl rfl hc4) rfl rfl (oq_con (r := (.bool r2)) call51 rfl rfl (fun w' s => ⟨_, (ref15_FewNames_con p_names ao3 cap3  w' H s.hold h3 hc3 hG r2 e3)⟩)) ?_
   refine wq rfl rfl rfl (ov_pick_true rfl (guard_eq rfl hc4) rfl) ?_
   exact WL.nil ⟨Sub.cons' rfl (congrArg Value.bool (Option.some.inj hm)) (Sub.dropn 3 rfl), fun _ s => s⟩
  replace hm := ite_f hc4 e2
  refine WL.idle (Idle.no rfl rfl rfl hc4) rfl rfl ?_
  refine WL.idle (Idle.no rfl rfl rfl hc4) rfl rfl ?_
  refine wq rfl rfl rfl (ov_pick_false rfl (guard_eq rfl hc4) rfl) ?_
  exact WL.nil ⟨Sub.cons' rfl (congrArg Value.bool (Option.some.inj hm)) (Sub.dropn 3 rfl), fun _ s => s⟩
 refine wq rfl rfl rfl (ov_assign rfl rfl) ?_
 refine WL.nil (tn (WP.ret ?_))
 obtain rfl := Option.some.inj hm
 refine retQ_ret results15 (Res.tmp rfl Res.nil) rfl (fun w' s => ⟨s.below, ?_⟩)
 exact rfl
theorem ref12_Digits_con (p_n : Int) (w : World) (H : Heap) (hH : Le H (hp w)) (hG : Glob H) (r : (List UInt8)) (hm : ref12_Digits p_n = some r) :
  Con prog 107 [(.int .i64 p_n)] w H (fun v _ => v = (mkS r)) := by
 unfold ref12_Digits at hm
 refine con_of hH func107 rfl 25 ntmps107 rfl ?_
 refine WP.seq (WP.region ?_)
 refine wq rfl rfl rfl (ov_assign rfl rfl) ?_
 refine WL.nil (tn (WP.seq (WP.region ?_)))
 refine wq rfl rfl rfl (ov_move rfl rfl) ?_
 refine wq rfl rfl rfl (ov_rem rfl rfl rfl (by decide)) ?_
 refine wq rfl rfl rfl (ov_move rfl rfl) ?_
 refine wq rfl rfl rfl (ov_rem rfl rfl rfl (by decide)) ?_
 refine wq rfl rfl rfl (ov_add rfl rfl rfl) ?_
 obtain ⟨s1, e1, hm⟩ := bind_some hm
 refine wq rfl rfl rfl (ov_slice_string underlying9 rfl rfl rfl rfl e1) ?_
 refine wq rfl rfl rfl (ov_assign rfl rfl) ?_
 refine WL.nil (tn ?_)
 obtain ⟨k1, hk1, hm⟩ := joinK_some hm
 refine WP.seq_join (fun g' S' => ∃ (s5 : (List UInt8)), Sub [(3, (mkS s5)), (1000000007, (.bool false))] g' ∧ (∀ w', S' w' → St w H [] H w') ∧ k1 s5 = some r) ?_ ?_
 ·
  refine WP.seq (WP.region ?_)
  refine wq rfl rfl rfl (ov_move rfl rfl) ?_
  refine wq rfl rfl rfl (ov_quo rfl rfl rfl (by decide)) ?_
  refine wq rfl rfl rfl (ov_assign rfl rfl) ?_
  refine WL.nil (tn (WP.block ?_))
  refine WP.loop (fun m1 g' S' => ∃ (i1 : Int) (s2 : (List UInt8)), Sub [(0, (.int .i64 i1)), (3, (mkS s2)), (1000000007, (.bool false))] g' ∧ (∀ w', S' w' → St w H [] H w') ∧ ref12_Digits_loop1 k1 m1 i1 s2 = some r) ((p_n.toNat + 2)) ⟨(IntKind.wrap .i64 (Int.tdiv p_n 10)), s1, (Sub.all rfl), fun w' s => s, hm⟩ ?_ ?_
  ·
   rintro g' S' ⟨_, _, _, _, hm⟩
   exact none_some hm
  rintro m1 g' S' ⟨i1, s2, hsub1, hS1, hm⟩
  refine WP.sub hsub1 (WP.weaken hS1 ?_)
  rw [ref12_Digits_loop1] at hm
  refine WP.seq (WP.seq (WP.region ?_))
  refine wq rfl rfl rfl (ov_move rfl rfl) ?_
  refine wq rfl rfl rfl (ov_gtr rfl rfl rfl) ?_
  refine WL.nil (tn ?_)
  refine WP.cond rfl (fun hc1 => ?_) (fun hc1 => ?_)
  ·
   replace hm := ite_t hc1 hm
   refine WP.skip (tn (WP.seq (WP.block (WP.region ?_))))
   refine wq rfl rfl rfl (ov_move rfl rfl) ?_
   refine wq rfl rfl rfl (ov_rem rfl rfl rfl (by decide)) ?_
   refine wq rfl rfl rfl (ov_move rfl rfl) ?_
   refine wq rfl rfl rfl (ov_rem rfl rfl rfl (by decide)) ?_
   refine wq rfl rfl rfl (ov_add rfl rfl rfl) ?_
   obtain ⟨s3, e2, hm⟩ := bind_some hm
   refine wq rfl rfl rfl (ov_slice_string underlying9 rfl rfl rfl rfl e2) ?_
   refine wq rfl rfl rfl (ov_move rfl rfl) ?_
   obtain ⟨s4, e3, hm⟩ := bind_some hm
   refine wq rfl rfl rfl (ov_sadd' e3 rfl rfl rfl) ?_
   refine wq rfl rfl rfl (ov_assign rfl rfl) ?_
   refine WL.nil (bn (tn (WP.region ?_)))
   refine wq rfl rfl rfl (ov_move rfl rfl) ?_
   refine wq rfl rfl rfl (ov_quo rfl rfl rfl (by decide)) ?_
   refine wq rfl rfl rfl (ov_assign rfl rfl) ?_
   refine WL.nil (tn ?_)
   exact ⟨(IntKind.wrap .i64 (Int.tdiv i1 10)), s4, (Sub.all rfl), fun w' s => s, hm⟩
  replace hm := ite_f hc1 hm
  refine WP.exit (then_exit (then_exit (block_here (tn ?_))))
  exact ⟨s2, (Sub.all rfl), fun w' s => s, hm⟩
 rintro g' S' ⟨s5, hsub2, hS2, hm⟩
 refine WP.sub hsub2 (WP.weaken hS2 ?_)
 replace hm := (congrFun hk1 s5).symm.trans hm
 refine WP.seq (WP.region ?_)
 refine wq rfl rfl rfl (ov_move rfl rfl) ?_
 refine wq rfl rfl rfl (ov_assign rfl rfl) ?_
 refine WL.nil (tn (WP.ret ?_))
 obtain rfl := Option.some.inj hm
 refine retQ_ret results107 (Res.tmp rfl Res.nil) rfl (fun w' s => ⟨s.below, ?_⟩)
 exact rfl
theorem ref15_Text_body_con (self : Node → Option (List UInt8)) (hself : ∀ (p_x : Node) (ao1 : Option Addr) (cap1 : Nat) (ao2 : Option Addr) (cap2 : Nat) (w : World) (H : Heap) (hH : Le H (hp w)) (h1 : SL H encStroke ao1 p_x.step.strokes) (hc1 : p_x.step.strokes.length ≤ cap1) (h2 : SL H encNode ao2 p_x.nodes) (hc2 : p_x.nodes.length ≤ cap2) (hG : Glob H) (r : (List UInt8)) (hm : self p_x = some r), Con prog 66 [(.agg #[(.int .i64 p_x.kind), (.slice ao1 p_x.step.strokes.length cap1), (.int .i64 p_x.step.wait), (.int .i64 p_x.count), (mkS p_x.name), (.slice ao2 p_x.nodes.length cap2)])] w H (fun v _ => v = (mkS r))) (p_x : Node) (ao1 : Option Addr) (cap1 : Nat) (ao2 : Option Addr) (cap2 : Nat) (w : World) (H : Heap) (hH : Le H (hp w)) (h1 : SL H encStroke ao1 p_x.step.strokes) (hc1 : p_x.step.strokes.length ≤ cap1) (h2 : SL H encNode ao2 p_x.nodes) (hc2 : p_x.nodes.length ≤ cap2) (hG : Glob H) (r : (List UInt8)) (hm : ref15_Text_body self p_x = some r) :
  Con prog 66 [(.agg #[(.int .i64 p_x.kind), (.slice ao1 p_x.step.strokes.length cap1), (.int .i64 p_x.step.wait), (.int .i64 p_x.count), (mkS p_x.name), (.slice ao2 p_x.nodes.length cap2)])] w H (fun v _ => v = (mkS r)) := by
 unfold ref15_Text_body at hm
 refine con_of hH func66 rfl 65 ntmps66 rfl ?_
 refine WP.seq (WP.region ?_)
 refine ws rfl (os_box (cs := [(.int .i64 p_x.kind), (.slice ao1 p_x.step.strokes.length cap1), (.int .i64 p_x.step.wait), (.int .i64 p_x.count), (mkS p_x.name), (.slice ao2 p_x.nodes.length cap2)]) rfl rfl rfl (fun b1 => ?_))
 refine wq rfl rfl rfl (ov_assign rfl rfl) ?_
 refine WL.nil (tn (WP.seq (WP.seq (WP.region ?_))))
 refine wq rfl rfl rfl (ov_fieldAddr underlying28 rfl rfl rfl sizeOf3 rfl rfl) ?_
 refine wq rfl rfl rfl (ov_load_box (i := 0) isAgg3 rfl rfl rfl rfl) ?_
 refine WL.nil (tn (WP.block (WP.seq (WP.region ?_))))
 refine wq rfl rfl rfl (ov_eql rfl rfl rfl) ?_
 refine wq rfl rfl rfl (ov_assign rfl rfl) ?_
 refine WL.nil (tn ?_)
 refine WP.cond rfl (fun hc3 => ?_) (fun hc3 => ?_)
 ·
  replace hm := ite_t hc3 hm
  refine WP.seq (WP.region ?_)
  refine wq rfl rfl rfl (ov_fieldAddr underlying28 rfl rfl rfl sizeOf25 rfl rfl) ?_
  refine wq rfl rfl rfl (ov_load_boxes (i := 0) (vs := [(.slice ao1 p_x.step.strokes.length cap1), (.int .i64 p_x.step.wait)]) isAgg25 sizeOf25 rfl rfl rfl rfl (part_of rfl)) ?_
  obtain ⟨r1, e1, hm⟩ := bind_some hm
  refine wo rfl (oq_con (r := (mkS r1)) call82 rfl rfl (fun w' s => ⟨_, (ref13_Line_con p_x.step ao1 cap1  w' H s.hold h1 hc1 hG r1 e1)⟩)) ?_
  refine wq rfl rfl rfl (ov_assign rfl rfl) ?_
  refine WL.nil (tn (WP.ret (block_ret (then_ret ?_))))
  obtain rfl := Option.some.inj hm
  refine retQ_ret results66 (Res.tmp rfl Res.nil) rfl (fun w' s => ⟨s.below, ?_⟩)
  exact rfl
 replace hm := ite_f hc3 hm
 refine WP.seq (WP.region ?_)
 refine wq rfl rfl rfl (ov_eql rfl rfl rfl) ?_
 refine wq rfl rfl rfl (ov_assign rfl rfl) ?_
 refine WL.nil (tn ?_)
 refine WP.cond rfl (fun hc4 => ?_) (fun hc4 => ?_)
 ·
  replace hm := ite_t hc4 hm
  refine WP.seq ?_
  refine WP.region_draws (by kernel_rfl) (by kernel_rfl) (fun _ s => s.drew) ?_
  refine qf rfl (ov_fieldAddr underlying28 rfl rfl rfl sizeOf3 rfl rfl) ?_
  refine qf rfl (ov_load_box (i := 0) isAgg3 rfl rfl rfl rfl) ?_
  obtain ⟨r2, e2, hm⟩ := bind_some hm
  refine QL.quiet (Runs.free rfl) rfl rfl (oq_con (r := (mkS r2)) call107 rfl rfl (fun w' s => ⟨_, (ref12_Digits_con p_x.count  w' H s.hold hG r2 e2)⟩)) ?_
  obtain ⟨s1, e3, hm⟩ := bind_some hm
  refine qf rfl (ov_sadd' e3 rfl rfl rfl) ?_
  obtain ⟨s2, e4, hm⟩ := bind_some hm
  refine qf rfl (ov_sadd' e4 rfl rfl rfl) ?_
  refine qf rfl (ov_fieldAddr underlying28 rfl rfl rfl sizeOf26 rfl rfl) ?_
  refine qf rfl (ov_load_box (i := 0) isAgg26 rfl rfl rfl rfl) ?_
  obtain ⟨x1, e5, hm⟩ := bind_some hm
  obtain ⟨h5, h6, h7, cs1, h8, h9⟩ := h2.get e5 (by decide)
  obtain ⟨ao3, cap3, ao4, cap4, rfl, h3, hc5, h4, hc6⟩ := (encNode_open h8)
  refine qf rfl (ov_indexAddr underlying26 sizeOf28 rfl rfl rfl h5 h6 h7) ?_
  refine qf rfl (ov_load_elems (vs := [(.int .i64 x1.kind), (.slice ao3 x1.step.strokes.length cap3), (.int .i64 x1.step.wait), (.int .i64 x1.count), (mkS x1.name), (.slice ao4 x1.nodes.length cap4)]) isAgg28 sizeOf28 rfl rfl rfl h9 h7) ?_
  obtain ⟨r3, e6, hm⟩ := bind_some hm
  refine QL.quiet (Runs.free rfl) rfl rfl (oq_con (r := (mkS r3)) call66 rfl rfl (fun w' s => ⟨_, (hself x1 ao3 cap3 ao4 cap4  w' H s.hold h3 hc5 h4 hc6 hG r3 e6)⟩)) ?_
  obtain ⟨s3, e7, hm⟩ := bind_some hm
  refine qf rfl (ov_sadd' e7 rfl rfl rfl) ?_
  refine qf rfl (ov_assign rfl rfl) ?_
  refine QL.nil ?_
  refine tn (WP.ret (block_ret (then_ret ?_)))
  obtain rfl := Option.some.inj hm
  refine retQ_ret results66 (Res.tmp rfl Res.nil) rfl (fun w' s => ⟨s.below, ?_⟩)
  exact rfl
 replace hm := ite_f hc4 hm
 refine WP.seq (WP.region ?_)
 refine wq rfl rfl rfl (ov_eql rfl rfl rfl) ?_
 refine wq rfl rfl rfl (ov_assign rfl rfl) ?_
 refine WL.nil (tn ?_)
 refine WP.cond rfl (fun hc7 => ?_) (fun hc7 => ?_)
 ·
  replace hm := ite_t hc7 hm
  refine WP.seq ?_
  refine WP.region_draws (by kernel_rfl) (by kernel_rfl) (fun _ s => s.drew) ?_
  refine qf rfl (ov_fieldAddr underlying28 rfl rfl rfl sizeOf9 rfl rfl) ?_
  refine qf rfl (ov_load_box (i := 0) isAgg9 rfl rfl rfl rfl) ?_
  obtain ⟨s4, e8, hm⟩ := bind_some hm
  refine qf rfl (ov_sadd' e8 rfl rfl rfl) ?_
  obtain ⟨s5, e9, hm⟩ := bind_some hm
  refine qf rfl (ov_sadd' e9 rfl rfl rfl) ?_
  refine qf rfl (ov_fieldAddr underlying28 rfl rfl rfl sizeOf26 rfl rfl) ?_
  refine qf rfl (ov_load_box (i := 0) isAgg26 rfl rfl rfl rfl) ?_
  obtain ⟨x2, e10, hm⟩ := bind_some hm
  obtain ⟨h12, h13, h14, cs2, h15, h16⟩ := h2.get e10 (by decide)
  obtain ⟨ao5, cap5, ao6, cap6, rfl, h10, hc8, h11, hc9⟩ := (encNode_open h15)
  refine qf rfl (ov_indexAddr underlying26 sizeOf28 rfl rfl rfl h12 h13 h14) ?_
  refine qf rfl (ov_load_elems (vs := [(.int .i64 x2.kind), (.slice ao5 x2.step.strokes.length cap5), (.int .i64 x2.step.wait), (.int .i64 x2.count), (mkS x2.name), (.slice ao6 x2.nodes.length cap6)]) isAgg28 sizeOf28 rfl rfl rfl h16 h14) ?_
  obtain ⟨r4, e11, hm⟩ := bind_some hm
  refine QL.quiet (Runs.free rfl) rfl rfl (oq_con (r := (mkS r4)) call66 rfl rfl (fun w' s => ⟨_, (hself x2 ao5 cap5 ao6 cap6  w' H s.hold h10 hc8 h11 hc9 hG r4 e11)⟩)) ?_
  obtain ⟨s6, e12, hm⟩ := bind_some hm
  refine qf rfl (ov_sadd' e12 rfl rfl rfl) ?_
  obtain ⟨s7, e13, hm⟩ := bind_some hm
  refine qf rfl (ov_sadd' e13 rfl rfl rfl) ?_
  refine qf rfl (ov_fieldAddr underlying28 rfl rfl rfl sizeOf26 rfl rfl) ?_
  refine qf rfl (ov_load_box (i := 0) isAgg26 rfl rfl rfl rfl) ?_
  obtain ⟨x3, e14, hm⟩ := bind_some hm
  obtain ⟨h19, h20, h21, cs3, h22, h23⟩ := h2.get e14 (by decide)
  obtain ⟨ao7, cap7, ao8, cap8, rfl, h17, hc10, h18, hc11⟩ := (encNode_open h22)
  refine qf rfl (ov_indexAddr underlying26 sizeOf28 rfl rfl rfl h19 h20 h21) ?_
  refine qf rfl (ov_load_elems (vs := [(.int .i64 x3.kind), (.slice ao7 x3.step.strokes.length cap7), (.int .i64 x3.step.wait), (.int .i64 x3.count), (mkS x3.name), (.slice ao8 x3.nodes.length cap8)]) isAgg28 sizeOf28 rfl rfl rfl h23 h21) ?_
  obtain ⟨r5, e15, hm⟩ := bind_some hm
  refine QL.quiet (Runs.free rfl) rfl rfl (oq_con (r := (mkS r5)) call66 rfl rfl (fun w' s => ⟨_, (hself x3 ao7 cap7 ao8 cap8  w' H s.hold h17 hc10 h18 hc11 hG r5 e15)⟩)) ?_
  obtain ⟨s8, e16, hm⟩ := bind_some hm
  refine qf rfl (ov_sadd' e16 rfl rfl rfl) ?_
  refine qf rfl (ov_assign rfl rfl) ?_
  refine QL.nil ?_
  refine tn (WP.ret (block_ret (then_ret ?_)))
  obtain rfl := Option.some.inj hm
  refine retQ_ret results66 (Res.tmp rfl Res.nil) rfl (fun w' s => ⟨s.below, ?_⟩)
  exact rfl
 replace hm := ite_f hc7 hm
 refine WP.skip (bn (tn (WP.seq (WP.region ?_))))
 refine wq rfl rfl rfl (ov_assign rfl rfl) ?_
 refine WL.nil (tn ?_)
 obtain ⟨k1, hk1, hm⟩ := joinK_some hm
 refine WP.seq_join (fun g' S' => ∃ (s13 : (List UInt8)), Sub [(3, (mkS s13)), (1000000007, (.bool false))] g' ∧ (∀ w', S' w' → St w H [] H w') ∧ k1 s13 = some r) ?_ ?_
 ·
  refine WP.seq (WP.region ?_)
  refine wq rfl rfl rfl (ov_assign rfl rfl) ?_
  refine WL.nil (tn (WP.block ?_))
  refine WP.loop (fun m1 g' S' => ∃ (s9 : (List UInt8)) (i1 : Int), Sub [(1, (pB b1 0)), (3, (mkS s9)), (4, (.int .i64 i1)), (1000000007, (.bool false))] g' ∧ (∀ w', S' w' → St w H [.blk b1 28 [(.int .i64 p_x.kind), (.slice ao1 p_x.step.strokes.length cap1), (.int .i64 p_x.step.wait), (.int .i64 p_x.count), (mkS p_x.name), (.slice ao2 p_x.nodes.length cap2)]] H w') ∧ ref15_Text_loop1 p_x self k1 m1 s9 i1 = some r) ((Int.toNat ((p_x.nodes.length : Int) - 0) + 1)) ⟨[123, 32], 0, (Sub.all rfl), fun w' s => s, hm⟩ ?_ ?_
  ·
   rintro g' S' ⟨_, _, _, _, hm⟩
   exact none_some hm
  rintro m1 g' S' ⟨s9, i1, hsub1, hS1, hm⟩
  refine WP.sub hsub1 (WP.weaken hS1 ?_)
  rw [ref15_Text_loop1] at hm
  refine WP.seq (WP.seq (WP.region ?_))
  refine wq rfl rfl rfl (ov_move rfl rfl) ?_
  refine wq rfl rfl rfl (ov_fieldAddr underlying28 rfl rfl rfl sizeOf26 rfl rfl) ?_
  refine wq rfl rfl rfl (ov_load_box (i := 0) isAgg26 rfl rfl rfl rfl) ?_
  refine wq rfl rfl rfl (ov_len_slice underlying26 rfl rfl) ?_
  refine wq rfl rfl rfl (ov_lss rfl rfl rfl) ?_
  refine WL.nil (tn ?_)
  refine WP.cond rfl (fun hc12 => ?_) (fun hc12 => ?_)
  ·
   replace hm := ite_t hc12 hm
   refine WP.skip (tn (WP.seq (WP.block ?_)))
   obtain ⟨k2, hk2, hm⟩ := joinK_some hm
   refine WP.seq_join (fun g' S' => ∃ (s11 : (List UInt8)), Sub [(1, (pB b1 0)), (3, (mkS s11)), (4, (.int .i64 i1)), (1000000007, (.bool false))] g' ∧ (∀ w', S' w' → St w H [.blk b1 28 [(.int .i64 p_x.kind), (.slice ao1 p_x.step.strokes.length cap1), (.int .i64 p_x.step.wait), (.int .i64 p_x.count), (mkS p_x.name), (.slice ao2 p_x.nodes.length cap2)]] H w') ∧ k2 s11 = some r) ?_ ?_
   ·
    refine WP.seq (WP.region ?_)
    refine wq rfl rfl rfl (ov_move rfl rfl) ?_
    refine wq rfl rfl rfl (ov_gtr rfl rfl rfl) ?_
    refine WL.nil (tn ?_)
    refine WP.cond rfl (fun hc13 => ?_) (fun hc13 => ?_)
    ·
     replace hm := ite_t hc13 hm
     refine WP.region ?_
     refine wq rfl rfl rfl (ov_move rfl rfl) ?_
     obtain ⟨s10, e17, hm⟩ := bind_some hm
     refine wq rfl rfl rfl (ov_sadd' e17 rfl rfl rfl) ?_
     refine wq rfl rfl rfl (ov_assign rfl rfl) ?_
     refine WL.nil (tn ?_)
     exact ⟨s10, (Sub.all rfl), fun w' s => s, hm⟩
    replace hm := ite_f hc13 hm
    refine WP.skip (tn ?_)
    exact ⟨s9, (Sub.all rfl), fun w' s => s, hm⟩
   rintro g' S' ⟨s11, hsub2, hS2, hm⟩
   refine WP.sub hsub2 (WP.weaken hS2 ?_)
   replace hm := (congrFun hk2 s11).symm.trans hm
   refine WP.region ?_
   refine wq rfl rfl rfl (ov_move rfl rfl) ?_
   refine wq rfl rfl rfl (ov_fieldAddr underlying28 rfl rfl rfl sizeOf26 rfl rfl) ?_
   refine wq rfl rfl rfl (ov_load_box (i := 0) isAgg26 rfl rfl rfl rfl) ?_
   refine wq rfl rfl rfl (ov_move rfl rfl) ?_
   obtain ⟨x4, e18, hm⟩ := bind_some hm
   obtain ⟨h26, h27, h28, cs4, h29, h30⟩ := h2.get e18 (by decide)
   obtain ⟨ao9, cap9, ao10, cap10, rfl, h24, hc14, h25, hc15⟩ := (encNode_open h29)
   refine wq rfl rfl rfl (ov_indexAddr underlying26 sizeOf28 rfl rfl rfl h26 h27 h28) ?_
   refine wq rfl rfl rfl (ov_load_elems (vs := [(.int .i64 x4.kind), (.slice ao9 x4.step.strokes.length cap9), (.int .i64 x4.step.wait), (.int .i64 x4.count), (mkS x4.name), (.slice ao10 x4.nodes.length cap10)]) isAgg28 sizeOf28 rfl rfl rfl h30 h28) ?_
   obtain ⟨r6, e19, hm⟩ := bind_some hm
   refine wo rfl (oq_con (r := (mkS r6)) call66 rfl rfl (fun w' s => ⟨_, (hself x4 ao9 cap9 ao10 cap10  w' H s.hold h24 hc14 h25 hc15 hG r6 e19)⟩)) ?_
   obtain ⟨s12, e20, hm⟩ := bind_some hm
   refine wq rfl rfl rfl (ov_sadd' e20 rfl rfl rfl) ?_
   refine wq rfl rfl rfl (ov_assign rfl rfl) ?_
   refine WL.nil (bn (tn (WP.region ?_)))
   refine wq rfl rfl rfl (ov_move rfl rfl) ?_
   refine wq rfl rfl rfl (ov_add rfl rfl rfl) ?_
   refine wq rfl rfl rfl (ov_assign rfl rfl) ?_
   refine WL.nil (tn ?_)
   exact ⟨s12, (IntKind.wrap .i64 (i1 + 1)), (Sub.all rfl), fun w' s => s, hm⟩
  replace hm := ite_f hc12 hm
  refine WP.exit (then_exit (then_exit (block_here (tn ?_))))
  exact ⟨s9, (Sub.all rfl), fun w' s => (s.select [] (by decide) rfl), hm⟩
 rintro g' S' ⟨s13, hsub3, hS3, hm⟩
 refine WP.sub hsub3 (WP.weaken hS3 ?_)
 replace hm := (congrFun hk1 s13).symm.trans hm
 refine WP.seq (WP.region ?_)
 refine wq rfl rfl rfl (ov_move rfl rfl) ?_
 obtain ⟨s14, e21, hm⟩ := bind_some hm
 refine wq rfl rfl rfl (ov_sadd' e21 rfl rfl rfl) ?_
 refine wq rfl rfl rfl (ov_assign rfl rfl) ?_
 refine WL.nil (tn (WP.ret ?_))
 obtain rfl := Option.some.inj hm
 refine retQ_ret results66 (Res.tmp rfl Res.nil) rfl (fun w' s => ⟨s.below, ?_⟩)
 exact rfl
theorem ref15_Text_con (n : Nat) : ∀ (p_x : Node) (ao1 : Option Addr) (cap1 : Nat) (ao2 : Option Addr) (cap2 : Nat) (w : World) (H : Heap) (hH : Le H (hp w)) (h1 : SL H encStroke ao1 p_x.step.strokes) (hc1 : p_x.step.strokes.length ≤ cap1) (h2 : SL H encNode ao2 p_x.nodes) (hc2 : p_x.nodes.length ≤ cap2) (hG : Glob H) (r : (List UInt8)) (hm : ref15_Text n p_x = some r),
  Con prog 66 [(.agg #[(.int .i64 p_x.kind), (.slice ao1 p_x.step.strokes.length cap1), (.int .i64 p_x.step.wait), (.int .i64 p_x.count), (mkS p_x.name), (.slice ao2 p_x.nodes.length cap2)])] w H (fun v _ => v = (mkS r)) := by
 induction n with
 | zero => intro p_x ao1 cap1 ao2 cap2 w H hH h1 hc1 h2 hc2 hG r hm; exact (none_some hm).elim
 | succ n ih => intro p_x ao1 cap1 ao2 cap2 w H hH h1 hc1 h2 hc2 hG r hm; exact ref15_Text_body_con (ref15_Text n) ih p_x ao1 cap1 ao2 cap2 w H hH h1 hc1 h2 hc2 hG r hm
theorem ref15_Format_con (p_x : Node) (ao1 : Option Addr) (cap1 : Nat) (ao2 : Option Addr) (cap2 : Nat) (w : World) (H : Heap) (hH : Le H (hp w)) (h1 : SL H encStroke ao1 p_x.step.strokes) (hc1 : p_x.step.strokes.length ≤ cap1) (h2 : SL H encNode ao2 p_x.nodes) (hc2 : p_x.nodes.length ≤ cap2) (hG : Glob H) (r : ((List UInt8) × Int)) (hm : ref15_Format p_x = some r) :
  Con prog 28 [(.agg #[(.int .i64 p_x.kind), (.slice ao1 p_x.step.strokes.length cap1), (.int .i64 p_x.step.wait), (.int .i64 p_x.count), (mkS p_x.name), (.slice ao2 p_x.nodes.length cap2)])] w H (fun v _ => v = (.tuple #[(mkS r.1), (.int .i64 r.2)])) := by
 unfold ref15_Format at hm
 refine con_of hH func28 rfl 17 ntmps28 rfl ?_
 refine WP.seq (WP.region ?_)
 refine ws rfl (os_box (cs := [(.int .i64 p_x.kind), (.slice ao1 p_x.step.strokes.length cap1), (.int .i64 p_x.step.wait), (.int .i64 p_x.count), (mkS p_x.name), (.slice ao2 p_x.nodes.length cap2)]) rfl rfl rfl (fun b1 => ?_))
 refine wq rfl rfl rfl (ov_assign rfl rfl) ?_
 refine wq rfl rfl rfl (ov_assign rfl rfl) ?_
 refine WL.nil (tn (WP.seq (WP.seq (WP.region ?_))))
 refine wq rfl rfl rfl (ov_load_whole (i := 0) isAgg28 sizeOf28 rfl rfl rfl rfl) ?_
 obtain ⟨r1, e1, hm⟩ := bind_some hm
 refine wo rfl (oq_con (r := (.int .i64 r1)) call32 rfl rfl (fun w' s => ⟨_, (ref15_Check_con p_x ao1 cap1 ao2 cap2  w' H s.hold h1 hc1 h2 hc2 hG r1 e1)⟩)) ?_
 refine wq rfl rfl rfl (ov_assign rfl rfl) ?_
 refine WL.nil (tn (WP.seq (WP.region ?_)))
 refine wq rfl rfl rfl (ov_move rfl rfl) ?_
 refine wq rfl rfl rfl (ov_neq rfl rfl rfl) ?_
 refine WL.nil (tn ?_)
 refine WP.cond rfl (fun hc3 => ?_) (fun hc3 => ?_)
 ·
  replace hm := ite_t hc3 hm
  refine WP.seq (WP.region ?_)
  refine wq rfl rfl rfl (ov_move rfl rfl) ?_
  refine wq rfl rfl rfl (ov_assign rfl rfl) ?_
  refine wq rfl rfl rfl (ov_assign rfl rfl) ?_
  refine WL.nil (tn (WP.ret (then_ret ?_)))
  obtain rfl := Option.some.inj hm
  refine retQ_ret results28 (Res.tmp rfl (Res.tmp rfl Res.nil)) rfl (fun w' s => ⟨s.below, ?_⟩)
  exact rfl
 replace hm := ite_f hc3 hm
 refine WP.skip (tn (WP.seq (WP.region ?_)))
 refine wq rfl rfl rfl (ov_load_whole (i := 0) isAgg28 sizeOf28 rfl rfl rfl rfl) ?_
 obtain ⟨r2, e2, hm⟩ := bind_some hm
 refine wo rfl (oq_con (r := (mkS r2)) call66 rfl rfl (fun w' s => ⟨_, (ref15_Text_con 600 p_x ao1 cap1 ao2 cap2  w' H s.hold h1 hc1 h2 hc2 hG r2 e2)⟩)) ?_
 refine wq rfl rfl rfl (ov_assign rfl rfl) ?_
 refine WL.nil (tn (WP.seq (WP.seq (WP.region ?_))))
 refine wq rfl rfl rfl (ov_move rfl rfl) ?_
 refine wq rfl rfl rfl (ov_len_string underlying9 rfl rfl) ?_
 refine wq rfl rfl rfl (ov_gtr rfl rfl rfl) ?_
 refine WL.nil (tn ?_)
 refine WP.cond rfl (fun hc4 => ?_) (fun hc4 => ?_)
 ·
  replace hm := ite_t hc4 hm
  refine WP.seq (WP.region ?_)
  refine wq rfl rfl rfl (ov_assign rfl rfl) ?_
  refine wq rfl rfl rfl (ov_assign rfl rfl) ?_
  refine WL.nil (tn (WP.ret (then_ret ?_)))
  obtain rfl := Option.some.inj hm
  refine retQ_ret results28 (Res.tmp rfl (Res.tmp rfl Res.nil)) rfl (fun w' s => ⟨s.below, ?_⟩)
  exact rfl
 replace hm := ite_f hc4 hm
 refine WP.skip (tn (WP.seq (WP.region ?_)))
 refine wq rfl rfl rfl (ov_move rfl rfl) ?_
 refine wq rfl rfl rfl (ov_assign rfl rfl) ?_
 refine wq rfl rfl rfl (ov_assign rfl rfl) ?_
 refine WL.nil (tn (WP.ret ?_))
 obtain rfl := Option.some.inj hm
 refine retQ_ret results28 (Res.tmp rfl (Res.tmp rfl Res.nil)) rfl (fun w' s => ⟨s.below, ?_⟩)
 exact rfl
theorem ref15_Put_con (p_l : (List (List UInt8))) (p_s : (List UInt8)) (ao1 : Option Addr) (cap1 : Nat) (w : World) (H : Heap) (hH : Le H (hp w)) (h1 : SL H encStr ao1 p_l) (hc1 : p_l.length ≤ cap1) (hG : Glob H) (r : (List (List UInt8))) (hm : ref15_Put p_l p_s = some r) :
  Con prog 108 [(.slice ao1 p_l.length cap1), (mkS p_s)] w H (fun v H' => ∃ (ao2 : Option Addr) (cap2 : Nat), v = (.slice ao2 r.length cap2) ∧ SL H' encStr ao2 r ∧ r.length ≤ cap2) := by
 unfold ref15_Put at hm
 refine con_of hH func108 rfl 48 ntmps108 rfl ?_
 refine WP.seq (WP.region ?_)
 refine wq rfl rfl rfl (ov_assign rfl rfl) ?_
 refine WL.nil (tn (WP.seq (WP.region ?_)))
 refine wq rfl rfl rfl (ov_assign rfl rfl) ?_
 refine WL.nil (tn (WP.seq (WP.region ?_)))
 refine wq rfl rfl rfl (ov_assign rfl rfl) ?_
 refine WL.nil (tn ?_)
 obtain ⟨k1, hk1, hm⟩ := joinK_some hm
 refine WP.seq_join (fun g' S' => ∃ (c5 : Bool) (l6 : (List (List UInt8))) (ao8 : Option Addr) (cap8 : Nat) (xs4 : List Value), RL H encStr l6 xs4 ∧ Sub [(1, (mkS p_s)), (5, (.slice ao8 l6.length cap8)), (6, (.bool c5)), (1000000007, (.bool false))] g' ∧ (∀ w', S' w' → St w H [.row 9 (encStr).size l6.length (.slice ao8 l6.length cap8) xs4] H w') ∧ k1 c5 l6 = some r) ?_ ?_
 ·
  refine WP.seq (WP.region ?_)
  refine wq rfl rfl rfl (ov_assign rfl rfl) ?_
  refine WL.nil (tn (WP.block ?_))
  have rl1 := RL.nil (α := (List UInt8)) H encStr
  refine WP.weaken (fun _ s => s.nilrow 9 (encStr).size) ?_
  refine WP.loop (fun m1 g' S' => ∃ (c1 : Bool) (i1 : Int) (l1 : (List (List UInt8))) (ao3 : Option Addr) (cap3 : Nat) (xs1 : List Value), RL H encStr l1 xs1 ∧ Sub [(0, (.slice ao1 p_l.length cap1)), (1, (mkS p_s)), (5, (.slice ao3 l1.length cap3)), (6, (.bool c1)), (7, (.int .i64 i1)), (1000000007, (.bool false))] g' ∧ (∀ w', S' w' → St w H [.row 9 (encStr).size l1.length (.slice ao3 l1.length cap3) xs1] H w') ∧ ref15_Put_loop1 p_l p_s k1 m1 c1 i1 l1 = some r) ((Int.toNat ((p_l.length : Int) - 0) + 1)) ⟨false, 0, ([] : List (List UInt8)), none, 0, [], rl1, (Sub.all rfl), fun w' s => s, hm⟩ ?_ ?_
  ·
   rintro g' S' ⟨_, _, _, _, _, _, _, _, _, hm⟩
   exact none_some hm
  rintro m1 g' S' ⟨c1, i1, l1, ao3, cap3, xs1, rl2, hsub1, hS1, hm⟩
  refine WP.sub hsub1 (WP.weaken hS1 ?_)
  rw [ref15_Put_loop1] at hm
  refine WP.seq (WP.seq (WP.region ?_))
  refine wq rfl rfl rfl (ov_move rfl rfl) ?_
  refine wq rfl rfl rfl (ov_move rfl rfl) ?_
  refine wq rfl rfl rfl (ov_len_slice underlying36 rfl rfl) ?_
  refine wq rfl rfl rfl (ov_lss rfl rfl rfl) ?_
  refine WL.nil (tn ?_)
  refine WP.cond rfl (fun hc3 => ?_) (fun hc3 => ?_)
  ·
   replace hm := ite_t hc3 hm
   refine WP.skip (tn ?_)
   obtain ⟨k2, hk2, hm⟩ := joinK_some hm
   refine WP.seq_join (fun g' S' => ∃ (c4 : Bool) (l5 : (List (List UInt8))) (ao7 : Option Addr) (cap7 : Nat) (xs3 : List Value), RL H encStr l5 xs3 ∧ Sub [(0, (.slice ao1 p_l.length cap1)), (1, (mkS p_s)), (5, (.slice ao7 l5.length cap7)), (6, (.bool c4)), (7, (.int .i64 i1)), (1000000007, (.bool false))] g' ∧ (∀ w', S' w' → St w H [.row 9 (encStr).size l5.length (.slice ao7 l5.length cap7) xs3] H w') ∧ k2 c4 l5 = some r) ?_ ?_
   ·
    refine WP.block ?_
    obtain ⟨k3, hk3, hm⟩ := joinK_some hm
    refine WP.seq_join (fun g' S' => ∃ (c3 : Bool) (l3 : (List (List UInt8))) (ao5 : Option Addr) (cap5 : Nat) (xs2 : List Value), RL H encStr l3 xs2 ∧ Sub [(0, (.slice ao1 p_l.length cap1)), (1, (mkS p_s)), (5, (.slice ao5 l3.length cap5)), (6, (.bool c3)), (7, (.int .i64 i1)), (1000000007, (.bool false))] g' ∧ (∀ w', S' w' → St w H [.row 9 (encStr).size l3.length (.slice ao5 l3.length cap5) xs2] H w') ∧ k3 c3 l3 = some r) ?_ ?_
    ·
     refine WP.seq (WP.region ?_)
     refine wq rfl rfl rfl (ov_move rfl rfl) ?_
     refine wq rfl rfl rfl (ov_not rfl rfl) ?_
     refine wq rfl rfl rfl (ov_move rfl rfl) ?_
     obtain ⟨c2, e1, hm⟩ := bind_some hm
     refine WL.cut_bool 7 23 (x := c2) ?_ ?_
     ·
      rcases Bool.eq_false_or_eq_true (!c1) with hc4 | hc4
      ·
       replace hm := ite_t hc4 e1
       refine wy hc4 rfl (ov_move rfl rfl) ?_
       refine wy hc4 rfl (ov_move rfl rfl) ?_
       obtain ⟨x1, e2, hm⟩ := bind_some hm
       obtain ⟨h3, h4, h5, cs1, h6, h7⟩ := h1.get e2 (by decide)
       obtain rfl : cs1 = [(mkS x1)] := h6
       refine wy hc4 rfl (ov_indexAddr underlying36 sizeOf9 rfl rfl rfl h3 h4 h5) ?_
       refine wy hc4 rfl (ov_load_elem (v := (mkS x1)) isAgg9 rfl rfl h7) ?_
       refine wy hc4 rfl (ov_move rfl rfl) ?_
       refine wy hc4 rfl (ov_sgeq rfl rfl rfl) ?_
       refine wq rfl rfl rfl (ov_pick_true rfl (guard_eq rfl hc4) rfl) ?_
       exact WL.nil ⟨Sub.cons' rfl (congrArg Value.bool (Option.some.inj hm)) (Sub.dropn 7 rfl), fun _ s => s⟩
      replace hm := ite_f hc4 e1
      refine WL.idle (Idle.no rfl rfl rfl hc4) rfl rfl ?_
      refine WL.idle (Idle.no rfl rfl rfl hc4) rfl rfl ?_
      refine WL.idle (Idle.no rfl rfl rfl hc4) rfl rfl ?_
      refine WL.idle (Idle.no rfl rfl rfl hc4) rfl rfl ?_
      refine WL.idle (Idle.no rfl rfl rfl hc4) rfl rfl ?_
      refine WL.idle (Idle.no rfl rfl rfl hc4) rfl rfl ?_
      refine wq rfl rfl rfl (ov_pick_false rfl (guard_eq rfl hc4) rfl) ?_
      exact WL.nil ⟨Sub.cons' rfl (congrArg Value.bool (Option.some.inj hm)) (Sub.dropn 7 rfl), fun _ s => s⟩
     refine WL.nil (tn ?_)
     refine WP.cond rfl (fun hc5 => ?_) (fun hc5 => ?_)
     ·
      replace hm := ite_t hc5 hm
      refine WP.seq (WP.region ?_)
      refine wq rfl rfl rfl (ov_move rfl rfl) ?_
      refine wq rfl rfl rfl (ov_move rfl rfl) ?_
      have rl3 : RL H encStr ([p_s] : List (List UInt8)) [(mkS p_s)] := RL.cons (cs := [(mkS p_s)]) (xs := []) rfl (RL.nil _ _)
      refine ws rfl (os_buildSlice (cs := [(mkS p_s)]) (E := 9) (sz := 1) rfl rfl (fun _ => by kernel_rfl) rfl (by decide) (fun b1 => ?_))
      obtain ⟨l2, e3, hm⟩ := bind_some hm
      refine ws rfl (os_app (i := 1) (j := 0) (En := encStr) (xs := xs1) (ys := [(mkS p_s)]) underlying36 (by kernel_rfl : (prog.info? 9).map (fun i => (i.zero, i.size, i.bytes)) = some (some (mkS []), (encStr).size, 16)) rfl (by decide) rfl rfl rfl rfl rfl rfl rl2 rl3 e3 (fun ao4 cap4 rl4 => ?_))
      refine wq rfl rfl rfl (ov_assign rfl rfl) ?_
      refine WL.nil (tn (WP.region ?_))
      refine wq rfl rfl rfl (ov_assign rfl rfl) ?_
      refine WL.nil (tn ?_)
      exact ⟨true, (l1 ++ ([p_s] : List (List UInt8))), ao4, cap4, (xs1 ++ [(mkS p_s)]), rl4, (Sub.all rfl), fun w' s => (s.select [1] (by decide) rfl), hm⟩
     replace hm := ite_f hc5 hm
     refine WP.skip (tn ?_)
     exact ⟨c1, l1, ao3, cap3, xs1, rl2, (Sub.all rfl), fun w' s => s, hm⟩
    rintro g' S' ⟨c3, l3, ao5, cap5, xs2, rl5, hsub2, hS2, hm⟩
    refine WP.sub hsub2 (WP.weaken hS2 ?_)
    replace hm := (congrFun (congrFun hk3 c3) l3).symm.trans hm
    refine WP.seq (WP.region ?_)
    refine wq rfl rfl rfl (ov_move rfl rfl) ?_
    refine wq rfl rfl rfl (ov_move rfl rfl) ?_
    obtain ⟨x2, e4, hm⟩ := bind_some hm
    obtain ⟨h8, h9, h10, cs2, h11, h12⟩ := h1.get e4 (by decide)
    obtain rfl : cs2 = [(mkS x2)] := h11
    refine wq rfl rfl rfl (ov_indexAddr underlying36 sizeOf9 rfl rfl rfl h8 h9 h10) ?_
    refine wq rfl rfl rfl (ov_load_elem (v := (mkS x2)) isAgg9 rfl rfl h12) ?_
    refine wq rfl rfl rfl (ov_move rfl rfl) ?_
    refine wq rfl rfl rfl (ov_sneq rfl rfl rfl) ?_
    refine WL.nil (tn ?_)
    refine WP.cond rfl (fun hc6 => ?_) (fun hc6 => ?_)
    ·
     replace hm := ite_t hc6 hm
     refine WP.region ?_
     refine wq rfl rfl rfl (ov_move rfl rfl) ?_
     refine wq rfl rfl rfl (ov_move rfl rfl) ?_
     refine wq rfl rfl rfl (ov_move rfl rfl) ?_
     obtain ⟨x3, e5, hm⟩ := bind_some hm
     obtain ⟨h13, h14, h15, cs3, h16, h17⟩ := h1.get e5 (by decide)
     obtain rfl : cs3 = [(mkS x3)] := h16
     refine wq rfl rfl rfl (ov_indexAddr underlying36 sizeOf9 rfl rfl rfl h13 h14 h15) ?_
     refine wq rfl rfl rfl (ov_load_elem (v := (mkS x3)) isAgg9 rfl rfl h17) ?_
     have rl6 : RL H encStr ([x3] : List (List UInt8)) [(mkS x3)] := RL.cons (cs := [(mkS x3)]) (xs := []) rfl (RL.nil _ _)
     refine ws rfl (os_buildSlice (cs := [(mkS x3)]) (E := 9) (sz := 1) rfl rfl (fun _ => by kernel_rfl) rfl (by decide) (fun b2 => ?_))
     obtain ⟨l4, e6, hm⟩ := bind_some hm
     refine ws rfl (os_app (i := 1) (j := 0) (En := encStr) (xs := xs2) (ys := [(mkS x3)]) underlying36 (by kernel_rfl : (prog.info? 9).map (fun i => (i.zero, i.size, i.bytes)) = some (some (mkS []), (encStr).size, 16)) rfl (by decide) rfl rfl rfl rfl rfl rfl rl5 rl6 e6 (fun ao6 cap6 rl7 => ?_))
     refine wq rfl rfl rfl (ov_assign rfl rfl) ?_
     refine WL.nil (bn (tn ?_))
     exact ⟨c3, (l3 ++ ([x3] : List (List UInt8))), ao6, cap6, (xs2 ++ [(mkS x3)]), rl7, (Sub.all rfl), fun w' s => (s.select [1] (by decide) rfl), hm⟩
    replace hm := ite_f hc6 hm
    refine WP.skip (bn (tn ?_))
    exact ⟨c3, l3, ao5, cap5, xs2, rl5, (Sub.all rfl), fun w' s => s, hm⟩
   rintro g' S' ⟨c4, l5, ao7, cap7, xs3, rl8, hsub3, hS3, hm⟩
   refine WP.sub hsub3 (WP.weaken hS3 ?_)
   replace hm := (congrFun (congrFun hk2 c4) l5).symm.trans hm
   refine WP.region ?_
   refine wq rfl rfl rfl (ov_move rfl rfl) ?_
   refine wq rfl rfl rfl (ov_add rfl rfl rfl) ?_
   refine wq rfl rfl rfl (ov_assign rfl rfl) ?_
   refine WL.nil (tn ?_)
   exact ⟨c4, (IntKind.wrap .i64 (i1 + 1)), l5, ao7, cap7, xs3, rl8, (Sub.all rfl), fun w' s => s, hm⟩
  replace hm := ite_f hc3 hm
  refine WP.exit (then_exit (then_exit (block_here (tn ?_))))
  exact ⟨c1, l1, ao3, cap3, xs1, rl2, (Sub.all rfl), fun w' s => s, hm⟩
 rintro g' S' ⟨c5, l6, ao8, cap8, xs4, rl9, hsub4, hS4, hm⟩
 refine WP.sub hsub4 (WP.weaken hS4 ?_)
 replace hm := (congrFun (congrFun hk1 c5) l6).symm.trans hm
 obtain ⟨k4, hk4, hm⟩ := joinK_some hm
 refine WP.seq_join (fun g' S' => ∃ (l8 : (List (List UInt8))) (ao10 : Option Addr) (cap10 : Nat) (xs5 : List Value), RL H encStr l8 xs5 ∧ Sub [(5, (.slice ao10 l8.length cap10)), (1000000007, (.bool false))] g' ∧ (∀ w', S' w' → St w H [.row 9 (encStr).size l8.length (.slice ao10 l8.length cap10) xs5] H w') ∧ k4 l8 = some r) ?_ ?_
 ·
  refine WP.seq (WP.region ?_)
  refine wq rfl rfl rfl (ov_move rfl rfl) ?_
  refine wq rfl rfl rfl (ov_not rfl rfl) ?_
  refine WL.nil (tn ?_)
  refine WP.cond rfl (fun hc7 => ?_) (fun hc7 => ?_)
  ·
   replace hm := ite_t hc7 hm
   refine WP.region ?_
   refine wq rfl rfl rfl (ov_move rfl rfl) ?_
   refine wq rfl rfl rfl (ov_move rfl rfl) ?_
   have rl10 : RL H encStr ([p_s] : List (List UInt8)) [(mkS p_s)] := RL.cons (cs := [(mkS p_s)]) (xs := []) rfl (RL.nil _ _)
   refine ws rfl (os_buildSlice (cs := [(mkS p_s)]) (E := 9) (sz := 1) rfl rfl (fun _ => by kernel_rfl) rfl (by decide) (fun b3 => ?_))
   obtain ⟨l7, e7, hm⟩ := bind_some hm
   refine ws rfl (os_app (i := 1) (j := 0) (En := encStr) (xs := xs4) (ys := [(mkS p_s)]) underlying36 (by kernel_rfl : (prog.info? 9).map (fun i => (i.zero, i.size, i.bytes)) = some (some (mkS []), (encStr).size, 16)) rfl (by decide) rfl rfl rfl rfl rfl rfl rl9 rl10 e7 (fun ao9 cap9 rl11 => ?_))
   refine wq rfl rfl rfl (ov_assign rfl rfl) ?_
   refine WL.nil (tn ?_)
   exact ⟨(l6 ++ ([p_s] : List (List UInt8))), ao9, cap9, (xs4 ++ [(mkS p_s)]), rl11, (Sub.all rfl), fun w' s => (s.select [1] (by decide) rfl), hm⟩
  replace hm := ite_f hc7 hm
  refine WP.skip (tn ?_)
  exact ⟨l6, ao8, cap8, xs4, rl9, (Sub.all rfl), fun w' s => s, hm⟩
 rintro g' S' ⟨l8, ao10, cap10, xs5, rl12, hsub5, hS5, hm⟩
 refine WP.sub hsub5 (WP.weaken hS5 ?_)
 replace hm := (congrFun hk4 l8).symm.trans hm
 refine WP.seq (WP.region ?_)
 refine wq rfl rfl rfl (ov_move rfl rfl) ?_
 refine wq rfl rfl rfl (ov_assign rfl rfl) ?_
 refine WL.nil (tn (WP.ret ?_))
 obtain rfl := Option.some.inj hm
 refine retQ_ret results108 (Res.tmp rfl Res.nil) rfl (fun w' s => ⟨s.below, ?_⟩)
 obtain ⟨h18, hc8⟩ := s.ret_row (i := 0) rfl rl12
 exact ⟨ao10, cap10, rfl, h18, hc8⟩
theorem ref15_Asked_body_con (self : Node → Option (List (List UInt8))) (hself : ∀ (p_x : Node) (ao1 : Option Addr) (cap1 : Nat) (ao2 : Option Addr) (cap2 : Nat) (w : World) (H : Heap) (hH : Le H (hp w)) (h1 : SL H encStroke ao1 p_x.step.strokes) (hc1 : p_x.step.strokes.length ≤ cap1) (h2 : SL H encNode ao2 p_x.nodes) (hc2 : p_x.nodes.length ≤ cap2) (hG : Glob H) (r : (List (List UInt8))) (hm : self p_x = some r), Con prog 67 [(.agg #[(.int .i64 p_x.kind), (.slice ao1 p_x.step.strokes.length cap1), (.int .i64 p_x.step.wait), (.int .i64 p_x.count), (mkS p_x.name), (.slice ao2 p_x.nodes.length cap2)])] w H (fun v H' => ∃ (ao3 : Option Addr) (cap3 : Nat), v = (.slice ao3 r.length cap3) ∧ SL H' encStr ao3 r ∧ r.length ≤ cap3)) (p_x : Node) (ao1 : Option Addr) (cap1 : Nat) (ao2 : Option Addr) (cap2 : Nat) (w : World) (H : Heap) (hH : Le H (hp w)) (h1 : SL H encStroke ao1 p_x.step.strokes) (hc1 : p_x.step.strokes.length ≤ cap1) (h2 : SL H encNode ao2 p_x.nodes) (hc2 : p_x.nodes.length ≤ cap2) (hG : Glob H) (r : (List (List UInt8))) (hm : ref15_Asked_body self p_x = some r) :
  Con prog 67 [(.agg #[(.int .i64 p_x.kind), (.slice ao1 p_x.step.strokes.length cap1), (.int .i64 p_x.step.wait), (.int .i64 p_x.count), (mkS p_x.name), (.slice ao2 p_x.nodes.length cap2)])] w H (fun v H' => ∃ (ao3 : Option Addr) (cap3 : Nat), v = (.slice ao3 r.length cap3) ∧ SL H' encStr ao3 r ∧ r.length ≤ cap3) := by
 unfold ref15_Asked_body at hm
 refine con_of hH func67 rfl 40 ntmps67 rfl ?_
 refine WP.seq (WP.region ?_)
 refine ws rfl (os_box (cs := [(.int .i64 p_x.kind), (.slice ao1 p_x.step.strokes.length cap1), (.int .i64 p_x.step.wait), (.int .i64 p_x.count), (mkS p_x.name), (.slice ao2 p_x.nodes.length cap2)]) rfl rfl rfl (fun b1 => ?_))
 refine wq rfl rfl rfl (ov_assign rfl rfl) ?_
 refine WL.nil (tn (WP.seq (WP.region ?_)))
 refine wq rfl rfl rfl (ov_assign rfl rfl) ?_
 refine WL.nil (tn ?_)
 obtain ⟨k1, hk1, hm⟩ := joinK_some hm
 refine WP.seq_join (fun g' S' => ∃ (H2 : Heap) (l1 : (List (List UInt8))) (ao5 : Option Addr) (cap5 : Nat), Le H H2 ∧ SL H2 encStr ao5 l1 ∧ l1.length ≤ cap5 ∧ Sub [(1, (pB b1 0)), (3, (.slice ao5 l1.length cap5)), (1000000007, (.bool false))] g' ∧ (∀ w', S' w' → St w H [.blk b1 28 [(.int .i64 p_x.kind), (.slice ao1 p_x.step.strokes.length cap1), (.int .i64 p_x.step.wait), (.int .i64 p_x.count), (mkS p_x.name), (.slice ao2 p_x.nodes.length cap2)]] H2 w') ∧ k1 l1 = some r) ?_ ?_
 ·
  refine WP.seq (WP.region ?_)
  refine wq rfl rfl rfl (ov_fieldAddr underlying28 rfl rfl rfl sizeOf3 rfl rfl) ?_
  refine wq rfl rfl rfl (ov_load_box (i := 0) isAgg3 rfl rfl rfl rfl) ?_
  refine wq rfl rfl rfl (ov_eql rfl rfl rfl) ?_
  refine WL.nil (tn ?_)
  refine WP.cond rfl (fun hc4 => ?_) (fun hc4 => ?_)
  ·
   replace hm := ite_t hc4 hm
   refine WP.region ?_
   refine wq rfl rfl rfl (ov_move rfl rfl) ?_
   refine wq rfl rfl rfl (ov_fieldAddr underlying28 rfl rfl rfl sizeOf9 rfl rfl) ?_
   refine wq rfl rfl rfl (ov_load_box (i := 0) isAgg9 rfl rfl rfl rfl) ?_
   obtain ⟨r1, e1, hm⟩ := bind_some hm
   refine ws rfl (os_con call108 rfl rfl (fun w' s => (ref15_Put_con [] p_x.name none 0  w' H s.hold (SL.nil _ _ _) (Nat.le_refl _) hG r1 e1)) (fun rr1 H1 hle1 hR1 => ?_))
   replace h2 := h2.mono hle1
   replace hG := hG.mono hle1
   obtain ⟨ao4, cap4, rfl, h4, hc5⟩ := hR1
   refine wq rfl rfl rfl (ov_assign rfl rfl) ?_
   refine WL.nil (tn ?_)
   exact ⟨H1, r1, ao4, cap4, hle1, h4, hc5, (Sub.all rfl), fun w' s => s, hm⟩
  replace hm := ite_f hc4 hm
  refine WP.skip (tn ?_)
  exact ⟨H, [], none, 0, (Le.refl _), (SL.nil _ _ _), (Nat.le_refl _), (Sub.all rfl), fun w' s => s, hm⟩
 rintro g' S' ⟨H2, l1, ao5, cap5, hle2, h5, hc6, hsub1, hS1, hm⟩
 refine WP.sub hsub1 (WP.weaken hS1 ?_)
 replace hm := (congrFun hk1 l1).symm.trans hm
 replace h2 := h2.mono hle2
 replace hG := hG.mono hle2
 obtain ⟨k2, hk2, hm⟩ := joinK_some hm
 refine WP.seq_join (fun g' S' => ∃ (H8 : Heap) (l5 : (List (List UInt8))) (ao13 : Option Addr) (cap13 : Nat), Le H2 H8 ∧ SL H8 encStr ao13 l5 ∧ l5.length ≤ cap13 ∧ Sub [(3, (.slice ao13 l5.length cap13)), (1000000007, (.bool false))] g' ∧ (∀ w', S' w' → St w H [] H8 w') ∧ k2 l5 = some r) ?_ ?_
 ·
  refine WP.seq (WP.region ?_)
  refine wq rfl rfl rfl (ov_assign rfl rfl) ?_
  refine WL.nil (tn (WP.block ?_))
  refine WP.loop (fun m1 g' S' => ∃ (H3 : Heap) (l2 : (List (List UInt8))) (ao6 : Option Addr) (cap6 : Nat) (i1 : Int), Le H2 H3 ∧ SL H3 encStr ao6 l2 ∧ l2.length ≤ cap6 ∧ Sub [(1, (pB b1 0)), (3, (.slice ao6 l2.length cap6)), (4, (.int .i64 i1)), (1000000007, (.bool false))] g' ∧ (∀ w', S' w' → St w H [.blk b1 28 [(.int .i64 p_x.kind), (.slice ao1 p_x.step.strokes.length cap1), (.int .i64 p_x.step.wait), (.int .i64 p_x.count), (mkS p_x.name), (.slice ao2 p_x.nodes.length cap2)]] H3 w') ∧ ref15_Asked_loop1 p_x self k2 m1 l2 i1 = some r) ((Int.toNat ((p_x.nodes.length : Int) - 0) + 1)) ⟨H2, l1, ao5, cap5, 0, (Le.refl _), h5, hc6, (Sub.all rfl), fun w' s => s, hm⟩ ?_ ?_
  ·
   rintro g' S' ⟨_, _, _, _, _, _, _, _, _, _, hm⟩
   exact none_some hm
  rintro m1 g' S' ⟨H3, l2, ao6, cap6, i1, hle3, h6, hc7, hsub2, hS2, hm⟩
  refine WP.sub hsub2 (WP.weaken hS2 ?_)
  rw [ref15_Asked_loop1] at hm
  replace h2 := h2.mono hle3
  replace hG := hG.mono hle3
  refine WP.seq (WP.seq (WP.region ?_))
  refine wq rfl rfl rfl (ov_move rfl rfl) ?_
  refine wq rfl rfl rfl (ov_fieldAddr underlying28 rfl rfl rfl sizeOf26 rfl rfl) ?_
  refine wq rfl rfl rfl (ov_load_box (i := 0) isAgg26 rfl rfl rfl rfl) ?_
  refine wq rfl rfl rfl (ov_len_slice underlying26 rfl rfl) ?_
  refine wq rfl rfl rfl (ov_lss rfl rfl rfl) ?_
  refine WL.nil (tn ?_)
  refine WP.cond rfl (fun hc8 => ?_) (fun hc8 => ?_)
  ·
   replace hm := ite_t hc8 hm
   refine WP.skip (tn ?_)
   obtain ⟨k3, hk3, hm⟩ := joinK_some hm
   refine WP.seq_join (fun g' S' => ∃ (H7 : Heap) (l4 : (List (List UInt8))) (ao12 : Option Addr) (cap12 : Nat), Le H3 H7 ∧ SL H7 encStr ao12 l4 ∧ l4.length ≤ cap12 ∧ Sub [(1, (pB b1 0)), (3, (.slice ao12 l4.length cap12)), (4, (.int .i64 i1)), (1000000007, (.bool false))] g' ∧ (∀ w', S' w' → St w H [.blk b1 28 [(.int .i64 p_x.kind), (.slice ao1 p_x.step.strokes.length cap1), (.int .i64 p_x.step.wait), (.int .i64 p_x.count), (mkS p_x.name), (.slice ao2 p_x.nodes.length cap2)]] H7 w') ∧ k3 l4 = some r) ?_ ?_
   ·
    refine WP.block (WP.seq (WP.region ?_))
    refine wq rfl rfl rfl (ov_fieldAddr underlying28 rfl rfl rfl sizeOf26 rfl rfl) ?_
    refine wq rfl rfl rfl (ov_load_box (i := 0) isAgg26 rfl rfl rfl rfl) ?_
    refine wq rfl rfl rfl (ov_move rfl rfl) ?_
    obtain ⟨x1, e2, hm⟩ := bind_some hm
    obtain ⟨h9, h10, h11, cs1, h12, h13⟩ := h2.get e2 (by decide)
    obtain ⟨ao7, cap7, ao8, cap8, rfl, h7, hc9, h8, hc10⟩ := (encNode_open h12)
    refine wq rfl rfl rfl (ov_indexAddr underlying26 sizeOf28 rfl rfl rfl h9 h10 h11) ?_
    refine wq rfl rfl rfl (ov_load_elems (vs := [(.int .i64 x1.kind), (.slice ao7 x1.step.strokes.length cap7), (.int .i64 x1.step.wait), (.int .i64 x1.count), (mkS x1.name), (.slice ao8 x1.nodes.length cap8)]) isAgg28 sizeOf28 rfl rfl rfl h13 h11) ?_
    obtain ⟨r2, e3, hm⟩ := bind_some hm
    refine ws rfl (os_con call67 rfl rfl (fun w' s => (hself x1 ao7 cap7 ao8 cap8  w' H3 s.hold h7 hc9 h8 hc10 hG r2 e3)) (fun rr2 H4 hle4 hR2 => ?_))
    replace h6 := h6.mono hle4
    replace hG := hG.mono hle4
    obtain ⟨ao9, cap9, rfl, h14, hc11⟩ := hR2
    refine wq rfl rfl rfl (ov_assign rfl rfl) ?_
    refine WL.nil (tn (WP.seq (WP.region ?_)))
    refine wq rfl rfl rfl (ov_assign rfl rfl) ?_
    refine WL.nil (tn (WP.block ?_))
    refine WP.loop (fun m2 g' S' => ∃ (H5 : Heap) (l3 : (List (List UInt8))) (ao10 : Option Addr) (cap10 : Nat) (i2 : Int), Le H4 H5 ∧ SL H5 encStr ao10 l3 ∧ l3.length ≤ cap10 ∧ Sub [(1, (pB b1 0)), (3, (.slice ao10 l3.length cap10)), (4, (.int .i64 i1)), (5, (.slice ao9 r2.length cap9)), (6, (.int .i64 i2)), (1000000007, (.bool false))] g' ∧ (∀ w', S' w' → St w H [.blk b1 28 [(.int .i64 p_x.kind), (.slice ao1 p_x.step.strokes.length cap1), (.int .i64 p_x.step.wait), (.int .i64 p_x.count), (mkS p_x.name), (.slice ao2 p_x.nodes.length cap2)]] H5 w') ∧ ref15_Asked_loop2 k3 r2 m2 l3 i2 = some r) ((Int.toNat ((r2.length : Int) - 0) + 1)) ⟨H4, l2, ao6, cap6, 0, (Le.refl _), h6, hc7, (Sub.all rfl), fun w' s => s, hm⟩ ?_ ?_
    ·
     rintro g' S' ⟨_, _, _, _, _, _, _, _, _, _, hm⟩
     exact none_some hm
    rintro m2 g' S' ⟨H5, l3, ao10, cap10, i2, hle5, h15, hc12, hsub3, hS3, hm⟩
    refine WP.sub hsub3 (WP.weaken hS3 ?_)
    rw [ref15_Asked_loop2] at hm
    replace h14 := h14.mono hle5
    replace hG := hG.mono hle5
    refine WP.seq (WP.seq (WP.region ?_))
    refine wq rfl rfl rfl (ov_move rfl rfl) ?_
    refine wq rfl rfl rfl (ov_move rfl rfl) ?_
    refine wq rfl rfl rfl (ov_len_slice underlying36 rfl rfl) ?_
    refine wq rfl rfl rfl (ov_lss rfl rfl rfl) ?_
    refine WL.nil (tn ?_)
    refine WP.cond rfl (fun hc13 => ?_) (fun hc13 => ?_)
    ·
     replace hm := ite_t hc13 hm
     refine WP.skip (tn (WP.seq (WP.block (WP.region ?_))))
     refine wq rfl rfl rfl (ov_move rfl rfl) ?_
     refine wq rfl rfl rfl (ov_move rfl rfl) ?_
     refine wq rfl rfl rfl (ov_move rfl rfl) ?_
     obtain ⟨x2, e4, hm⟩ := bind_some hm
     obtain ⟨h16, h17, h18, cs2, h19, h20⟩ := h14.get e4 (by decide)
     obtain rfl : cs2 = [(mkS x2)] := h19
     refine wq rfl rfl rfl (ov_indexAddr underlying36 sizeOf9 rfl rfl rfl h16 h17 h18) ?_
     refine wq rfl rfl rfl (ov_load_elem (v := (mkS x2)) isAgg9 rfl rfl h20) ?_
     obtain ⟨r3, e5, hm⟩ := bind_some hm
     refine ws rfl (os_con call108 rfl rfl (fun w' s => (ref15_Put_con l3 x2 ao10 cap10  w' H5 s.hold h15 hc12 hG r3 e5)) (fun rr3 H6 hle6 hR3 => ?_))
     replace h15 := h15.mono hle6
     obtain ⟨ao11, cap11, rfl, h21, hc14⟩ := hR3
     refine wq rfl rfl rfl (ov_assign rfl rfl) ?_
     refine WL.nil (bn (tn (WP.region ?_)))
     refine wq rfl rfl rfl (ov_move rfl rfl) ?_
     refine wq rfl rfl rfl (ov_add rfl rfl rfl) ?_
     refine wq rfl rfl rfl (ov_assign rfl rfl) ?_
     refine WL.nil (tn ?_)
     exact ⟨H6, r3, ao11, cap11, (IntKind.wrap .i64 (i2 + 1)), (hle5.trans hle6), h21, hc14, (Sub.all rfl), fun w' s => s, hm⟩
    replace hm := ite_f hc13 hm
    refine WP.exit (then_exit (then_exit (block_here (bn (tn ?_)))))
    exact ⟨H5, l3, ao10, cap10, (hle4.trans hle5), h15, hc12, (Sub.all rfl), fun w' s => s, hm⟩
   rintro g' S' ⟨H7, l4, ao12, cap12, hle7, h22, hc15, hsub4, hS4, hm⟩
   refine WP.sub hsub4 (WP.weaken hS4 ?_)
   replace hm := (congrFun hk3 l4).symm.trans hm
   refine WP.region ?_
   refine wq rfl rfl rfl (ov_move rfl rfl) ?_
   refine wq rfl rfl rfl (ov_add rfl rfl rfl) ?_
   refine wq rfl rfl rfl (ov_assign rfl rfl) ?_
   refine WL.nil (tn ?_)
   exact ⟨H7, l4, ao12, cap12, (IntKind.wrap .i64 (i1 + 1)), (hle3.trans hle7), h22, hc15, (Sub.all rfl), fun w' s => s, hm⟩
  replace hm := ite_f hc8 hm
  refine WP.exit (then_exit (then_exit (block_here (tn ?_))))
  exact ⟨H3, l2, ao6, cap6, hle3, h6, hc7, (Sub.all rfl), fun w' s => (s.select [] (by decide) rfl), hm⟩
 rintro g' S' ⟨H8, l5, ao13, cap13, hle8, h23, hc16, hsub5, hS5, hm⟩
 refine WP.sub hsub5 (WP.weaken hS5 ?_)
 replace hm := (congrFun hk2 l5).symm.trans hm
 refine WP.seq (WP.region ?_)
 refine wq rfl rfl rfl (ov_move rfl rfl) ?_
 refine wq rfl rfl rfl (ov_assign rfl rfl) ?_
 refine WL.nil (tn (WP.ret ?_))
 obtain rfl := Option.some.inj hm
 refine retQ_ret results67 (Res.tmp rfl Res.nil) rfl (fun w' s => ⟨s.below, ?_⟩)
 exact ⟨ao13, cap13, rfl, h23.mono s.le_newer, hc16⟩
theorem ref15_Asked_con (n : Nat) : ∀ (p_x : Node) (ao1 : Option Addr) (cap1 : Nat) (ao2 : Option Addr) (cap2 : Nat) (w : World) (H : Heap) (hH : Le H (hp w)) (h1 : SL H encStroke ao1 p_x.step.strokes) (hc1 : p_x.step.strokes.length ≤ cap1) (h2 : SL H encNode ao2 p_x.nodes) (hc2 : p_x.nodes.length ≤ cap2) (hG : Glob H) (r : (List (List UInt8))) (hm : ref15_Asked n p_x = some r),
  Con prog 67 [(.agg #[(.int .i64 p_x.kind), (.slice ao1 p_x.step.strokes.length cap1), (.int .i64 p_x.step.wait), (.int .i64 p_x.count), (mkS p_x.name), (.slice ao2 p_x.nodes.length cap2)])] w H (fun v H' => ∃ (ao3 : Option Addr) (cap3 : Nat), v = (.slice ao3 r.length cap3) ∧ SL H' encStr ao3 r ∧ r.length ≤ cap3) := by
 induction n with
 | zero => intro p_x ao1 cap1 ao2 cap2 w H hH h1 hc1 h2 hc2 hG r hm; exact (none_some hm).elim
 | succ n ih => intro p_x ao1 cap1 ao2 cap2 w H hH h1 hc1 h2 hc2 hG r hm; exact ref15_Asked_body_con (ref15_Asked n) ih p_x ao1 cap1 ao2 cap2 w H hH h1 hc1 h2 hc2 hG r hm
theorem ref15_Inputs_con (p_x : Node) (ao1 : Option Addr) (cap1 : Nat) (ao2 : Option Addr) (cap2 : Nat) (w : World) (H : Heap) (hH : Le H (hp w)) (h1 : SL H encStroke ao1 p_x.step.strokes) (hc1 : p_x.step.strokes.length ≤ cap1) (h2 : SL H encNode ao2 p_x.nodes) (hc2 : p_x.nodes.length ≤ cap2) (hG : Glob H) (r : ((List (List UInt8)) × Int)) (hm : ref15_Inputs p_x = some r) :
  Con prog 30 [(.agg #[(.int .i64 p_x.kind), (.slice ao1 p_x.step.strokes.length cap1), (.int .i64 p_x.step.wait), (.int .i64 p_x.count), (mkS p_x.name), (.slice ao2 p_x.nodes.length cap2)])] w H (fun v H' => ∃ (ao3 : Option Addr) (cap3 : Nat), v = (.tuple #[(.slice ao3 r.1.length cap3), (.int .i64 r.2)]) ∧ SL H' encStr ao3 r.1 ∧ r.1.length ≤ cap3) := by
 unfold ref15_Inputs at hm
 refine con_of hH func30 rfl 12 ntmps30 rfl ?_
 refine WP.seq (WP.region ?_)
 refine ws rfl (os_box (cs := [(.int .i64 p_x.kind), (.slice ao1 p_x.step.strokes.length cap1), (.int .i64 p_x.step.wait), (.int .i64 p_x.count), (mkS p_x.name), (.slice ao2 p_x.nodes.length cap2)]) rfl rfl rfl (fun b1 => ?_))
 refine wq rfl rfl rfl (ov_assign rfl rfl) ?_
 refine wq rfl rfl rfl (ov_assign rfl rfl) ?_
 refine WL.nil (tn (WP.seq (WP.seq (WP.region ?_))))
 refine wq rfl rfl rfl (ov_load_whole (i := 0) isAgg28 sizeOf28 rfl rfl rfl rfl) ?_
 obtain ⟨r1, e1, hm⟩ := bind_some hm
 refine wo rfl (oq_con (r := (.int .i64 r1)) call32 rfl rfl (fun w' s => ⟨_, (ref15_Check_con p_x ao1 cap1 ao2 cap2  w' H s.hold h1 hc1 h2 hc2 hG r1 e1)⟩)) ?_
 refine wq rfl rfl rfl (ov_assign rfl rfl) ?_
 refine WL.nil (tn (WP.seq (WP.region ?_)))
 refine wq rfl rfl rfl (ov_move rfl rfl) ?_
 refine wq rfl rfl rfl (ov_neq rfl rfl rfl) ?_
 refine WL.nil (tn ?_)
 refine WP.cond rfl (fun hc4 => ?_) (fun hc4 => ?_)
 ·
  replace hm := ite_t hc4 hm
  refine WP.seq (WP.region ?_)
  refine wq rfl rfl rfl (ov_move rfl rfl) ?_
  refine wq rfl rfl rfl (ov_assign rfl rfl) ?_
  refine wq rfl rfl rfl (ov_assign rfl rfl) ?_
  refine WL.nil (tn (WP.ret (then_ret ?_)))
  obtain rfl := Option.some.inj hm
  refine retQ_ret results30 (Res.tmp rfl (Res.tmp rfl Res.nil)) rfl (fun w' s => ⟨s.below, ?_⟩)
  exact ⟨none, 0, rfl, SL.nil _ _ _, Nat.le_refl _⟩
 replace hm := ite_f hc4 hm
 refine WP.skip (tn (WP.seq (WP.region ?_)))
 refine wq rfl rfl rfl (ov_load_whole (i := 0) isAgg28 sizeOf28 rfl rfl rfl rfl) ?_
 obtain ⟨r2, e2, hm⟩ := bind_some hm
 refine ws rfl (os_con call67 rfl rfl (fun w' s => (ref15_Asked_con 600 p_x ao1 cap1 ao2 cap2  w' H s.hold h1 hc1 h2 hc2 hG r2 e2)) (fun rr1 H1 hle1 hR1 => ?_))
 obtain ⟨ao4, cap4, rfl, h4, hc5⟩ := hR1
 refine wq rfl rfl rfl (ov_assign rfl rfl) ?_
 refine wq rfl rfl rfl (ov_assign rfl rfl) ?_
 refine WL.nil (tn (WP.ret ?_))
 obtain rfl := Option.some.inj hm
 refine retQ_ret results30 (Res.tmp rfl (Res.tmp rfl Res.nil)) rfl (fun w' s => ⟨s.below, ?_⟩)
 exact ⟨ao4, cap4, rfl, h4.mono s.le_newer, hc5⟩
theorem slices_Equal_api_Strokeapi_Stroke_con (p_s1 : (List Stroke)) (p_s2 : (List Stroke)) (ao1 : Option Addr) (cap1 : Nat) (ao2 : Option Addr) (cap2 : Nat) (w : World) (H : Heap) (hH : Le H (hp w)) (h1 : SL H encStroke ao1 p_s1) (hc1 : p_s1.length ≤ cap1) (h2 : SL H encStroke ao2 p_s2) (hc2 : p_s2.length ≤ cap2) (hG : Glob H) (r : Bool) (hm : slices_Equal_api_Strokeapi_Stroke p_s1 p_s2 = some r) :
  Con prog 145 [(.slice ao1 p_s1.length cap1), (.slice ao2 p_s2.length cap2)] w H (fun v _ => v = (.bool r)) := by
 unfold slices_Equal_api_Strokeapi_Stroke at hm
 refine con_of hH func145 rfl 26 ntmps145 rfl ?_
 refine WP.seq (WP.region ?_)
 refine wq rfl rfl rfl (ov_assign rfl rfl) ?_
 refine WL.nil (tn (WP.seq (WP.seq (WP.region ?_))))
 refine wq rfl rfl rfl (ov_move rfl rfl) ?_
 refine wq rfl rfl rfl (ov_len_slice underlying23 rfl rfl) ?_
 refine wq rfl rfl rfl (ov_move rfl rfl) ?_
 refine wq rfl rfl rfl (ov_len_slice underlying23 rfl rfl) ?_
 refine wq rfl rfl rfl (ov_neq rfl rfl rfl) ?_
 refine WL.nil (tn ?_)
 refine WP.cond rfl (fun hc3 => ?_) (fun hc3 => ?_)
 ·
  replace hm := ite_t hc3 hm
  refine WP.seq (WP.region ?_)
  refine wq rfl rfl rfl (ov_assign rfl rfl) ?_
  refine WL.nil (tn (WP.ret (then_ret ?_)))
  obtain rfl := Option.some.inj hm
  refine retQ_ret results145 (Res.tmp rfl Res.nil) rfl (fun w' s => ⟨s.below, ?_⟩)
  exact rfl
 replace hm := ite_f hc3 hm
 refine WP.skip (tn ?_)
 obtain ⟨k1, hk1, hm⟩ := joinK_some hm
 refine WP.seq_join (fun g' S' => Sub [(1000000007, (.bool false))] g' ∧ (∀ w', S' w' → St w H [] H w') ∧ k1 = some r) ?_ ?_
 ·
  refine WP.seq (WP.region ?_)
  refine wq rfl rfl rfl (ov_move rfl rfl) ?_
  refine wq rfl rfl rfl (ov_len_slice underlying23 rfl rfl) ?_
  refine wq rfl rfl rfl (ov_move rfl rfl) ?_
  refine WL.nil (tn (WP.block ?_))
  refine WP.loop (fun m1 g' S' => ∃ (i1 : Int), Sub [(0, (.slice ao1 p_s1.length cap1)), (1, (.slice ao2 p_s2.length cap2)), (12, (.int .i64 (p_s1.length : Int))), (13, (.int .i64 i1)), (1000000007, (.bool false))] g' ∧ (∀ w', S' w' → St w H [] H w') ∧ slices_Equal_api_Strokeapi_Stroke_loop1 p_s1 p_s2 k1 m1 i1 = some r) ((Int.toNat ((p_s1.length : Int) - 0) + 1)) ⟨0, (Sub.all rfl), fun w' s => s, hm⟩ ?_ ?_
  ·
   rintro g' S' ⟨_, _, _, hm⟩
   exact none_some hm
  rintro m1 g' S' ⟨i1, hsub1, hS1, hm⟩
  refine WP.sub hsub1 (WP.weaken hS1 ?_)
  rw [slices_Equal_api_Strokeapi_Stroke_loop1] at hm
  refine WP.seq (WP.region ?_)
  refine wq rfl rfl rfl (ov_lss rfl rfl rfl) ?_
  refine WL.nil (tn (WP.seq ?_))
  refine WP.cond rfl (fun hc4 => ?_) (fun hc4 => ?_)
  ·
   replace hm := ite_t hc4 hm
   refine WP.skip (tn (WP.seq (WP.block (WP.seq (WP.region ?_)))))
   refine wq rfl rfl rfl (ov_move rfl rfl) ?_
   refine wq rfl rfl rfl (ov_assign rfl rfl) ?_
   refine WL.nil (tn (WP.seq ?_))
   refine WP.region_draws (by kernel_rfl) (by kernel_rfl) (fun _ s => s.drew) ?_
   refine qf rfl (ov_move rfl rfl) ?_
   refine qf rfl (ov_move rfl rfl) ?_
   obtain ⟨x1, e1, hm⟩ := bind_some hm
   obtain ⟨h3, h4, h5, cs1, h6, h7⟩ := h1.get e1 (by decide)
   obtain rfl : cs1 = [(.int .i64 x1.actuator), (.bool x1.out)] := h6
   refine qf rfl (ov_indexAddr underlying23 sizeOf112 rfl rfl rfl h3 h4 h5) ?_
   refine qf rfl (ov_load_elems (vs := [(.int .i64 x1.actuator), (.bool x1.out)]) isAgg112 sizeOf112 rfl rfl rfl h7 h5) ?_
   refine qf rfl (ov_move rfl rfl) ?_
   refine qf rfl (ov_move rfl rfl) ?_
   obtain ⟨x2, e2, hm⟩ := bind_some hm
   obtain ⟨h8, h9, h10, cs2, h11, h12⟩ := h2.get e2 (by decide)
   obtain rfl : cs2 = [(.int .i64 x2.actuator), (.bool x2.out)] := h11
   refine qf rfl (ov_indexAddr underlying23 sizeOf112 rfl rfl rfl h8 h9 h10) ?_
   refine qf rfl (ov_load_elems (vs := [(.int .i64 x2.actuator), (.bool x2.out)]) isAgg112 sizeOf112 rfl rfl rfl h12 h10) ?_
   refine qf rfl (neq_struct112 (a := x1) (b := x2) rfl rfl rfl) ?_
   refine QL.nil ?_
   refine tn ?_
   refine WP.cond rfl (fun hc5 => ?_) (fun hc5 => ?_)
   ·
    replace hm := ite_t hc5 hm
    refine WP.seq (WP.region ?_)
    refine wq rfl rfl rfl (ov_assign rfl rfl) ?_
    refine WL.nil (tn (WP.ret (block_ret (then_ret (then_ret (block_ret (then_ret ?_)))))))
    obtain rfl := Option.some.inj hm
    refine retQ_ret results145 (Res.tmp rfl Res.nil) rfl (fun w' s => ⟨s.below, ?_⟩)
    exact rfl
   replace hm := ite_f hc5 hm
   refine WP.skip (bn (tn (WP.region ?_)))
   refine wq rfl rfl rfl (ov_add rfl rfl rfl) ?_
   refine wq rfl rfl rfl (ov_move rfl rfl) ?_
   refine WL.nil (tn ?_)
   exact ⟨(IntKind.wrap .i64 (i1 + 1)), (Sub.all rfl), fun w' s => s, hm⟩
  replace hm := ite_f hc4 hm
  refine WP.exit (then_exit (then_exit (block_here (tn ?_))))
  exact ⟨(Sub.all rfl), fun w' s => s, hm⟩
 rintro g' S' ⟨hsub2, hS2, hm⟩
 refine WP.sub hsub2 (WP.weaken hS2 ?_)
 replace hm := hk1.symm.trans hm
 refine WP.seq (WP.region ?_)
 refine wq rfl rfl rfl (ov_assign rfl rfl) ?_
 refine WL.nil (tn (WP.ret ?_))
 obtain rfl := Option.some.inj hm
 refine retQ_ret results145 (Res.tmp rfl Res.nil) rfl (fun w' s => ⟨s.below, ?_⟩)
 exact rfl
theorem stroke_Same_con (p_a : Step) (p_b : Step) (ao1 : Option Addr) (cap1 : Nat) (ao2 : Option Addr) (cap2 : Nat) (w : World) (H : Heap) (hH : Le H (hp w)) (h1 : SL H encStroke ao1 p_a.strokes) (hc1 : p_a.strokes.length ≤ cap1) (h2 : SL H encStroke ao2 p_b.strokes) (hc2 : p_b.strokes.length ≤ cap2) (hG : Glob H) (r : Bool) (hm : stroke_Same p_a p_b = some r) :
  Con prog 113 [(.agg #[(.slice ao1 p_a.strokes.length cap1), (.int .i64 p_a.wait)]), (.agg #[(.slice ao2 p_b.strokes.length cap2), (.int .i64 p_b.wait)])] w H (fun v _ => v = (.bool r)) := by
 unfold stroke_Same at hm
 refine con_of hH func113 rfl 17 ntmps113 rfl ?_
 refine WP.seq (WP.region ?_)
 refine ws rfl (os_box (cs := [(.slice ao1 p_a.strokes.length cap1), (.int .i64 p_a.wait)]) rfl rfl rfl (fun b1 => ?_))
 refine ws rfl (os_box (cs := [(.slice ao2 p_b.strokes.length cap2), (.int .i64 p_b.wait)]) rfl rfl rfl (fun b2 => ?_))
 refine wq rfl rfl rfl (ov_assign rfl rfl) ?_
 refine WL.nil (tn (WP.seq (WP.region ?_)))
 refine wq rfl rfl rfl (ov_fieldAddr underlying25 rfl rfl rfl sizeOf3 rfl rfl) ?_
 refine wq rfl rfl rfl (ov_load_box (i := 1) isAgg3 rfl rfl rfl rfl) ?_
 refine wq rfl rfl rfl (ov_fieldAddr underlying25 rfl rfl rfl sizeOf3 rfl rfl) ?_
 refine wq rfl rfl rfl (ov_load_box (i := 0) isAgg3 rfl rfl rfl rfl) ?_
 refine wq rfl rfl rfl (ov_eql rfl rfl rfl) ?_
 refine wq rfl rfl rfl (ov_move rfl rfl) ?_
 obtain ⟨c1, e1, hm⟩ := bind_some hm
 refine WL.cut_bool 6 16 (x := c1) ?_ ?_
 ·
  rcases Bool.eq_false_or_eq_true (p_a.wait == p_b.wait) with hc3 | hc3
  ·
   replace hm := ite_t hc3 e1
   refine wy hc3 rfl (ov_fieldAddr underlying25 rfl rfl rfl sizeOf23 rfl rfl) ?_
   refine wy hc3 rfl (ov_load_box (i := 1) isAgg23 rfl rfl rfl rfl) ?_
   refine wy hc3 rfl (ov_fieldAddr underlying25 rfl rfl rfl sizeOf23 rfl rfl) ?_
   refine wy hc3 rfl (ov_load_box (i := 0) isAgg23 rfl rfl rfl rfl) ?_
   obtain ⟨r1, e2, hm⟩ := bind_some hm
   refine WL.quiet (Runs.yes rfl rfl rfl hc3) rfl rfl (oq_con (r := (.bool r1)) call145 rfl rfl (fun w' s => ⟨_, (slices_Equal_api_Strokeapi_Stroke_con p_a.strokes p_b.strokes ao1 cap1 ao2 cap2  w' H s.hold h1 hc1 h2 hc2 hG r1 e2)⟩)) ?_
   refine wq rfl rfl rfl (ov_pick_true rfl (guard_eq rfl hc3) rfl) ?_
   exact WL.nil ⟨Sub.cons' rfl (congrArg Value.bool (Option.some.inj hm)) (Sub.dropn 6 rfl), fun _ s => s⟩
  replace hm := ite_f hc3 e1
  refine WL.idle (Idle.no rfl rfl rfl hc3) rfl rfl ?_
  refine WL.idle (Idle.no rfl rfl rfl hc3) rfl rfl ?_
  refine WL.idle (Idle.no rfl rfl rfl hc3) rfl rfl ?_
  refine WL.idle (Idle.no rfl rfl rfl hc3) rfl rfl ?_
  refine WL.idle (Idle.no rfl rfl rfl hc3) rfl rfl ?_
  refine wq rfl rfl rfl (ov_pick_false rfl (guard_eq rfl hc3) rfl) ?_
  exact WL.nil ⟨Sub.cons' rfl (congrArg Value.bool (Option.some.inj hm)) (Sub.dropn 6 rfl), fun _ s => s⟩
 refine wq rfl rfl rfl (ov_assign rfl rfl) ?_
 refine WL.nil (tn (WP.ret ?_))
 obtain rfl := Option.some.inj hm
 refine retQ_ret results113 (Res.tmp rfl Res.nil) rfl (fun w' s => ⟨s.below, ?_⟩)
 exact rfl
theorem slices_EqualFunc_api_Node_api_Nodeapi_Nodeapi_Node_program_equal_con (self : Node → Node → Option Bool) (hself : ∀ (p_a : Node) (p_b : Node) (ao1 : Option Addr) (cap1 : Nat) (ao2 : Option Addr) (cap2 : Nat) (ao3 : Option Addr) (cap3 : Nat) (ao4 : Option Addr) (cap4 : Nat) (w : World) (H : Heap) (hH : Le H (hp w)) (h1 : SL H encStroke ao1 p_a.step.strokes) (hc1 : p_a.step.strokes.length ≤ cap1) (h2 : SL H encNode ao2 p_a.nodes) (hc2 : p_a.nodes.length ≤ cap2) (h3 : SL H encStroke ao3 p_b.step.strokes) (hc3 : p_b.step.strokes.length ≤ cap3) (h4 : SL H encNode ao4 p_b.nodes) (hc4 : p_b.nodes.length ≤ cap4) (hG : Glob H) (r : Bool) (hm : self p_a p_b = some r), Con prog 72 [(.agg #[(.int .i64 p_a.kind), (.slice ao1 p_a.step.strokes.length cap1), (.int .i64 p_a.step.wait), (.int .i64 p_a.count), (mkS p_a.name), (.slice ao2 p_a.nodes.length cap2)]), (.agg #[(.int .i64 p_b.kind), (.slice ao3 p_b.step.strokes.length cap3), (.int .i64 p_b.step.wait), (.int .i64 p_b.count), (mkS p_b.name), (.slice ao4 p_b.nodes.length cap4)])] w H (fun v _ => v = (.bool r))) (p_s1 : (List Node)) (p_s2 : (List Node)) (ao1 : Option Addr) (cap1 : Nat) (ao2 : Option Addr) (cap2 : Nat) (w : World) (H : Heap) (hH : Le H (hp w)) (h1 : SL H encNode ao1 p_s1) (hc1 : p_s1.length ≤ cap1) (h2 : SL H encNode ao2 p_s2) (hc2 : p_s2.length ≤ cap2) (hG : Glob H) (r : Bool) (hm : slices_EqualFunc_api_Node_api_Nodeapi_Nodeapi_Node_program_equal self p_s1 p_s2 = some r) :
  Con prog 114 [(.slice ao1 p_s1.length cap1), (.slice ao2 p_s2.length cap2), (.func (.func 72) #[] #[])] w H (fun v _ => v = (.bool r)) := by
 unfold slices_EqualFunc_api_Node_api_Nodeapi_Nodeapi_Node_program_equal at hm
 refine con_of hH func114 rfl 32 ntmps114 rfl ?_
 refine WP.seq (WP.region ?_)
 refine wq rfl rfl rfl (ov_assign rfl rfl) ?_
 refine WL.nil (tn (WP.seq (WP.seq (WP.region ?_))))
 refine wq rfl rfl rfl (ov_move rfl rfl) ?_
 refine wq rfl rfl rfl (ov_len_slice underlying26 rfl rfl) ?_
 refine wq rfl rfl rfl (ov_move rfl rfl) ?_
 refine wq rfl rfl rfl (ov_len_slice underlying26 rfl rfl) ?_
 refine wq rfl rfl rfl (ov_neq rfl rfl rfl) ?_
 refine WL.nil (tn ?_)
 refine WP.cond rfl (fun hc3 => ?_) (fun hc3 => ?_)
 ·
  replace hm := ite_t hc3 hm
  refine WP.seq (WP.region ?_)
  refine wq rfl rfl rfl (ov_assign rfl rfl) ?_
  refine WL.nil (tn (WP.ret (then_ret ?_)))
  obtain rfl := Option.some.inj hm
  refine retQ_ret results114 (Res.tmp rfl Res.nil) rfl (fun w' s => ⟨s.below, ?_⟩)
  exact rfl
 replace hm := ite_f hc3 hm
 refine WP.skip (tn ?_)
 obtain ⟨k1, hk1, hm⟩ := joinK_some hm
 refine WP.seq_join (fun g' S' => Sub [(1000000007, (.bool false))] g' ∧ (∀ w', S' w' → St w H [] H w') ∧ k1 = some r) ?_ ?_
 ·
  refine WP.seq (WP.region ?_)
  refine wq rfl rfl rfl (ov_move rfl rfl) ?_
  refine wq rfl rfl rfl (ov_len_slice underlying26 rfl rfl) ?_
  refine wq rfl rfl rfl (ov_move rfl rfl) ?_
  refine WL.nil (tn (WP.block ?_))
  refine WP.loop (fun m1 g' S' => ∃ (i1 : Int), Sub [(1, (.slice ao2 p_s2.length cap2)), (2, (.func (.func 72) #[] #[])), (15, (.slice ao1 p_s1.length cap1)), (16, (.int .i64 (p_s1.length : Int))), (17, (.int .i64 i1)), (1000000007, (.bool false))] g' ∧ (∀ w', S' w' → St w H [] H w') ∧ slices_EqualFunc_api_Node_api_Nodeapi_Nodeapi_Node_program_equal_loop1 p_s1 p_s2 self k1 m1 i1 = some r) ((Int.toNat ((p_s1.length : Int) - 0) + 1)) ⟨0, (Sub.all rfl), fun w' s => s, hm⟩ ?_ ?_
  ·
   rintro g' S' ⟨_, _, _, hm⟩
   exact none_some hm
  rintro m1 g' S' ⟨i1, hsub1, hS1, hm⟩
  refine WP.sub hsub1 (WP.weaken hS1 ?_)
  rw [slices_EqualFunc_api_Node_api_Nodeapi_Nodeapi_Node_program_equal_loop1] at hm
  refine WP.seq (WP.region ?_)
  refine wq rfl rfl rfl (ov_lss rfl rfl rfl) ?_
  refine WL.nil (tn (WP.seq ?_))
  refine WP.cond rfl (fun hc4 => ?_) (fun hc4 => ?_)
  ·
   replace hm := ite_t hc4 hm
   refine WP.skip (tn (WP.seq (WP.block (WP.seq (WP.region ?_)))))
   refine wq rfl rfl rfl (ov_move rfl rfl) ?_
   obtain ⟨x1, e1, hm⟩ := bind_some hm
   obtain ⟨h5, h6, h7, cs1, h8, h9⟩ := h1.get e1 (by decide)
   obtain ⟨ao3, cap3, ao4, cap4, rfl, h3, hc5, h4, hc6⟩ := (encNode_open h8)
   refine wq rfl rfl rfl (ov_indexAddr underlying26 sizeOf28 rfl rfl rfl h5 h6 h7) ?_
   refine wq rfl rfl rfl (ov_load_elems (vs := [(.int .i64 x1.kind), (.slice ao3 x1.step.strokes.length cap3), (.int .i64 x1.step.wait), (.int .i64 x1.count), (mkS x1.name), (.slice ao4 x1.nodes.length cap4)]) isAgg28 sizeOf28 rfl rfl rfl h9 h7) ?_
   refine ws rfl (os_alloc (cs := [(.int .i64 0), (.slice none 0 0), (.int .i64 0), (.int .i64 0), (mkS []), (.slice none 0 0)]) zeroValue28 rfl rfl (fun b1 => ?_))
   refine wq rfl rfl rfl (ov_assign rfl rfl) ?_
   refine ws0 rfl (os_store (i := 0) (vs := [(.int .i64 x1.kind), (.slice ao3 x1.step.strokes.length cap3), (.int .i64 x1.step.wait), (.int .i64 x1.count), (mkS x1.name), (.slice ao4 x1.nodes.length cap4)]) (cs' := [(.int .i64 x1.kind), (.slice ao3 x1.step.strokes.length cap3), (.int .i64 x1.step.wait), (.int .i64 x1.count), (mkS x1.name), (.slice ao4 x1.nodes.length cap4)]) sizeOf28 rfl rfl rfl rfl rfl rfl rfl rfl rfl ?_)
   refine WL.nil (tn (WP.seq (WP.region ?_)))
   refine wq rfl rfl rfl (ov_move rfl rfl) ?_
   refine wq rfl rfl rfl (ov_move rfl rfl) ?_
   obtain ⟨x2, e2, hm⟩ := bind_some hm
   obtain ⟨h12, h13, h14, cs2, h15, h16⟩ := h2.get e2 (by decide)
   obtain ⟨ao5, cap5, ao6, cap6, rfl, h10, hc7, h11, hc8⟩ := (encNode_open h15)
   refine wq rfl rfl rfl (ov_indexAddr underlying26 sizeOf28 rfl rfl rfl h12 h13 h14) ?_
   refine wq rfl rfl rfl (ov_load_elems (vs := [(.int .i64 x2.kind), (.slice ao5 x2.step.strokes.length cap5), (.int .i64 x2.step.wait), (.int .i64 x2.count), (mkS x2.name), (.slice ao6 x2.nodes.length cap6)]) isAgg28 sizeOf28 rfl rfl rfl h16 h14) ?_
   refine ws rfl (os_alloc (cs := [(.int .i64 0), (.slice none 0 0), (.int .i64 0), (.int .i64 0), (mkS []), (.slice none 0 0)]) zeroValue28 rfl rfl (fun b2 => ?_))
   refine ws0 rfl (os_store (i := 0) (vs := [(.int .i64 x2.kind), (.slice ao5 x2.step.strokes.length cap5), (.int .i64 x2.step.wait), (.int .i64 x2.count), (mkS x2.name), (.slice ao6 x2.nodes.length cap6)]) (cs' := [(.int .i64 x2.kind), (.slice ao5 x2.step.strokes.length cap5), (.int .i64 x2.step.wait), (.int .i64 x2.count), (mkS x2.name), (.slice ao6 x2.nodes.length cap6)]) sizeOf28 rfl rfl rfl rfl rfl rfl rfl rfl rfl ?_)
   refine WL.nil (tn (WP.seq (WP.region ?_)))
   refine wq rfl rfl rfl (ov_move rfl rfl) ?_
   refine wq rfl rfl rfl (ov_load_whole (i := 1) isAgg28 sizeOf28 rfl rfl rfl rfl) ?_
   refine wq rfl rfl rfl (ov_load_whole (i := 0) isAgg28 sizeOf28 rfl rfl rfl rfl) ?_
   obtain ⟨r1, e3, hm⟩ := bind_some hm
   refine wo rfl (oq_conv (r := (.bool r1)) call72 rfl (cap := []) rfl rfl (fun w' s => ⟨_, (hself x1 x2 ao3 cap3 ao4 cap4 ao5 cap5 ao6 cap6  w' H s.hold h3 hc5 h4 hc6 h10 hc7 h11 hc8 hG r1 e3)⟩)) ?_
   refine wq rfl rfl rfl (ov_not rfl rfl) ?_
   refine WL.nil (tn ?_)
   refine WP.cond rfl (fun hc9 => ?_) (fun hc9 => ?_)
   ·
    replace hm := ite_t hc9 hm
    refine WP.seq (WP.region ?_)
    refine wq rfl rfl rfl (ov_assign rfl rfl) ?_
    refine WL.nil (tn (WP.ret (block_ret (then_ret (then_ret (block_ret (then_ret ?_)))))))
    obtain rfl := Option.some.inj hm
    refine retQ_ret results114 (Res.tmp rfl Res.nil) rfl (fun w' s => ⟨s.below, ?_⟩)
    exact rfl
   replace hm := ite_f hc9 hm
   refine WP.skip (bn (tn (WP.region ?_)))
   refine wq rfl rfl rfl (ov_add rfl rfl rfl) ?_
   refine wq rfl rfl rfl (ov_move rfl rfl) ?_
   refine WL.nil (tn ?_)
   exact ⟨(IntKind.wrap .i64 (i1 + 1)), (Sub.all rfl), fun w' s => (s.select [] (by decide) rfl), hm⟩
  replace hm := ite_f hc4 hm
  refine WP.exit (then_exit (then_exit (block_here (tn ?_))))
  exact ⟨(Sub.all rfl), fun w' s => s, hm⟩
 rintro g' S' ⟨hsub2, hS2, hm⟩
 refine WP.sub hsub2 (WP.weaken hS2 ?_)
 replace hm := hk1.symm.trans hm
 refine WP.seq (WP.region ?_)
 refine wq rfl rfl rfl (ov_assign rfl rfl) ?_
 refine WL.nil (tn (WP.ret ?_))
 obtain rfl := Option.some.inj hm
 refine retQ_ret results114 (Res.tmp rfl Res.nil) rfl (fun w' s => ⟨s.below, ?_⟩)
 exact rfl
theorem program_equal_body_con (self : Node → Node → Option Bool) (hself : ∀ (p_a : Node) (p_b : Node) (ao1 : Option Addr) (cap1 : Nat) (ao2 : Option Addr) (cap2 : Nat) (ao3 : Option Addr) (cap3 : Nat) (ao4 : Option Addr) (cap4 : Nat) (w : World) (H : Heap) (hH : Le H (hp w)) (h1 : SL H encStroke ao1 p_a.step.strokes) (hc1 : p_a.step.strokes.length ≤ cap1) (h2 : SL H encNode ao2 p_a.nodes) (hc2 : p_a.nodes.length ≤ cap2) (h3 : SL H encStroke ao3 p_b.step.strokes) (hc3 : p_b.step.strokes.length ≤ cap3) (h4 : SL H encNode ao4 p_b.nodes) (hc4 : p_b.nodes.length ≤ cap4) (hG : Glob H) (r : Bool) (hm : self p_a p_b = some r), Con prog 72 [(.agg #[(.int .i64 p_a.kind), (.slice ao1 p_a.step.strokes.length cap1), (.int .i64 p_a.step.wait), (.int .i64 p_a.count), (mkS p_a.name), (.slice ao2 p_a.nodes.length cap2)]), (.agg #[(.int .i64 p_b.kind), (.slice ao3 p_b.step.strokes.length cap3), (.int .i64 p_b.step.wait), (.int .i64 p_b.count), (mkS p_b.name), (.slice ao4 p_b.nodes.length cap4)])] w H (fun v _ => v = (.bool r))) (p_a : Node) (p_b : Node) (ao1 : Option Addr) (cap1 : Nat) (ao2 : Option Addr) (cap2 : Nat) (ao3 : Option Addr) (cap3 : Nat) (ao4 : Option Addr) (cap4 : Nat) (w : World) (H : Heap) (hH : Le H (hp w)) (h1 : SL H encStroke ao1 p_a.step.strokes) (hc1 : p_a.step.strokes.length ≤ cap1) (h2 : SL H encNode ao2 p_a.nodes) (hc2 : p_a.nodes.length ≤ cap2) (h3 : SL H encStroke ao3 p_b.step.strokes) (hc3 : p_b.step.strokes.length ≤ cap3) (h4 : SL H encNode ao4 p_b.nodes) (hc4 : p_b.nodes.length ≤ cap4) (hG : Glob H) (r : Bool) (hm : program_equal_body self p_a p_b = some r) :
  Con prog 72 [(.agg #[(.int .i64 p_a.kind), (.slice ao1 p_a.step.strokes.length cap1), (.int .i64 p_a.step.wait), (.int .i64 p_a.count), (mkS p_a.name), (.slice ao2 p_a.nodes.length cap2)]), (.agg #[(.int .i64 p_b.kind), (.slice ao3 p_b.step.strokes.length cap3), (.int .i64 p_b.step.wait), (.int .i64 p_b.count), (mkS p_b.name), (.slice ao4 p_b.nodes.length cap4)])] w H (fun v _ => v = (.bool r)) := by
 unfold program_equal_body at hm
 refine con_of hH func72 rfl 38 ntmps72 rfl ?_
 refine WP.seq (WP.region ?_)
 refine ws rfl (os_box (cs := [(.int .i64 p_a.kind), (.slice ao1 p_a.step.strokes.length cap1), (.int .i64 p_a.step.wait), (.int .i64 p_a.count), (mkS p_a.name), (.slice ao2 p_a.nodes.length cap2)]) rfl rfl rfl (fun b1 => ?_))
 refine ws rfl (os_box (cs := [(.int .i64 p_b.kind), (.slice ao3 p_b.step.strokes.length cap3), (.int .i64 p_b.step.wait), (.int .i64 p_b.count), (mkS p_b.name), (.slice ao4 p_b.nodes.length cap4)]) rfl rfl rfl (fun b2 => ?_))
 refine wq rfl rfl rfl (ov_assign rfl rfl) ?_
 refine WL.nil (tn (WP.seq (WP.region ?_)))
 refine wq rfl rfl rfl (ov_fieldAddr underlying28 rfl rfl rfl sizeOf3 rfl rfl) ?_
 refine wq rfl rfl rfl (ov_load_box (i := 1) isAgg3 rfl rfl rfl rfl) ?_
 refine wq rfl rfl rfl (ov_fieldAddr underlying28 rfl rfl rfl sizeOf3 rfl rfl) ?_
 refine wq rfl rfl rfl (ov_load_box (i := 0) isAgg3 rfl rfl rfl rfl) ?_
 refine wq rfl rfl rfl (ov_eql rfl rfl rfl) ?_
 refine wq rfl rfl rfl (ov_move rfl rfl) ?_
 obtain ⟨c1, e1, hm⟩ := bind_some hm
 refine WL.cut_bool 6 16 (x := c1) ?_ ?_
 ·
  rcases Bool.eq_false_or_eq_true (p_a.kind == p_b.kind) with hc5 | hc5
  ·
   replace hm := ite_t hc5 e1
   refine wy hc5 rfl (ov_fieldAddr underlying28 rfl rfl rfl sizeOf25 rfl rfl) ?_
   refine wy hc5 rfl (ov_load_boxes (i := 1) (vs := [(.slice ao1 p_a.step.strokes.length cap1), (.int .i64 p_a.step.wait)]) isAgg25 sizeOf25 rfl rfl rfl rfl (part_of rfl)) ?_
   refine wy hc5 rfl (ov_fieldAddr underlying28 rfl rfl rfl sizeOf25 rfl rfl) ?_
   refine wy hc5 rfl (ov_load_boxes (i := 0) (vs := [(.slice ao3 p_b.step.strokes.length cap3), (.int .i64 p_b.step.wait)]) isAgg25 sizeOf25 rfl rfl rfl rfl (part_of rfl)) ?_
   obtain ⟨r1, e2, hm⟩ := bind_some hm
   refine WL.quiet (Runs.yes rfl rfl rfl hc5) rfl rfl (oq_con (r := (.bool r1)) call113 rfl rfl (fun w' s => ⟨_, (stroke_Same_con p_a.step p_b.step ao1 cap1 ao3 cap3  w' H s.hold h1 hc1 h3 hc3 hG r1 e2)⟩)) ?_
   refine wq rfl rfl rfl (ov_pick_true rfl (guard_eq rfl hc5) rfl) ?_
   exact WL.nil ⟨Sub.cons' rfl (congrArg Value.bool (Option.some.inj hm)) (Sub.dropn 6 rfl), fun _ s => s⟩
  replace hm := ite_f hc5 e1
  refine WL.idle (Idle.no rfl rfl rfl hc5) rfl rfl ?_
  refine WL.idle (Idle.no rfl rfl rfl hc5) rfl rfl ?_
  refine WL.idle (Idle.no rfl rfl rfl hc5) rfl rfl ?_
  refine WL.idle (Idle.no rfl rfl rfl hc5) rfl rfl ?_
  refine WL.idle (Idle.no rfl rfl rfl hc5) rfl rfl ?_
  refine wq rfl rfl rfl (ov_pick_false rfl (guard_eq rfl hc5) rfl) ?_
  exact WL.nil ⟨Sub.cons' rfl (congrArg Value.bool (Option.some.inj hm)) (Sub.dropn 6 rfl), fun _ s => s⟩
 refine wq rfl rfl rfl (ov_move rfl rfl) ?_
 refine WL.cut_bool 6 23 (x := (c1 && (p_a.count == p_b.count))) ?_ ?_
 ·
  rcases Bool.eq_false_or_eq_true c1 with hc6 | hc6
  ·
   refine wy hc6 rfl (ov_fieldAddr underlying28 rfl rfl rfl sizeOf3 rfl rfl) ?_
   refine wy hc6 rfl (ov_load_box (i := 1) isAgg3 rfl rfl rfl rfl) ?_
   refine wy hc6 rfl (ov_fieldAddr underlying28 rfl rfl rfl sizeOf3 rfl rfl) ?_
   refine wy hc6 rfl (ov_load_box (i := 0) isAgg3 rfl rfl rfl rfl) ?_
   refine wy hc6 rfl (ov_eql rfl rfl rfl) ?_
   refine wq rfl rfl rfl (ov_pick_true rfl (guard_eq rfl hc6) rfl) ?_
   exact WL.nil ⟨Sub.cons' rfl (congrArg Value.bool (andT hc6)) (Sub.dropn 6 rfl), fun _ s => s⟩
  refine WL.idle (Idle.no rfl rfl rfl hc6) rfl rfl ?_
  refine WL.idle (Idle.no rfl rfl rfl hc6) rfl rfl ?_
  refine WL.idle (Idle.no rfl rfl rfl hc6) rfl rfl ?_
  refine WL.idle (Idle.no rfl rfl rfl hc6) rfl rfl ?_
  refine WL.idle (Idle.no rfl rfl rfl hc6) rfl rfl ?_
  refine wq rfl rfl rfl (ov_pick_false rfl (guard_eq rfl hc6) rfl) ?_
  exact WL.nil ⟨Sub.cons' rfl (congrArg Value.bool (andF hc6)) (Sub.dropn 6 rfl), fun _ s => s⟩
 refine wq rfl rfl rfl (ov_move rfl rfl) ?_
 refine WL.cut_bool 6 30 (x := ((c1 && (p_a.count == p_b.count)) && (p_a.name == p_b.name))) ?_ ?_
 ·
  rcases Bool.eq_false_or_eq_true (c1 && (p_a.count == p_b.count)) with hc7 | hc7
  ·
   refine wy hc7 rfl (ov_fieldAddr underlying28 rfl rfl rfl sizeOf9 rfl rfl) ?_
   refine wy hc7 rfl (ov_load_box (i := 1) isAgg9 rfl rfl rfl rfl) ?_
   refine wy hc7 rfl (ov_fieldAddr underlying28 rfl rfl rfl sizeOf9 rfl rfl) ?_
   refine wy hc7 rfl (ov_load_box (i := 0) isAgg9 rfl rfl rfl rfl) ?_
   refine wy hc7 rfl (ov_seql rfl rfl rfl) ?_
   refine wq rfl rfl rfl (ov_pick_true rfl (guard_eq rfl hc7) rfl) ?_
   exact WL.nil ⟨Sub.cons' rfl (congrArg Value.bool (andT hc7)) (Sub.dropn 6 rfl), fun _ s => s⟩
  refine WL.idle (Idle.no rfl rfl rfl hc7) rfl rfl ?_
  refine WL.idle (Idle.no rfl rfl rfl hc7) rfl rfl ?_
  refine WL.idle (Idle.no rfl rfl rfl hc7) rfl rfl ?_
  refine WL.idle (Idle.no rfl rfl rfl hc7) rfl rfl ?_
  refine WL.idle (Idle.no rfl rfl rfl hc7) rfl rfl ?_
  refine wq rfl rfl rfl (ov_pick_false rfl (guard_eq rfl hc7) rfl) ?_
  exact WL.nil ⟨Sub.cons' rfl (congrArg Value.bool (andF hc7)) (Sub.dropn 6 rfl), fun _ s => s⟩
 refine wq rfl rfl rfl (ov_move rfl rfl) ?_
 obtain ⟨c2, e3, hm⟩ := bind_some hm
 refine WL.cut_bool 6 37 (x := c2) ?_ ?_
 ·
  rcases Bool.eq_false_or_eq_true ((c1 && (p_a.count == p_b.count)) && (p_a.name == p_b.name)) with hc8 | hc8
  ·
   replace hm := ite_t hc8 e3
   refine wy hc8 rfl (ov_fieldAddr underlying28 rfl rfl rfl sizeOf26 rfl rfl) ?_
   refine wy hc8 rfl (ov_load_box (i := 1) isAgg26 rfl rfl rfl rfl) ?_
   refine wy hc8 rfl (ov_fieldAddr underlying28 rfl rfl rfl sizeOf26 rfl rfl) ?_
   refine wy hc8 rfl (ov_load_box (i := 0) isAgg26 rfl rfl rfl rfl) ?_
   obtain ⟨r2, e4, hm⟩ := bind_some hm
   refine WL.quiet (Runs.yes rfl rfl rfl hc8) rfl rfl (oq_con (r := (.bool r2)) call114 rfl rfl (fun w' s => ⟨_, (slices_EqualFunc_api_Node_api_Nodeapi_Nodeapi_Node_program_equal_con self hself p_a.nodes p_b.nodes ao2 cap2 ao4 cap4  w' H s.hold h2 hc2 h4 hc4 hG r2 e4)⟩)) ?_
   refine wq rfl rfl rfl (ov_pick_true rfl (guard_eq rfl hc8) rfl) ?_
   exact WL.nil ⟨Sub.cons' rfl (congrArg Value.bool (Option.some.inj hm)) (Sub.dropn 6 rfl), fun _ s => s⟩
  replace hm := ite_f hc8 e3
  refine WL.idle (Idle.no rfl rfl rfl hc8) rfl rfl ?_
  refine WL.idle (Idle.no rfl rfl rfl hc8) rfl rfl ?_
  refine WL.idle (Idle.no rfl rfl rfl hc8) rfl rfl ?_
  refine WL.idle (Idle.no rfl rfl rfl hc8) rfl rfl ?_
  refine WL.idle (Idle.no rfl rfl rfl hc8) rfl rfl ?_
  refine wq rfl rfl rfl (ov_pick_false rfl (guard_eq rfl hc8) rfl) ?_
  exact WL.nil ⟨Sub.cons' rfl (congrArg Value.bool (Option.some.inj hm)) (Sub.dropn 6 rfl), fun _ s => s⟩
 refine wq rfl rfl rfl (ov_assign rfl rfl) ?_
 refine WL.nil (tn (WP.ret ?_))
 obtain rfl := Option.some.inj hm
 refine retQ_ret results72 (Res.tmp rfl Res.nil) rfl (fun w' s => ⟨s.below, ?_⟩)
 exact rfl
theorem program_equal_con (n : Nat) : ∀ (p_a : Node) (p_b : Node) (ao1 : Option Addr) (cap1 : Nat) (ao2 : Option Addr) (cap2 : Nat) (ao3 : Option Addr) (cap3 : Nat) (ao4 : Option Addr) (cap4 : Nat) (w : World) (H : Heap) (hH : Le H (hp w)) (h1 : SL H encStroke ao1 p_a.step.strokes) (hc1 : p_a.step.strokes.length ≤ cap1) (h2 : SL H encNode ao2 p_a.nodes) (hc2 : p_a.nodes.length ≤ cap2) (h3 : SL H encStroke ao3 p_b.step.strokes) (hc3 : p_b.step.strokes.length ≤ cap3) (h4 : SL H encNode ao4 p_b.nodes) (hc4 : p_b.nodes.length ≤ cap4) (hG : Glob H) (r : Bool) (hm : program_equal n p_a p_b = some r),
  Con prog 72 [(.agg #[(.int .i64 p_a.kind), (.slice ao1 p_a.step.strokes.length cap1), (.int .i64 p_a.step.wait), (.int .i64 p_a.count), (mkS p_a.name), (.slice ao2 p_a.nodes.length cap2)]), (.agg #[(.int .i64 p_b.kind), (.slice ao3 p_b.step.strokes.length cap3), (.int .i64 p_b.step.wait), (.int .i64 p_b.count), (mkS p_b.name), (.slice ao4 p_b.nodes.length cap4)])] w H (fun v _ => v = (.bool r)) := by
 induction n with
 | zero => intro p_a p_b ao1 cap1 ao2 cap2 ao3 cap3 ao4 cap4 w H hH h1 hc1 h2 hc2 h3 hc3 h4 hc4 hG r hm; exact (none_some hm).elim
 | succ n ih => intro p_a p_b ao1 cap1 ao2 cap2 ao3 cap3 ao4 cap4 w H hH h1 hc1 h2 hc2 h3 hc3 h4 hc4 hG r hm; exact program_equal_body_con (program_equal n) ih p_a p_b ao1 cap1 ao2 cap2 ao3 cap3 ao4 cap4 w H hH h1 hc1 h2 hc2 h3 hc3 h4 hc4 hG r hm
end Go.Proofs.YtgpfgnpdbmbknaaGreatDoor.W
