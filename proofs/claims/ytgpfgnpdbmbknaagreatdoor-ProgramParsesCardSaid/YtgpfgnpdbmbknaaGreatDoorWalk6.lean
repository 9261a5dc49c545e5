/- The walks. Written by our own program gen.py; Lean checks it. -/
import Derived.Test.YtgpfgnpdbmbknaaGreatDoorPlain
import Derived.Test.YtgpfgnpdbmbknaaGreatDoorEqs
import Derived.Test.YtgpfgnpdbmbknaaGreatDoorProg
import Derived.Test.YtgpfgnpdbmbknaaGreatDoorExt
import Derived.Test.YtgpfgnpdbmbknaaGreatDoorClone
import Derived.Test.YtgpfgnpdbmbknaaGreatDoorSort
import Derived.Test.YtgpfgnpdbmbknaaGreatDoorWalk5
set_option linter.unusedVariables false
set_option maxRecDepth 100000
set_option maxHeartbeats 4000000
namespace Go.Proofs.YtgpfgnpdbmbknaaGreatDoor.W
open Go Go.RowKit Go.Proofs.Tryz
theorem ref15_node_con (p_x : Node) (ao1 : Option Addr) (cap1 : Nat) (ao2 : Option Addr) (cap2 : Nat) (w : World) (H : Heap) (hH : Le H (hp w)) (h1 : SL H encStroke ao1 p_x.step.strokes) (hc1 : p_x.step.strokes.length ≤ cap1) (h2 : SL H encNode ao2 p_x.nodes) (hc2 : p_x.nodes.length ≤ cap2) (hG : Glob H) (r : Int) (hm : ref15_node p_x = some r) :
  Con prog 112 [(.agg #[(.int .i64 p_x.kind), (.slice ao1 p_x.step.strokes.length cap1), (.int .i64 p_x.step.wait), (.int .i64 p_x.count), (mkS p_x.name), (.slice ao2 p_x.nodes.length cap2)])] w H (fun v _ => v = (.int .i64 r)) := by
 unfold ref15_node at hm
 refine con_of hH func112 rfl 36 ntmps112 rfl ?_
 refine WP.seq (WP.region ?_)
 refine ws rfl (os_box (cs := [(.int .i64 p_x.kind), (.slice ao1 p_x.step.strokes.length cap1), (.int .i64 p_x.step.wait), (.int .i64 p_x.count), (mkS p_x.name), (.slice ao2 p_x.nodes.length cap2)]) rfl rfl rfl (fun b1 => ?_))
 refine wq rfl rfl rfl (ov_assign rfl rfl) ?_
 refine WL.nil (tn (WP.seq (WP.seq (WP.region ?_))))
 refine wq rfl rfl rfl (ov_fieldAddr underlying28 rfl rfl rfl sizeOf3 rfl rfl) ?_
 refine wq rfl rfl rfl (ov_load_box (i := 0) isAgg3 rfl rfl rfl rfl) ?_
 refine wq rfl rfl rfl (ov_lss rfl rfl rfl) ?_
 refine wq rfl rfl rfl (ov_move rfl rfl) ?_
 refine WL.cut_bool 4 10 (x := ((decide (p_x.kind < 0)) || (decide (p_x.kind > 3)))) ?_ ?_
 ·
  rcases Bool.eq_false_or_eq_true (decide (p_x.kind < 0)) with hc3 | hc3
  ·
   refine WL.idle (Idle.no rfl rfl rfl hc3) rfl rfl ?_
   refine WL.idle (Idle.no rfl rfl rfl hc3) rfl rfl ?_
   refine WL.idle (Idle.no rfl rfl rfl hc3) rfl rfl ?_
   refine wq rfl rfl rfl (ov_pick_true rfl (guard_eq rfl hc3) rfl) ?_
   exact WL.nil ⟨Sub.cons' rfl (congrArg Value.bool (orT hc3)) (Sub.dropn 4 rfl), fun _ s => s⟩
  refine wy hc3 rfl (ov_fieldAddr underlying28 rfl rfl rfl sizeOf3 rfl rfl) ?_
  refine wy hc3 rfl (ov_load_box (i := 0) isAgg3 rfl rfl rfl rfl) ?_
  refine wy hc3 rfl (ov_gtr rfl rfl rfl) ?_
  refine wq rfl rfl rfl (ov_pick_false rfl (guard_eq rfl hc3) rfl) ?_
  exact WL.nil ⟨Sub.cons' rfl (congrArg Value.bool (orF hc3)) (Sub.dropn 4 rfl), fun _ s => s⟩
 refine WL.nil (tn ?_)
 refine WP.cond rfl (fun hc4 => ?_) (fun hc4 => ?_)
 ·
  replace hm := ite_t hc4 hm
  refine WP.seq (WP.region ?_)
  refine wq rfl rfl rfl (ov_assign rfl rfl) ?_
  refine WL.nil (tn (WP.ret (then_ret ?_)))
  obtain rfl := Option.some.inj hm
  refine retQ_ret results112 (Res.tmp rfl Res.nil) rfl (fun w' s => ⟨s.below, ?_⟩)
  exact rfl
 replace hm := ite_f hc4 hm
 refine WP.skip (tn (WP.seq (WP.seq (WP.region ?_))))
 refine wq rfl rfl rfl (ov_load_whole (i := 0) isAgg28 sizeOf28 rfl rfl rfl rfl) ?_
 obtain ⟨r1, e1, hm⟩ := bind_some hm
 refine wo rfl (oq_con (r := (.bool r1)) call144 rfl rfl (fun w' s => ⟨_, (ref15_shape_con p_x ao1 cap1 ao2 cap2  w' H s.hold h1 hc1 h2 hc2 hG r1 e1)⟩)) ?_
 refine wq rfl rfl rfl (ov_not rfl rfl) ?_
 refine WL.nil (tn ?_)
 refine WP.cond rfl (fun hc5 => ?_) (fun hc5 => ?_)
 ·
  replace hm := ite_t hc5 hm
  refine WP.seq (WP.region ?_)
  refine wq rfl rfl rfl (ov_assign rfl rfl) ?_
  refine WL.nil (tn (WP.ret (then_ret ?_)))
  obtain rfl := Option.some.inj hm
  refine retQ_ret results112 (Res.tmp rfl Res.nil) rfl (fun w' s => ⟨s.below, ?_⟩)
  exact rfl
 replace hm := ite_f hc5 hm
 refine WP.skip (tn ?_)
 obtain ⟨k1, hk1, hm⟩ := joinK_some hm
 refine WP.seq_join (fun g' S' => Sub [(1000000007, (.bool false))] g' ∧ (∀ w', S' w' → St w H [] H w') ∧ k1 = some r) ?_ ?_
 ·
  refine WP.seq (WP.region ?_)
  refine wq rfl rfl rfl (ov_fieldAddr underlying28 rfl rfl rfl sizeOf3 rfl rfl) ?_
  refine wq rfl rfl rfl (ov_load_box (i := 0) isAgg3 rfl rfl rfl rfl) ?_
  refine WL.nil (tn (WP.block (WP.seq (WP.region ?_))))
  refine wq rfl rfl rfl (ov_eql rfl rfl rfl) ?_
  refine wq rfl rfl rfl (ov_assign rfl rfl) ?_
  refine WL.nil (tn ?_)
  refine WP.cond rfl (fun hc6 => ?_) (fun hc6 => ?_)
  ·
   replace hm := ite_t hc6 hm
   refine WP.seq (WP.region ?_)
   refine wq rfl rfl rfl (ov_fieldAddr underlying28 rfl rfl rfl sizeOf25 rfl rfl) ?_
   refine wq rfl rfl rfl (ov_load_boxes (i := 0) (vs := [(.slice ao1 p_x.step.strokes.length cap1), (.int .i64 p_x.step.wait)]) isAgg25 sizeOf25 rfl rfl rfl rfl (part_of rfl)) ?_
   obtain ⟨r2, e2, hm⟩ := bind_some hm
   refine wo rfl (oq_con (r := (.int .i64 r2)) call132 rfl rfl (fun w' s => ⟨_, (ref13_CheckStep_con p_x.step ao1 cap1  w' H s.hold h1 hc1 hG r2 e2)⟩)) ?_
   refine wq rfl rfl rfl (ov_assign rfl rfl) ?_
   refine WL.nil (tn (WP.ret (block_ret (then_ret ?_))))
   obtain rfl := Option.some.inj hm
   refine retQ_ret results112 (Res.tmp rfl Res.nil) rfl (fun w' s => ⟨s.below, ?_⟩)
   exact rfl
  replace hm := ite_f hc6 hm
  refine WP.seq (WP.region ?_)
  refine wq rfl rfl rfl (ov_eql rfl rfl rfl) ?_
  refine wq rfl rfl rfl (ov_assign rfl rfl) ?_
  refine WL.nil (tn ?_)
  refine WP.cond rfl (fun hc7 => ?_) (fun hc7 => ?_)
  ·
   replace hm := ite_t hc7 hm
   refine WP.seq (WP.region ?_)
   refine wq rfl rfl rfl (ov_fieldAddr underlying28 rfl rfl rfl sizeOf3 rfl rfl) ?_
   refine wq rfl rfl rfl (ov_load_box (i := 0) isAgg3 rfl rfl rfl rfl) ?_
   refine wq rfl rfl rfl (ov_lss rfl rfl rfl) ?_
   refine wq rfl rfl rfl (ov_move rfl rfl) ?_
   refine WL.cut_bool 4 30 (x := ((decide (p_x.count < 1)) || (decide (p_x.count > 64)))) ?_ ?_
   ·
    rcases Bool.eq_false_or_eq_true (decide (p_x.count < 1)) with hc8 | hc8
    ·
     refine WL.idle (Idle.no rfl rfl rfl hc8) rfl rfl ?_
     refine WL.idle (Idle.no rfl rfl rfl hc8) rfl rfl ?_
     refine WL.idle (Idle.no rfl rfl rfl hc8) rfl rfl ?_
     refine wq rfl rfl rfl (ov_pick_true rfl (guard_eq rfl hc8) rfl) ?_
     exact WL.nil ⟨Sub.cons' rfl (congrArg Value.bool (orT hc8)) (Sub.dropn 4 rfl), fun _ s => s⟩
    refine wy hc8 rfl (ov_fieldAddr underlying28 rfl rfl rfl sizeOf3 rfl rfl) ?_
    refine wy hc8 rfl (ov_load_box (i := 0) isAgg3 rfl rfl rfl rfl) ?_
    refine wy hc8 rfl (ov_gtr rfl rfl rfl) ?_
    refine wq rfl rfl rfl (ov_pick_false rfl (guard_eq rfl hc8) rfl) ?_
    exact WL.nil ⟨Sub.cons' rfl (congrArg Value.bool (orF hc8)) (Sub.dropn 4 rfl), fun _ s => s⟩
   refine WL.nil (tn ?_)
   refine WP.cond rfl (fun hc9 => ?_) (fun hc9 => ?_)
   ·
    replace hm := ite_t hc9 hm
    refine WP.seq (WP.region ?_)
    refine wq rfl rfl rfl (ov_assign rfl rfl) ?_
    refine WL.nil (tn (WP.ret (block_ret (then_ret ?_))))
    obtain rfl := Option.some.inj hm
    refine retQ_ret results112 (Res.tmp rfl Res.nil) rfl (fun w' s => ⟨s.below, ?_⟩)
    exact rfl
   replace hm := ite_f hc9 hm
   refine WP.skip (bn (tn ?_))
   exact ⟨(Sub.all rfl), fun w' s => (s.select [] (by decide) rfl), hm⟩
  replace hm := ite_f hc7 hm
  refine WP.seq (WP.region ?_)
  refine wq rfl rfl rfl (ov_eql rfl rfl rfl) ?_
  refine wq rfl rfl rfl (ov_assign rfl rfl) ?_
  refine WL.nil (tn ?_)
  refine WP.cond rfl (fun hc10 => ?_) (fun hc10 => ?_)
  ·
   replace hm := ite_t hc10 hm
   refine WP.seq (WP.region ?_)
   refine wq rfl rfl rfl (ov_fieldAddr underlying28 rfl rfl rfl sizeOf9 rfl rfl) ?_
   refine wq rfl rfl rfl (ov_load_box (i := 0) isAgg9 rfl rfl rfl rfl) ?_
   obtain ⟨r3, e3, hm⟩ := bind_some hm
   refine wo rfl (oq_con (r := (.int .i64 r3)) call127 rfl rfl (fun w' s => ⟨_, (ref12_Word_con p_x.name  w' H s.hold hG r3 e3)⟩)) ?_
   refine wq rfl rfl rfl (ov_assign rfl rfl) ?_
   refine WL.nil (tn (WP.ret (block_ret (then_ret ?_))))
   obtain rfl := Option.some.inj hm
   refine retQ_ret results112 (Res.tmp rfl Res.nil) rfl (fun w' s => ⟨s.below, ?_⟩)
   exact rfl
  replace hm := ite_f hc10 hm
  refine WP.skip (bn (tn ?_))
  exact ⟨(Sub.all rfl), fun w' s => (s.select [] (by decide) rfl), hm⟩
 rintro g' S' ⟨hsub1, hS1, hm⟩
 refine WP.sub hsub1 (WP.weaken hS1 ?_)
 replace hm := hk1.symm.trans hm
 refine WP.seq (WP.region ?_)
 refine wq rfl rfl rfl (ov_assign rfl rfl) ?_
 refine WL.nil (tn (WP.ret ?_))
 obtain rfl := Option.some.inj hm
 refine retQ_ret results112 (Res.tmp rfl Res.nil) rfl (fun w' s => ⟨s.below, ?_⟩)
 exact rfl
theorem ref15_nodes_body_con (self : Node → Option Int) (hself : ∀ (p_x : Node) (ao1 : Option Addr) (cap1 : Nat) (ao2 : Option Addr) (cap2 : Nat) (w : World) (H : Heap) (hH : Le H (hp w)) (h1 : SL H encStroke ao1 p_x.step.strokes) (hc1 : p_x.step.strokes.length ≤ cap1) (h2 : SL H encNode ao2 p_x.nodes) (hc2 : p_x.nodes.length ≤ cap2) (hG : Glob H) (r : Int) (hm : self p_x = some r), Con prog 71 [(.agg #[(.int .i64 p_x.kind), (.slice ao1 p_x.step.strokes.length cap1), (.int .i64 p_x.step.wait), (.int .i64 p_x.count), (mkS p_x.name), (.slice ao2 p_x.nodes.length cap2)])] w H (fun v _ => v = (.int .i64 r))) (p_x : Node) (ao1 : Option Addr) (cap1 : Nat) (ao2 : Option Addr) (cap2 : Nat) (w : World) (H : Heap) (hH : Le H (hp w)) (h1 : SL H encStroke ao1 p_x.step.strokes) (hc1 : p_x.step.strokes.length ≤ cap1) (h2 : SL H encNode ao2 p_x.nodes) (hc2 : p_x.nodes.length ≤ cap2) (hG : Glob H) (r : Int) (hm : ref15_nodes_body self p_x = some r) :
  Con prog 71 [(.agg #[(.int .i64 p_x.kind), (.slice ao1 p_x.step.strokes.length cap1), (.int .i64 p_x.step.wait), (.int .i64 p_x.count), (mkS p_x.name), (.slice ao2 p_x.nodes.length cap2)])] w H (fun v _ => v = (.int .i64 r)) := by
 unfold ref15_nodes_body at hm
 refine con_of hH func71 rfl 27 ntmps71 rfl ?_
 refine WP.seq (WP.region ?_)
 refine ws rfl (os_box (cs := [(.int .i64 p_x.kind), (.slice ao1 p_x.step.strokes.length cap1), (.int .i64 p_x.step.wait), (.int .i64 p_x.count), (mkS p_x.name), (.slice ao2 p_x.nodes.length cap2)]) rfl rfl rfl (fun b1 => ?_))
 refine wq rfl rfl rfl (ov_assign rfl rfl) ?_
 refine WL.nil (tn (WP.seq (WP.seq (WP.region ?_))))
 refine wq rfl rfl rfl (ov_load_whole (i := 0) isAgg28 sizeOf28 rfl rfl rfl rfl) ?_
 obtain ⟨r1, e1, hm⟩ := bind_some hm
 refine wo rfl (oq_con (r := (.int .i64 r1)) call112 rfl rfl (fun w' s => ⟨_, (ref15_node_con p_x ao1 cap1 ao2 cap2  w' H s.hold h1 hc1 h2 hc2 hG r1 e1)⟩)) ?_
 refine wq rfl rfl rfl (ov_assign rfl rfl) ?_
 refine WL.nil (tn (WP.seq (WP.region ?_)))
 refine wq rfl rfl rfl (ov_move rfl rfl) ?_
 refine wq rfl rfl rfl (ov_neq rfl rfl rfl) ?_
 refine WL.nil (tn ?_)
 refine WP.cond rfl (fun hc3 => ?_) (fun hc3 => ?_)
 ·
  replace hm := ite_t hc3 hm
  refine WP.seq (WP.region ?_)
  refine wq rfl rfl rfl (ov_move rfl rfl) ?_
  refine wq rfl rfl rfl (ov_assign rfl rfl) ?_
  refine WL.nil (tn (WP.ret (then_ret ?_)))
  obtain rfl := Option.some.inj hm
  refine retQ_ret results71 (Res.tmp rfl Res.nil) rfl (fun w' s => ⟨s.below, ?_⟩)
  exact rfl
 replace hm := ite_f hc3 hm
 refine WP.skip (tn ?_)
 obtain ⟨k1, hk1, hm⟩ := joinK_some hm
 refine WP.seq_join (fun g' S' => Sub [(1000000007, (.bool false))] g' ∧ (∀ w', S' w' → St w H [] H w') ∧ k1 = some r) ?_ ?_
 ·
  refine WP.seq (WP.region ?_)
  refine wq rfl rfl rfl (ov_assign rfl rfl) ?_
  refine WL.nil (tn (WP.block ?_))
  refine WP.loop (fun m1 g' S' => ∃ (i1 : Int), Sub [(1, (pB b1 0)), (4, (.int .i64 i1)), (1000000007, (.bool false))] g' ∧ (∀ w', S' w' → St w H [.blk b1 28 [(.int .i64 p_x.kind), (.slice ao1 p_x.step.strokes.length cap1), (.int .i64 p_x.step.wait), (.int .i64 p_x.count), (mkS p_x.name), (.slice ao2 p_x.nodes.length cap2)]] H w') ∧ ref15_nodes_loop1 p_x self k1 m1 i1 = some r) ((Int.toNat ((p_x.nodes.length : Int) - 0) + 1)) ⟨0, (Sub.all rfl), fun w' s => s, hm⟩ ?_ ?_
  ·
   rintro g' S' ⟨_, _, _, hm⟩
   exact none_some hm
  rintro m1 g' S' ⟨i1, hsub1, hS1, hm⟩
  refine WP.sub hsub1 (WP.weaken hS1 ?_)
  rw [ref15_nodes_loop1] at hm
  refine WP.seq (WP.seq (WP.region ?_))
  refine wq rfl rfl rfl (ov_move rfl rfl) ?_
  refine wq rfl rfl rfl (ov_fieldAddr underlying28 rfl rfl rfl sizeOf26 rfl rfl) ?_
  refine wq rfl rfl rfl (ov_load_box (i := 0) isAgg26 rfl rfl rfl rfl) ?_
  refine wq rfl rfl rfl (ov_len_slice underlying26 rfl rfl) ?_
  refine wq rfl rfl rfl (ov_lss rfl rfl rfl) ?_
  refine WL.nil (tn ?_)
  refine WP.cond rfl (fun hc4 => ?_) (fun hc4 => ?_)
  ·
   replace hm := ite_t hc4 hm
   refine WP.skip (tn (WP.seq (WP.block (WP.seq (WP.region ?_)))))
   refine wq rfl rfl rfl (ov_fieldAddr underlying28 rfl rfl rfl sizeOf26 rfl rfl) ?_
   refine wq rfl rfl rfl (ov_load_box (i := 0) isAgg26 rfl rfl rfl rfl) ?_
   refine wq rfl rfl rfl (ov_move rfl rfl) ?_
   obtain ⟨x1, e2, hm⟩ := bind_some hm
   obtain ⟨h5, h6, h7, cs1, h8, h9⟩ := h2.get e2 (by decide)
   obtain ⟨ao3, cap3, ao4, cap4, rfl, h3, hc5, h4, hc6⟩ := (encNode_open h8)
   refine wq rfl rfl rfl (ov_indexAddr underlying26 sizeOf28 rfl rfl rfl h5 h6 h7) ?_
   refine wq rfl rfl rfl (ov_load_elems (vs := [(.int .i64 x1.kind), (.slice ao3 x1.step.strokes.length cap3), (.int .i64 x1.step.wait), (.int .i64 x1.count), (mkS x1.name), (.slice ao4 x1.nodes.length cap4)]) isAgg28 sizeOf28 rfl rfl rfl h9 h7) ?_
   obtain ⟨r2, e3, hm⟩ := bind_some hm
   refine wo rfl (oq_con (r := (.int .i64 r2)) call71 rfl rfl (fun w' s => ⟨_, (hself x1 ao3 cap3 ao4 cap4  w' H s.hold h3 hc5 h4 hc6 hG r2 e3)⟩)) ?_
   refine wq rfl rfl rfl (ov_assign rfl rfl) ?_
   refine WL.nil (tn (WP.seq (WP.region ?_)))
   refine wq rfl rfl rfl (ov_move rfl rfl) ?_
   refine wq rfl rfl rfl (ov_neq rfl rfl rfl) ?_
   refine WL.nil (tn ?_)
   refine WP.cond rfl (fun hc7 => ?_) (fun hc7 => ?_)
   ·
    replace hm := ite_t hc7 hm
    refine WP.seq (WP.region ?_)
    refine wq rfl rfl rfl (ov_move rfl rfl) ?_
    refine wq rfl rfl rfl (ov_assign rfl rfl) ?_
    refine WL.nil (tn (WP.ret (block_ret (then_ret (then_ret (block_ret (then_ret ?_)))))))
    obtain rfl := Option.some.inj hm
    refine retQ_ret results71 (Res.tmp rfl Res.nil) rfl (fun w' s => ⟨s.below, ?_⟩)
    exact rfl
   replace hm := ite_f hc7 hm
   refine WP.skip (bn (tn (WP.region ?_)))
   refine wq rfl rfl rfl (ov_move rfl rfl) ?_
   refine wq rfl rfl rfl (ov_add rfl rfl rfl) ?_
   refine wq rfl rfl rfl (ov_assign rfl rfl) ?_
   refine WL.nil (tn ?_)
   exact ⟨(IntKind.wrap .i64 (i1 + 1)), (Sub.all rfl), fun w' s => s, hm⟩
  replace hm := ite_f hc4 hm
  refine WP.exit (then_exit (then_exit (block_here (tn ?_))))
  exact ⟨(Sub.all rfl), fun w' s => (s.select [] (by decide) rfl), hm⟩
 rintro g' S' ⟨hsub2, hS2, hm⟩
 refine WP.sub hsub2 (WP.weaken hS2 ?_)
 replace hm := hk1.symm.trans hm
 refine WP.seq (WP.region ?_)
 refine wq rfl rfl rfl (ov_assign rfl rfl) ?_
 refine WL.nil (tn (WP.ret ?_))
 obtain rfl := Option.some.inj hm
 refine retQ_ret results71 (Res.tmp rfl Res.nil) rfl (fun w' s => ⟨s.below, ?_⟩)
 exact rfl
theorem ref15_nodes_con (n : Nat) : ∀ (p_x : Node) (ao1 : Option Addr) (cap1 : Nat) (ao2 : Option Addr) (cap2 : Nat) (w : World) (H : Heap) (hH : Le H (hp w)) (h1 : SL H encStroke ao1 p_x.step.strokes) (hc1 : p_x.step.strokes.length ≤ cap1) (h2 : SL H encNode ao2 p_x.nodes) (hc2 : p_x.nodes.length ≤ cap2) (hG : Glob H) (r : Int) (hm : ref15_nodes n p_x = some r),
  Con prog 71 [(.agg #[(.int .i64 p_x.kind), (.slice ao1 p_x.step.strokes.length cap1), (.int .i64 p_x.step.wait), (.int .i64 p_x.count), (mkS p_x.name), (.slice ao2 p_x.nodes.length cap2)])] w H (fun v _ => v = (.int .i64 r)) := by
 induction n with
 | zero => intro p_x ao1 cap1 ao2 cap2 w H hH h1 hc1 h2 hc2 hG r hm; exact (none_some hm).elim
 | succ n ih => intro p_x ao1 cap1 ao2 cap2 w H hH h1 hc1 h2 hc2 hG r hm; exact ref15_nodes_body_con (ref15_nodes n) ih p_x ao1 cap1 ao2 cap2 w H hH h1 hc1 h2 hc2 hG r hm
theorem ref15_Check_con (p_x : Node) (ao1 : Option Addr) (cap1 : Nat) (ao2 : Option Addr) (cap2 : Nat) (w : World) (H : Heap) (hH : Le H (hp w)) (h1 : SL H encStroke ao1 p_x.step.strokes) (hc1 : p_x.step.strokes.length ≤ cap1) (h2 : SL H encNode ao2 p_x.nodes) (hc2 : p_x.nodes.length ≤ cap2) (hG : Glob H) (r : Int) (hm : ref15_Check p_x = some r) :
  Con prog 32 [(.agg #[(.int .i64 p_x.kind), (.slice ao1 p_x.step.strokes.length cap1), (.int .i64 p_x.step.wait), (.int .i64 p_x.count), (mkS p_x.name), (.slice ao2 p_x.nodes.length cap2)])] w H (fun v _ => v = (.int .i64 r)) := by
 unfold ref15_Check at hm
 refine con_of hH func32 rfl 8 ntmps32 rfl ?_
 refine WP.seq (WP.region ?_)
 refine ws rfl (os_box (cs := [(.int .i64 p_x.kind), (.slice ao1 p_x.step.strokes.length cap1), (.int .i64 p_x.step.wait), (.int .i64 p_x.count), (mkS p_x.name), (.slice ao2 p_x.nodes.length cap2)]) rfl rfl rfl (fun b1 => ?_))
 refine wq rfl rfl rfl (ov_assign rfl rfl) ?_
 refine WL.nil (tn (WP.seq (WP.seq (WP.region ?_))))
 refine wq rfl rfl rfl (ov_load_whole (i := 0) isAgg28 sizeOf28 rfl rfl rfl rfl) ?_
 obtain ⟨r1, e1, hm⟩ := bind_some hm
 refine wo rfl (oq_con (r := (.bool r1)) call38 rfl rfl (fun w' s => ⟨_, (ref15_Light_con p_x ao1 cap1 ao2 cap2  w' H s.hold h1 hc1 h2 hc2 hG r1 e1)⟩)) ?_
 refine wq rfl rfl rfl (ov_not rfl rfl) ?_
 refine WL.nil (tn ?_)
 refine WP.cond rfl (fun hc3 => ?_) (fun hc3 => ?_)
 ·
  replace hm := ite_t hc3 hm
  refine WP.seq (WP.region ?_)
  refine wq rfl rfl rfl (ov_assign rfl rfl) ?_
  refine WL.nil (tn (WP.ret (then_ret ?_)))
  obtain rfl := Option.some.inj hm
  refine retQ_ret results32 (Res.tmp rfl Res.nil) rfl (fun w' s => ⟨s.below, ?_⟩)
  exact rfl
 replace hm := ite_f hc3 hm
 refine WP.skip (tn (WP.seq (WP.region ?_)))
 refine wq rfl rfl rfl (ov_load_whole (i := 0) isAgg28 sizeOf28 rfl rfl rfl rfl) ?_
 obtain ⟨r2, e2, hm⟩ := bind_some hm
 refine wo rfl (oq_con (r := (.int .i64 r2)) call71 rfl rfl (fun w' s => ⟨_, (ref15_nodes_con 600 p_x ao1 cap1 ao2 cap2  w' H s.hold h1 hc1 h2 hc2 hG r2 e2)⟩)) ?_
 refine wq rfl rfl rfl (ov_assign rfl rfl) ?_
 refine WL.nil (tn (WP.ret ?_))
 obtain rfl := Option.some.inj hm
 refine retQ_ret results32 (Res.tmp rfl Res.nil) rfl (fun w' s => ⟨s.below, ?_⟩)
 exact rfl
theorem ref12_Number_con (p_s : (List UInt8)) (w : World) (H : Heap) (hH : Le H (hp w)) (hG : Glob H) (r : Int) (hm : ref12_Number p_s = some r) :
  Con prog 129 [(mkS p_s)] w H (fun v _ => v = (.int .i64 r)) := by
 unfold ref12_Number at hm
 refine con_of hH func129 rfl 31 ntmps129 rfl ?_
 refine WP.seq (WP.region ?_)
 refine wq rfl rfl rfl (ov_assign rfl rfl) ?_
 refine WL.nil (tn (WP.seq (WP.seq (WP.region ?_))))
 refine wq rfl rfl rfl (ov_move rfl rfl) ?_
 refine wq rfl rfl rfl (ov_len_string underlying9 rfl rfl) ?_
 refine wq rfl rfl rfl (ov_eql rfl rfl rfl) ?_
 refine wq rfl rfl rfl (ov_move rfl rfl) ?_
 obtain ⟨c1, e1, hm⟩ := bind_some hm
 refine WL.cut_bool 9 16 (x := c1) ?_ ?_
 ·
  rcases Bool.eq_false_or_eq_true ((p_s.length : Int) == 0) with hc1 | hc1
  ·
   replace hm := ite_t hc1 e1
   refine WL.idle (Idle.no rfl rfl rfl hc1) rfl rfl ?_
   refine WL.idle (Idle.no rfl rfl rfl hc1) rfl rfl ?_
   refine WL.idle (Idle.no rfl rfl rfl hc1) rfl rfl ?_
   refine WL.idle (Idle.no rfl rfl rfl hc1) rfl rfl ?_
   refine WL.idle (Idle.undef rfl rfl rfl) rfl rfl ?_
   refine WL.idle (Idle.undef rfl rfl rfl) rfl rfl ?_
   refine WL.idle (Idle.undef rfl rfl rfl) rfl rfl ?_
   refine WL.idle (Idle.no rfl rfl rfl hc1) rfl rfl ?_
   refine wq rfl rfl rfl (ov_pick_true rfl (guard_eq rfl hc1) rfl) ?_
   exact WL.nil ⟨Sub.cons' rfl (congrArg Value.bool (Option.some.inj hm)) (Sub.dropn 9 rfl), fun _ s => s⟩
  replace hm := ite_f hc1 e1
  refine wy hc1 rfl (ov_move rfl rfl) ?_
  refine wy hc1 rfl (ov_len_string underlying9 rfl rfl) ?_
  refine wy hc1 rfl (ov_gtr rfl rfl rfl) ?_
  refine wy hc1 rfl (ov_move rfl rfl) ?_
  obtain ⟨c2, e2, hm⟩ := bind_some hm
  refine WL.cut_bool 4 15 (x := c2) ?_ ?_
  ·
   rcases Bool.eq_false_or_eq_true (decide ((p_s.length : Int) > 1)) with hc2 | hc2
   ·
    replace hm := ite_t hc2 e2
    refine wy hc2 rfl (ov_move rfl rfl) ?_
    obtain ⟨b1, e3, hm⟩ := bind_some hm
    refine wy hc2 rfl (ov_index_string underlying9 rfl rfl rfl e3) ?_
    refine wy hc2 rfl (ov_eql rfl rfl rfl) ?_
    refine wy hc1 rfl (ov_pick_true rfl (guard_eq rfl hc2) rfl) ?_
    exact WL.nil ⟨Sub.cons' rfl (congrArg Value.bool (Option.some.inj hm)) (Sub.dropn 4 rfl), fun _ s => s⟩
   replace hm := ite_f hc2 e2
   refine WL.idle (Idle.no rfl rfl rfl hc2) rfl rfl ?_
   refine WL.idle (Idle.no rfl rfl rfl hc2) rfl rfl ?_
   refine WL.idle (Idle.no rfl rfl rfl hc2) rfl rfl ?_
   refine wy hc1 rfl (ov_pick_false rfl (guard_eq rfl hc2) rfl) ?_
   exact WL.nil ⟨Sub.cons' rfl (congrArg Value.bool (Option.some.inj hm)) (Sub.dropn 4 rfl), fun _ s => s⟩
  refine wq rfl rfl rfl (ov_pick_false rfl (guard_eq rfl hc1) rfl) ?_
  exact WL.nil ⟨Sub.cons' rfl (congrArg Value.bool (Option.some.inj hm)) (Sub.dropn 6 rfl), fun _ s => s⟩
 refine WL.nil (tn ?_)
 refine WP.cond rfl (fun hc3 => ?_) (fun hc3 => ?_)
 ·
  replace hm := ite_t hc3 hm
  refine WP.seq (WP.region ?_)
  refine wq rfl rfl rfl (ov_assign rfl rfl) ?_
  refine WL.nil (tn (WP.ret (then_ret ?_)))
  obtain rfl := Option.some.inj hm
  refine retQ_ret results129 (Res.tmp rfl Res.nil) rfl (fun w' s => ⟨s.below, ?_⟩)
  exact rfl
 replace hm := ite_f hc3 hm
 refine WP.skip (tn ?_)
 obtain ⟨k1, hk1, hm⟩ := joinK_some hm
 refine WP.seq_join (fun g' S' => Sub [(0, (mkS p_s)), (1000000007, (.bool false))] g' ∧ (∀ w', S' w' → St w H [] H w') ∧ k1 = some r) ?_ ?_
 ·
  refine WP.seq (WP.region ?_)
  refine wq rfl rfl rfl (ov_assign rfl rfl) ?_
  refine WL.nil (tn (WP.block ?_))
  refine WP.loop (fun m1 g' S' => ∃ (i1 : Int), Sub [(0, (mkS p_s)), (3, (.int .i64 i1)), (1000000007, (.bool false))] g' ∧ (∀ w', S' w' → St w H [] H w') ∧ ref12_Number_loop1 p_s k1 m1 i1 = some r) ((Int.toNat ((p_s.length : Int) - 0) + 1)) ⟨0, (Sub.all rfl), fun w' s => s, hm⟩ ?_ ?_
  ·
   rintro g' S' ⟨_, _, _, hm⟩
   exact none_some hm
  rintro m1 g' S' ⟨i1, hsub1, hS1, hm⟩
  refine WP.sub hsub1 (WP.weaken hS1 ?_)
  rw [ref12_Number_loop1] at hm
  refine WP.seq (WP.seq (WP.region ?_))
  refine wq rfl rfl rfl (ov_move rfl rfl) ?_
  refine wq rfl rfl rfl (ov_move rfl rfl) ?_
  refine wq rfl rfl rfl (ov_len_string underlying9 rfl rfl) ?_
  refine wq rfl rfl rfl (ov_lss rfl rfl rfl) ?_
  refine WL.nil (tn ?_)
  refine WP.cond rfl (fun hc4 => ?_) (fun hc4 => ?_)
  ·
   replace hm := ite_t hc4 hm
   refine WP.skip (tn (WP.seq (WP.block (WP.seq (WP.region ?_)))))
   refine wq rfl rfl rfl (ov_move rfl rfl) ?_
   refine wq rfl rfl rfl (ov_move rfl rfl) ?_
   obtain ⟨b2, e4, hm⟩ := bind_some hm
   refine wq rfl rfl rfl (ov_index_string underlying9 rfl rfl rfl e4) ?_
   obtain ⟨r1, e5, hm⟩ := bind_some hm
   refine wo rfl (oq_con (r := (.bool r1)) call128 rfl rfl (fun w' s => ⟨_, (ref12_Digit_con (b2.toNat : Int)  w' H s.hold hG r1 e5)⟩)) ?_
   refine wq rfl rfl rfl (ov_not rfl rfl) ?_
   refine WL.nil (tn ?_)
   refine WP.cond rfl (fun hc5 => ?_) (fun hc5 => ?_)
   ·
    replace hm := ite_t hc5 hm
    refine WP.seq (WP.region ?_)
    refine wq rfl rfl rfl (ov_assign rfl rfl) ?_
    refine WL.nil (tn (WP.ret (block_ret (then_ret (then_ret (block_ret (then_ret ?_)))))))
    obtain rfl := Option.some.inj hm
    refine retQ_ret results129 (Res.tmp rfl Res.nil) rfl (fun w' s => ⟨s.below, ?_⟩)
    exact rfl
   replace hm := ite_f hc5 hm
   refine WP.skip (bn (tn (WP.region ?_)))
   refine wq rfl rfl rfl (ov_move rfl rfl) ?_
   refine wq rfl rfl rfl (ov_add rfl rfl rfl) ?_
   refine wq rfl rfl rfl (ov_assign rfl rfl) ?_
   refine WL.nil (tn ?_)
   exact ⟨(IntKind.wrap .i64 (i1 + 1)), (Sub.all rfl), fun w' s => s, hm⟩
  replace hm := ite_f hc4 hm
  refine WP.exit (then_exit (then_exit (block_here (tn ?_))))
  exact ⟨(Sub.all rfl), fun w' s => s, hm⟩
 rintro g' S' ⟨hsub2, hS2, hm⟩
 refine WP.sub hsub2 (WP.weaken hS2 ?_)
 replace hm := hk1.symm.trans hm
 refine WP.seq (WP.seq (WP.region ?_))
 refine wq rfl rfl rfl (ov_move rfl rfl) ?_
 refine wq rfl rfl rfl (ov_len_string underlying9 rfl rfl) ?_
 refine wq rfl rfl rfl (ov_gtr rfl rfl rfl) ?_
 refine WL.nil (tn ?_)
 refine WP.cond rfl (fun hc6 => ?_) (fun hc6 => ?_)
 ·
  replace hm := ite_t hc6 hm
  refine WP.seq (WP.region ?_)
  refine wq rfl rfl rfl (ov_assign rfl rfl) ?_
  refine WL.nil (tn (WP.ret (then_ret ?_)))
  obtain rfl := Option.some.inj hm
  refine retQ_ret results129 (Res.tmp rfl Res.nil) rfl (fun w' s => ⟨s.below, ?_⟩)
  exact rfl
 replace hm := ite_f hc6 hm
 refine WP.skip (tn (WP.seq (WP.region ?_)))
 refine wq rfl rfl rfl (ov_assign rfl rfl) ?_
 refine WL.nil (tn (WP.ret ?_))
 obtain rfl := Option.some.inj hm
 refine retQ_ret results129 (Res.tmp rfl Res.nil) rfl (fun w' s => ⟨s.below, ?_⟩)
 exact rfl
theorem ref12_Sign_con (p_b : Int) (w : World) (H : Heap) (hH : Le H (hp w)) (hG : Glob H) (r : Bool) (hm : ref12_Sign p_b = some r) :
  Con prog 130 [(.int .u8 p_b)] w H (fun v _ => v = (.bool r)) := by
 unfold ref12_Sign at hm
 refine con_of hH func130 rfl 12 ntmps130 rfl ?_
 refine WP.seq (WP.region ?_)
 refine wq rfl rfl rfl (ov_assign rfl rfl) ?_
 refine WL.nil (tn ?_)
 obtain ⟨k1, hk1, hm⟩ := joinK_some hm
 refine WP.seq_join (fun g' S' => Sub [(1000000007, (.bool false))] g' ∧ (∀ w', S' w' → St w H [] H w') ∧ k1 = some r) ?_ ?_
 ·
  refine WP.seq (WP.region ?_)
  refine wq rfl rfl rfl (ov_assign rfl rfl) ?_
  refine WL.nil (tn (WP.block ?_))
  refine WP.loop (fun m1 g' S' => ∃ (i1 : Int), Sub [(0, (.int .u8 p_b)), (3, (.int .i64 i1)), (1000000007, (.bool false))] g' ∧ (∀ w', S' w' → St w H [] H w') ∧ ref12_Sign_loop1 p_b k1 m1 i1 = some r) ((Int.toNat (21 - 0) + 1)) ⟨0, (Sub.all rfl), fun w' s => s, hm⟩ ?_ ?_
  ·
   rintro g' S' ⟨_, _, _, hm⟩
   exact none_some hm
  rintro m1 g' S' ⟨i1, hsub1, hS1, hm⟩
  refine WP.sub hsub1 (WP.weaken hS1 ?_)
  rw [ref12_Sign_loop1] at hm
  refine WP.seq (WP.seq (WP.region ?_))
  refine wq rfl rfl rfl (ov_move rfl rfl) ?_
  refine wq rfl rfl rfl (ov_lss rfl rfl rfl) ?_
  refine WL.nil (tn ?_)
  refine WP.cond rfl (fun hc1 => ?_) (fun hc1 => ?_)
  ·
   replace hm := ite_t hc1 hm
   refine WP.skip (tn (WP.seq (WP.block (WP.seq (WP.region ?_)))))
   refine wq rfl rfl rfl (ov_move rfl rfl) ?_
   obtain ⟨b1, e1, hm⟩ := bind_some hm
   refine wq rfl rfl rfl (ov_index_string underlying9 rfl rfl rfl e1) ?_
   refine wq rfl rfl rfl (ov_move rfl rfl) ?_
   refine wq rfl rfl rfl (ov_eql rfl rfl rfl) ?_
   refine WL.nil (tn ?_)
   refine WP.cond rfl (fun hc2 => ?_) (fun hc2 => ?_)
   ·
    replace hm := ite_t hc2 hm
    refine WP.seq (WP.region ?_)
    refine wq rfl rfl rfl (ov_assign rfl rfl) ?_
    refine WL.nil (tn (WP.ret (block_ret (then_ret (then_ret (block_ret (then_ret ?_)))))))
    obtain rfl := Option.some.inj hm
    refine retQ_ret results130 (Res.tmp rfl Res.nil) rfl (fun w' s => ⟨s.below, ?_⟩)
    exact rfl
   replace hm := ite_f hc2 hm
   refine WP.skip (bn (tn (WP.region ?_)))
   refine wq rfl rfl rfl (ov_move rfl rfl) ?_
   refine wq rfl rfl rfl (ov_add rfl rfl rfl) ?_
   refine wq rfl rfl rfl (ov_assign rfl rfl) ?_
   refine WL.nil (tn ?_)
   exact ⟨(IntKind.wrap .i64 (i1 + 1)), (Sub.all rfl), fun w' s => s, hm⟩
  replace hm := ite_f hc1 hm
  refine WP.exit (then_exit (then_exit (block_here (tn ?_))))
  exact ⟨(Sub.all rfl), fun w' s => s, hm⟩
 rintro g' S' ⟨hsub2, hS2, hm⟩
 refine WP.sub hsub2 (WP.weaken hS2 ?_)
 replace hm := hk1.symm.trans hm
 refine WP.seq (WP.region ?_)
 refine wq rfl rfl rfl (ov_assign rfl rfl) ?_
 refine WL.nil (tn (WP.ret ?_))
 obtain rfl := Option.some.inj hm
 refine retQ_ret results130 (Res.tmp rfl Res.nil) rfl (fun w' s => ⟨s.below, ?_⟩)
 exact rfl
theorem ref12_next_con (p_s : (List UInt8)) (w : World) (H : Heap) (hH : Le H (hp w)) (hG : Glob H) (r : (Int × Int × Int)) (hm : ref12_next p_s = some r) :
  Con prog 88 [(mkS p_s)] w H (fun v _ => v = (.tuple #[(.int .i64 r.1), (.int .i64 r.2.1), (.int .i64 r.2.2)])) := by
 unfold ref12_next at hm
 refine con_of hH func88 rfl 49 ntmps88 rfl ?_
 refine WP.seq (WP.region ?_)
 refine wq rfl rfl rfl (ov_assign rfl rfl) ?_
 refine wq rfl rfl rfl (ov_assign rfl rfl) ?_
 refine wq rfl rfl rfl (ov_assign rfl rfl) ?_
 refine WL.nil (tn (WP.seq (WP.region ?_)))
 refine wq rfl rfl rfl (ov_assign rfl rfl) ?_
 refine WL.nil (tn ?_)
 obtain ⟨k1, hk1, hm⟩ := joinK_some hm
 refine WP.seq_join (fun g' S' => Sub [(0, (mkS p_s)), (5, (.int .i64 0)), (1000000007, (.bool false))] g' ∧ (∀ w', S' w' → St w H [] H w') ∧ k1 = some r) ?_ ?_
 ·
  refine WP.seq (WP.region ?_)
  refine wq rfl rfl rfl (ov_move rfl rfl) ?_
  obtain ⟨b1, e1, hm⟩ := bind_some hm
  refine wq rfl rfl rfl (ov_index_string underlying9 rfl rfl rfl e1) ?_
  obtain ⟨r1, e2, hm⟩ := bind_some hm
  refine wo rfl (oq_con (r := (.bool r1)) call125 rfl rfl (fun w' s => ⟨_, (ref12_Letter_con (b1.toNat : Int)  w' H s.hold hG r1 e2)⟩)) ?_
  refine WL.nil (tn ?_)
  refine WP.cond rfl (fun hc1 => ?_) (fun hc1 => ?_)
  ·
   replace hm := ite_t hc1 hm
   obtain ⟨k2, hk2, hm⟩ := joinK_some hm
   refine WP.seq_join (fun g' S' => ∃ (i2 : Int), Sub [(0, (mkS p_s)), (5, (.int .i64 i2)), (1000000007, (.bool false))] g' ∧ (∀ w', S' w' → St w H [] H w') ∧ k2 i2 = some r) ?_ ?_
   ·
    refine WP.block ?_
    refine WP.loop (fun m1 g' S' => ∃ (i1 : Int), Sub [(0, (mkS p_s)), (5, (.int .i64 i1)), (1000000007, (.bool false))] g' ∧ (∀ w', S' w' → St w H [] H w') ∧ ref12_next_loop1 p_s k2 m1 i1 = some r) ((p_s.length + 1)) ⟨0, (Sub.all rfl), fun w' s => s, hm⟩ ?_ ?_
    ·
     rintro g' S' ⟨_, _, _, hm⟩
     exact none_some hm
    rintro m1 g' S' ⟨i1, hsub1, hS1, hm⟩
    refine WP.sub hsub1 (WP.weaken hS1 ?_)
    rw [ref12_next_loop1] at hm
    refine WP.seq (WP.seq (WP.region ?_))
    refine wq rfl rfl rfl (ov_move rfl rfl) ?_
    refine wq rfl rfl rfl (ov_move rfl rfl) ?_
    refine wq rfl rfl rfl (ov_len_string underlying9 rfl rfl) ?_
    refine wq rfl rfl rfl (ov_lss rfl rfl rfl) ?_
    refine wq rfl rfl rfl (ov_move rfl rfl) ?_
    obtain ⟨c1, e3, hm⟩ := bind_some hm
    refine WL.cut_bool 5 18 (x := c1) ?_ ?_
    ·
     rcases Bool.eq_false_or_eq_true (decide (i1 < (p_s.length : Int))) with hc2 | hc2
     ·
      replace hm := ite_t hc2 e3
      refine wy hc2 rfl (ov_move rfl rfl) ?_
      refine wy hc2 rfl (ov_move rfl rfl) ?_
      obtain ⟨b2, e4, hm⟩ := bind_some hm
      refine wy hc2 rfl (ov_index_string underlying9 rfl rfl rfl e4) ?_
      obtain ⟨r2, e5, hm⟩ := bind_some hm
      refine WL.quiet (Runs.yes rfl rfl rfl hc2) rfl rfl (oq_con (r := (.bool r2)) call126 rfl rfl (fun w' s => ⟨_, (ref12_inner_con (b2.toNat : Int)  w' H s.hold hG r2 e5)⟩)) ?_
      refine wq rfl rfl rfl (ov_pick_true rfl (guard_eq rfl hc2) rfl) ?_
      exact WL.nil ⟨Sub.cons' rfl (congrArg Value.bool (Option.some.inj hm)) (Sub.dropn 5 rfl), fun _ s => s⟩
     replace hm := ite_f hc2 e3
     refine WL.idle (Idle.no rfl rfl rfl hc2) rfl rfl ?_
     refine WL.idle (Idle.no rfl rfl rfl hc2) rfl rfl ?_
     refine WL.idle (Idle.no rfl rfl rfl hc2) rfl rfl ?_
     refine WL.idle (Idle.no rfl rfl rfl hc2) rfl rfl ?_
     refine wq rfl rfl rfl (ov_pick_false rfl (guard_eq rfl hc2) rfl) ?_
     exact WL.nil ⟨Sub.cons' rfl (congrArg Value.bool (Option.some.inj hm)) (Sub.dropn 5 rfl), fun _ s => s⟩
    refine WL.nil (tn ?_)
    refine WP.cond rfl (fun hc3 => ?_) (fun hc3 => ?_)
    ·
     replace hm := ite_t hc3 hm
     refine WP.skip (tn (WP.block (WP.region ?_)))
     refine wq rfl rfl rfl (ov_move rfl rfl) ?_
     refine wq rfl rfl rfl (ov_add rfl rfl rfl) ?_
     refine wq rfl rfl rfl (ov_assign rfl rfl) ?_
     refine WL.nil (bn (tn ?_))
     exact ⟨(IntKind.wrap .i64 (i1 + 1)), (Sub.all rfl), fun w' s => s, hm⟩
    replace hm := ite_f hc3 hm
    refine WP.exit (then_exit (then_exit (block_here (tn ?_))))
    exact ⟨i1, (Sub.all rfl), fun w' s => s, hm⟩
   rintro g' S' ⟨i2, hsub2, hS2, hm⟩
   refine WP.sub hsub2 (WP.weaken hS2 ?_)
   replace hm := (congrFun hk2 i2).symm.trans hm
   refine WP.seq (WP.region ?_)
   refine wq rfl rfl rfl (ov_move rfl rfl) ?_
   refine wq rfl rfl rfl (ov_move rfl rfl) ?_
   refine wq rfl rfl rfl (ov_move rfl rfl) ?_
   obtain ⟨s1, e6, hm⟩ := bind_some hm
   refine wq rfl rfl rfl (ov_slice_string_to underlying9 rfl rfl rfl e6) ?_
   obtain ⟨r3, e7, hm⟩ := bind_some hm
   refine wo rfl (oq_con (r := (.int .i64 r3)) call127 rfl rfl (fun w' s => ⟨_, (ref12_Word_con s1  w' H s.hold hG r3 e7)⟩)) ?_
   refine wq rfl rfl rfl (ov_assign rfl rfl) ?_
   refine wq rfl rfl rfl (ov_assign rfl rfl) ?_
   refine wq rfl rfl rfl (ov_assign rfl rfl) ?_
   refine WL.nil (tn (WP.ret (then_ret ?_)))
   obtain rfl := Option.some.inj hm
   refine retQ_ret results88 (Res.tmp rfl (Res.tmp rfl (Res.tmp rfl Res.nil))) rfl (fun w' s => ⟨s.below, ?_⟩)
   exact rfl
  replace hm := ite_f hc1 hm
  refine WP.skip (tn ?_)
  exact ⟨(Sub.all rfl), fun w' s => s, hm⟩
 rintro g' S' ⟨hsub3, hS3, hm⟩
 refine WP.sub hsub3 (WP.weaken hS3 ?_)
 replace hm := hk1.symm.trans hm
 obtain ⟨k3, hk3, hm⟩ := joinK_some hm
 refine WP.seq_join (fun g' S' => Sub [(0, (mkS p_s)), (1000000007, (.bool false))] g' ∧ (∀ w', S' w' → St w H [] H w') ∧ k3 = some r) ?_ ?_
 ·
  refine WP.seq (WP.region ?_)
  refine wq rfl rfl rfl (ov_move rfl rfl) ?_
  obtain ⟨b3, e8, hm⟩ := bind_some hm
  refine wq rfl rfl rfl (ov_index_string underlying9 rfl rfl rfl e8) ?_
  obtain ⟨r4, e9, hm⟩ := bind_some hm
  refine wo rfl (oq_con (r := (.bool r4)) call128 rfl rfl (fun w' s => ⟨_, (ref12_Digit_con (b3.toNat : Int)  w' H s.hold hG r4 e9)⟩)) ?_
  refine WL.nil (tn ?_)
  refine WP.cond rfl (fun hc4 => ?_) (fun hc4 => ?_)
  ·
   replace hm := ite_t hc4 hm
   obtain ⟨k4, hk4, hm⟩ := joinK_some hm
   refine WP.seq_join (fun g' S' => ∃ (i4 : Int), Sub [(0, (mkS p_s)), (5, (.int .i64 i4)), (1000000007, (.bool false))] g' ∧ (∀ w', S' w' → St w H [] H w') ∧ k4 i4 = some r) ?_ ?_
   ·
    refine WP.block ?_
    refine WP.loop (fun m2 g' S' => ∃ (i3 : Int), Sub [(0, (mkS p_s)), (5, (.int .i64 i3)), (1000000007, (.bool false))] g' ∧ (∀ w', S' w' → St w H [] H w') ∧ ref12_next_loop2 p_s k4 m2 i3 = some r) ((p_s.length + 1)) ⟨0, (Sub.all rfl), fun w' s => s, hm⟩ ?_ ?_
    ·
     rintro g' S' ⟨_, _, _, hm⟩
     exact none_some hm
    rintro m2 g' S' ⟨i3, hsub4, hS4, hm⟩
    refine WP.sub hsub4 (WP.weaken hS4 ?_)
    rw [ref12_next_loop2] at hm
    refine WP.seq (WP.seq (WP.region ?_))
    refine wq rfl rfl rfl (ov_move rfl rfl) ?_
    refine wq rfl rfl rfl (ov_move rfl rfl) ?_
    refine wq rfl rfl rfl (ov_len_string underlying9 rfl rfl) ?_
    refine wq rfl rfl rfl (ov_lss rfl rfl rfl) ?_
    refine wq rfl rfl rfl (ov_move rfl rfl) ?_
    obtain ⟨c2, e10, hm⟩ := bind_some hm
    refine WL.cut_bool 5 38 (x := c2) ?_ ?_
    ·
     rcases Bool.eq_false_or_eq_true (decide (i3 < (p_s.length : Int))) with hc5 | hc5
     ·
      replace hm := ite_t hc5 e10
      refine wy hc5 rfl (ov_move rfl rfl) ?_
      refine wy hc5 rfl (ov_move rfl rfl) ?_
      obtain ⟨b4, e11, hm⟩ := bind_some hm
      refine wy hc5 rfl (ov_index_string underlying9 rfl rfl rfl e11) ?_
      obtain ⟨r5, e12, hm⟩ := bind_some hm
      refine WL.quiet (Runs.yes rfl rfl rfl hc5) rfl rfl (oq_con (r := (.bool r5)) call128 rfl rfl (fun w' s => ⟨_, (ref12_Digit_con (b4.toNat : Int)  w' H s.hold hG r5 e12)⟩)) ?_
      refine wq rfl rfl rfl (ov_pick_true rfl (guard_eq rfl hc5) rfl) ?_
      exact WL.nil ⟨Sub.cons' rfl (congrArg Value.bool (Option.some.inj hm)) (Sub.dropn 5 rfl), fun _ s => s⟩
     replace hm := ite_f hc5 e10
     refine WL.idle (Idle.no rfl rfl rfl hc5) rfl rfl ?_
     refine WL.idle (Idle.no rfl rfl rfl hc5) rfl rfl ?_
     refine WL.idle (Idle.no rfl rfl rfl hc5) rfl rfl ?_
     refine WL.idle (Idle.no rfl rfl rfl hc5) rfl rfl ?_
     refine wq rfl rfl rfl (ov_pick_false rfl (guard_eq rfl hc5) rfl) ?_
     exact WL.nil ⟨Sub.cons' rfl (congrArg Value.bool (Option.some.inj hm)) (Sub.dropn 5 rfl), fun _ s => s⟩
    refine WL.nil (tn ?_)
    refine WP.cond rfl (fun hc6 => ?_) (fun hc6 => ?_)
    ·
     replace hm := ite_t hc6 hm
     refine WP.skip (tn (WP.block (WP.region ?_)))
     refine wq rfl rfl rfl (ov_move rfl rfl) ?_
     refine wq rfl rfl rfl (ov_add rfl rfl rfl) ?_
     refine wq rfl rfl rfl (ov_assign rfl rfl) ?_
     refine WL.nil (bn (tn ?_))
     exact ⟨(IntKind.wrap .i64 (i3 + 1)), (Sub.all rfl), fun w' s => s, hm⟩
    replace hm := ite_f hc6 hm
    refine WP.exit (then_exit (then_exit (block_here (tn ?_))))
    exact ⟨i3, (Sub.all rfl), fun w' s => s, hm⟩
   rintro g' S' ⟨i4, hsub5, hS5, hm⟩
   refine WP.sub hsub5 (WP.weaken hS5 ?_)
   replace hm := (congrFun hk4 i4).symm.trans hm
   refine WP.seq (WP.region ?_)
   refine wq rfl rfl rfl (ov_move rfl rfl) ?_
   refine wq rfl rfl rfl (ov_move rfl rfl) ?_
   refine wq rfl rfl rfl (ov_move rfl rfl) ?_
   obtain ⟨s2, e13, hm⟩ := bind_some hm
   refine wq rfl rfl rfl (ov_slice_string_to underlying9 rfl rfl rfl e13) ?_
   obtain ⟨r6, e14, hm⟩ := bind_some hm
   refine wo rfl (oq_con (r := (.int .i64 r6)) call129 rfl rfl (fun w' s => ⟨_, (ref12_Number_con s2  w' H s.hold hG r6 e14)⟩)) ?_
   refine wq rfl rfl rfl (ov_assign rfl rfl) ?_
   refine wq rfl rfl rfl (ov_assign rfl rfl) ?_
   refine wq rfl rfl rfl (ov_assign rfl rfl) ?_
   refine WL.nil (tn (WP.ret (then_ret ?_)))
   obtain rfl := Option.some.inj hm
   refine retQ_ret results88 (Res.tmp rfl (Res.tmp rfl (Res.tmp rfl Res.nil))) rfl (fun w' s => ⟨s.below, ?_⟩)
   exact rfl
  replace hm := ite_f hc4 hm
  refine WP.skip (tn ?_)
  exact ⟨(Sub.all rfl), fun w' s => s, hm⟩
 rintro g' S' ⟨hsub6, hS6, hm⟩
 refine WP.sub hsub6 (WP.weaken hS6 ?_)
 replace hm := hk3.symm.trans hm
 refine WP.seq (WP.seq (WP.region ?_))
 refine wq rfl rfl rfl (ov_move rfl rfl) ?_
 obtain ⟨b5, e15, hm⟩ := bind_some hm
 refine wq rfl rfl rfl (ov_index_string underlying9 rfl rfl rfl e15) ?_
 obtain ⟨r7, e16, hm⟩ := bind_some hm
 refine wo rfl (oq_con (r := (.bool r7)) call130 rfl rfl (fun w' s => ⟨_, (ref12_Sign_con (b5.toNat : Int)  w' H s.hold hG r7 e16)⟩)) ?_
 refine WL.nil (tn ?_)
 refine WP.cond rfl (fun hc7 => ?_) (fun hc7 => ?_)
 ·
  replace hm := ite_t hc7 hm
  refine WP.seq (WP.region ?_)
  refine wq rfl rfl rfl (ov_assign rfl rfl) ?_
  refine wq rfl rfl rfl (ov_assign rfl rfl) ?_
  refine wq rfl rfl rfl (ov_assign rfl rfl) ?_
  refine WL.nil (tn (WP.ret (then_ret ?_)))
  obtain rfl := Option.some.inj hm
  refine retQ_ret results88 (Res.tmp rfl (Res.tmp rfl (Res.tmp rfl Res.nil))) rfl (fun w' s => ⟨s.below, ?_⟩)
  exact rfl
 replace hm := ite_f hc7 hm
 refine WP.skip (tn (WP.seq (WP.region ?_)))
 refine wq rfl rfl rfl (ov_assign rfl rfl) ?_
 refine wq rfl rfl rfl (ov_assign rfl rfl) ?_
 refine wq rfl rfl rfl (ov_assign rfl rfl) ?_
 refine WL.nil (tn (WP.ret ?_))
 obtain rfl := Option.some.inj hm
 refine retQ_ret results88 (Res.tmp rfl (Res.tmp rfl (Res.tmp rfl Res.nil))) rfl (fun w' s => ⟨s.below, ?_⟩)
 exact rfl
theorem ref12_Scan_con (p_text : (List UInt8)) (w : World) (H : Heap) (hH : Le H (hp w)) (hG : Glob H) (r : ((List Token) × Int × Int)) (hm : ref12_Scan p_text = some r) :
  Con prog 47 [(mkS p_text)] w H (fun v H' => ∃ (ao1 : Option Addr) (cap1 : Nat), v = (.tuple #[(.slice ao1 r.1.length cap1), (.int .i64 r.2.1), (.int .i64 r.2.2)]) ∧ SL H' encToken ao1 r.1 ∧ r.1.length ≤ cap1) := by
 unfold ref12_Scan at hm
 refine con_of hH func47 rfl 62 ntmps47 rfl ?_
 refine WP.seq (WP.region ?_)
 refine wq rfl rfl rfl (ov_assign rfl rfl) ?_
 refine wq rfl rfl rfl (ov_assign rfl rfl) ?_
 refine wq rfl rfl rfl (ov_assign rfl rfl) ?_
 refine WL.nil (tn (WP.seq (WP.seq (WP.region ?_))))
 refine wq rfl rfl rfl (ov_move rfl rfl) ?_
 refine wq rfl rfl rfl (ov_len_string underlying9 rfl rfl) ?_
 refine wq rfl rfl rfl (ov_gtr rfl rfl rfl) ?_
 refine WL.nil (tn ?_)
 refine WP.cond rfl (fun hc2 => ?_) (fun hc2 => ?_)
 ·
  replace hm := ite_t hc2 hm
  refine WP.seq (WP.region ?_)
  refine wq rfl rfl rfl (ov_assign rfl rfl) ?_
  refine wq rfl rfl rfl (ov_assign rfl rfl) ?_
  refine wq rfl rfl rfl (ov_assign rfl rfl) ?_
  refine WL.nil (tn (WP.ret (then_ret ?_)))
  obtain rfl := Option.some.inj hm
  refine retQ_ret results47 (Res.tmp rfl (Res.tmp rfl (Res.tmp rfl Res.nil))) rfl (fun w' s => ⟨s.below, ?_⟩)
  exact ⟨none, 0, rfl, SL.nil _ _ _, Nat.le_refl _⟩
 replace hm := ite_f hc2 hm
 refine WP.skip (tn (WP.seq (WP.region ?_)))
 refine wq rfl rfl rfl (ov_assign rfl rfl) ?_
 refine WL.nil (tn (WP.seq (WP.region ?_)))
 refine wq rfl rfl rfl (ov_assign rfl rfl) ?_
 refine WL.nil (tn ?_)
 obtain ⟨k1, hk1, hm⟩ := joinK_some hm
 refine WP.seq_join (fun g' S' => ∃ (l3 : (List Token)) (ao4 : Option Addr) (cap4 : Nat) (xs2 : List Value), RL H encToken l3 xs2 ∧ Sub [(0, (mkS p_text)), (5, (.slice ao4 l3.length cap4)), (1000000007, (.bool false))] g' ∧ (∀ w', S' w' → St w H [.row 89 (encToken).size l3.length (.slice ao4 l3.length cap4) xs2] H w') ∧ k1 l3 = some r) ?_ ?_
 ·
  refine WP.block ?_
  have rl1 := RL.nil (α := Token) H encToken
  refine WP.weaken (fun _ s => s.nilrow 89 (encToken).size) ?_
  refine WP.loop (fun m1 g' S' => ∃ (i1 : Int) (l1 : (List Token)) (ao2 : Option Addr) (cap2 : Nat) (xs1 : List Value), RL H encToken l1 xs1 ∧ Sub [(0, (mkS p_text)), (5, (.slice ao2 l1.length cap2)), (6, (.int .i64 i1)), (1000000007, (.bool false))] g' ∧ (∀ w', S' w' → St w H [.row 89 (encToken).size l1.length (.slice ao2 l1.length cap2) xs1] H w') ∧ ref12_Scan_loop1 p_text k1 m1 i1 l1 = some r) ((Int.toNat ((p_text.length : Int) - 0) + 1)) ⟨0, ([] : List Token), none, 0, [], rl1, (Sub.all rfl), fun w' s => s, hm⟩ ?_ ?_
  ·
   rintro g' S' ⟨_, _, _, _, _, _, _, _, hm⟩
   exact none_some hm
  rintro m1 g' S' ⟨i1, l1, ao2, cap2, xs1, rl2, hsub1, hS1, hm⟩
  refine WP.sub hsub1 (WP.weaken hS1 ?_)
  rw [ref12_Scan_loop1] at hm
  refine WP.seq (WP.seq (WP.region ?_))
  refine wq rfl rfl rfl (ov_move rfl rfl) ?_
  refine wq rfl rfl rfl (ov_move rfl rfl) ?_
  refine wq rfl rfl rfl (ov_len_string underlying9 rfl rfl) ?_
  refine wq rfl rfl rfl (ov_lss rfl rfl rfl) ?_
  refine WL.nil (tn ?_)
  refine WP.cond rfl (fun hc3 => ?_) (fun hc3 => ?_)
  ·
   replace hm := ite_t hc3 hm
   refine WP.skip (tn (WP.block (WP.seq (WP.seq (WP.region ?_)))))
   refine wq rfl rfl rfl (ov_move rfl rfl) ?_
   refine wq rfl rfl rfl (ov_move rfl rfl) ?_
   obtain ⟨b1, e1, hm⟩ := bind_some hm
   refine wq rfl rfl rfl (ov_index_string underlying9 rfl rfl rfl e1) ?_
   refine wq rfl rfl rfl (ov_eql rfl rfl rfl) ?_
   refine wq rfl rfl rfl (ov_move rfl rfl) ?_
   obtain ⟨c1, e2, hm⟩ := bind_some hm
   refine WL.cut_bool 5 26 (x := c1) ?_ ?_
   ·
    rcases Bool.eq_false_or_eq_true ((b1.toNat : Int) == 32) with hc4 | hc4
    ·
     replace hm := ite_t hc4 e2
     refine WL.idle (Idle.no rfl rfl rfl hc4) rfl rfl ?_
     refine WL.idle (Idle.no rfl rfl rfl hc4) rfl rfl ?_
     refine WL.idle (Idle.no rfl rfl rfl hc4) rfl rfl ?_
     refine WL.idle (Idle.no rfl rfl rfl hc4) rfl rfl ?_
     refine wq rfl rfl rfl (ov_pick_true rfl (guard_eq rfl hc4) rfl) ?_
     exact WL.nil ⟨Sub.cons' rfl (congrArg Value.bool (Option.some.inj hm)) (Sub.dropn 5 rfl), fun _ s => s⟩
    replace hm := ite_f hc4 e2
    refine wy hc4 rfl (ov_move rfl rfl) ?_
    refine wy hc4 rfl (ov_move rfl rfl) ?_
    obtain ⟨b2, e3, hm⟩ := bind_some hm
    refine wy hc4 rfl (ov_index_string underlying9 rfl rfl rfl e3) ?_
    refine wy hc4 rfl (ov_eql rfl rfl rfl) ?_
    refine wq rfl rfl rfl (ov_pick_false rfl (guard_eq rfl hc4) rfl) ?_
    exact WL.nil ⟨Sub.cons' rfl (congrArg Value.bool (Option.some.inj hm)) (Sub.dropn 5 rfl), fun _ s => s⟩
   refine WL.nil (tn ?_)
   refine WP.cond rfl (fun hc5 => ?_) (fun hc5 => ?_)
   ·
    replace hm := ite_t hc5 hm
    refine WP.seq (WP.region ?_)
    refine wq rfl rfl rfl (ov_move rfl rfl) ?_
    refine wq rfl rfl rfl (ov_add rfl rfl rfl) ?_
    refine wq rfl rfl rfl (ov_assign rfl rfl) ?_
    refine WL.nil (tn (WP.exit (then_exit (block_here (tn ?_)))))
    exact ⟨(IntKind.wrap .i64 (i1 + 1)), l1, ao2, cap2, xs1, rl2, (Sub.all rfl), fun w' s => s, hm⟩
   replace hm := ite_f hc5 hm
   refine WP.skip (tn (WP.seq (WP.region ?_)))
   refine wq rfl rfl rfl (ov_move rfl rfl) ?_
   refine wq rfl rfl rfl (ov_move rfl rfl) ?_
   obtain ⟨s1, e4, hm⟩ := bind_some hm
   refine wq rfl rfl rfl (ov_slice_string_from underlying9 rfl rfl rfl e4) ?_
   obtain ⟨r1, e5, hm⟩ := bind_some hm
   refine wo rfl (oq_con (r := (.tuple #[(.int .i64 r1.1), (.int .i64 r1.2.1), (.int .i64 r1.2.2)])) call88 rfl rfl (fun w' s => ⟨_, (ref12_next_con s1  w' H s.hold hG r1 e5)⟩)) ?_
   refine wq rfl rfl rfl (ov_move rfl rfl) ?_
   refine wq rfl rfl rfl (ov_extract rfl rfl rfl) ?_
   refine wq rfl rfl rfl (ov_extract rfl rfl rfl) ?_
   refine wq rfl rfl rfl (ov_extract rfl rfl rfl) ?_
   refine wq rfl rfl rfl (ov_assign rfl rfl) ?_
   refine wq rfl rfl rfl (ov_assign rfl rfl) ?_
   refine wq rfl rfl rfl (ov_assign rfl rfl) ?_
   refine WL.nil (tn (WP.seq (WP.seq (WP.region ?_))))
   refine wq rfl rfl rfl (ov_move rfl rfl) ?_
   refine wq rfl rfl rfl (ov_neq rfl rfl rfl) ?_
   refine WL.nil (tn ?_)
   refine WP.cond rfl (fun hc6 => ?_) (fun hc6 => ?_)
   ·
    replace hm := ite_t hc6 hm
    refine WP.seq (WP.region ?_)
    refine wq rfl rfl rfl (ov_move rfl rfl) ?_
    refine wq rfl rfl rfl (ov_move rfl rfl) ?_
    refine wq rfl rfl rfl (ov_assign rfl rfl) ?_
    refine wq rfl rfl rfl (ov_assign rfl rfl) ?_
    refine wq rfl rfl rfl (ov_assign rfl rfl) ?_
    refine WL.nil (tn (WP.ret (then_ret (block_ret (then_ret (block_ret (then_ret ?_)))))))
    obtain rfl := Option.some.inj hm
    refine retQ_ret results47 (Res.tmp rfl (Res.tmp rfl (Res.tmp rfl Res.nil))) rfl (fun w' s => ⟨s.below, ?_⟩)
    exact ⟨none, 0, rfl, SL.nil _ _ _, Nat.le_refl _⟩
   replace hm := ite_f hc6 hm
   refine WP.skip (tn (WP.seq (WP.region ?_)))
   refine wq rfl rfl rfl (ov_move rfl rfl) ?_
   refine wq rfl rfl rfl (ov_move rfl rfl) ?_
   refine wq rfl rfl rfl (ov_move rfl rfl) ?_
   refine wq rfl rfl rfl (ov_move rfl rfl) ?_
   refine wq rfl rfl rfl (ov_move rfl rfl) ?_
   refine wq rfl rfl rfl (ov_move rfl rfl) ?_
   refine wq rfl rfl rfl (ov_add rfl rfl rfl) ?_
   obtain ⟨s2, e6, hm⟩ := bind_some hm
   refine wq rfl rfl rfl (ov_slice_string underlying9 rfl rfl rfl rfl e6) ?_
   refine wq rfl rfl rfl (ov_move rfl rfl) ?_
   refine wq rfl rfl rfl (ov_build (r := (.agg #[(.int .i64 r1.1), (mkS s2), (.int .i64 i1)])) rfl rfl (fun _ => by kernel_rfl)) ?_
   have rl3 : RL H encToken ([(Token.mk r1.1 s2 i1)] : List Token) [(.int .i64 r1.1), (mkS s2), (.int .i64 i1)] := RL.cons (cs := [(.int .i64 r1.1), (mkS s2), (.int .i64 i1)]) (xs := []) rfl (RL.nil _ _)
   refine ws rfl (os_buildSlice (cs := [(.int .i64 r1.1), (mkS s2), (.int .i64 i1)]) (E := 89) (sz := 3) rfl rfl (fun _ => by kernel_rfl) rfl (by decide) (fun b3 => ?_))
   obtain ⟨l2, e7, hm⟩ := bind_some hm
   refine ws rfl (os_app (i := 1) (j := 0) (En := encToken) (xs := xs1) (ys := [(.int .i64 r1.1), (mkS s2), (.int .i64 i1)]) underlying81 (by kernel_rfl : (prog.info? 89).map (fun i => (i.zero, i.size, i.bytes)) = some (some (.agg #[(.int .i64 0), (mkS []), (.int .i64 0)]), (encToken).size, 32)) rfl (by decide) rfl rfl rfl rfl rfl rfl rl2 rl3 e7 (fun ao3 cap3 rl4 => ?_))
   refine wq rfl rfl rfl (ov_assign rfl rfl) ?_
   refine WL.nil (tn (WP.region ?_))
   refine wq rfl rfl rfl (ov_move rfl rfl) ?_
   refine wq rfl rfl rfl (ov_move rfl rfl) ?_
   refine wq rfl rfl rfl (ov_add rfl rfl rfl) ?_
   refine wq rfl rfl rfl (ov_assign rfl rfl) ?_
   refine WL.nil (bn (tn ?_))
   exact ⟨(IntKind.wrap .i64 (i1 + r1.2.1)), (l1 ++ ([(Token.mk r1.1 s2 i1)] : List Token)), ao3, cap3, (xs1 ++ [(.int .i64 r1.1), (mkS s2), (.int .i64 i1)]), rl4, (Sub.all rfl), fun w' s => (s.select [1] (by decide) rfl), hm⟩
  replace hm := ite_f hc3 hm
  refine WP.exit (then_exit (then_exit (block_here (tn ?_))))
  exact ⟨l1, ao2, cap2, xs1, rl2, (Sub.all rfl), fun w' s => s, hm⟩
 rintro g' S' ⟨l3, ao4, cap4, xs2, rl5, hsub2, hS2, hm⟩
 refine WP.sub hsub2 (WP.weaken hS2 ?_)
 replace hm := (congrFun hk1 l3).symm.trans hm
 refine WP.seq (WP.region ?_)
 refine wq rfl rfl rfl (ov_move rfl rfl) ?_
 refine wq rfl rfl rfl (ov_move rfl rfl) ?_
 refine wq rfl rfl rfl (ov_len_string underlying9 rfl rfl) ?_
 refine wq rfl rfl rfl (ov_build (r := (.agg #[(.int .i64 3), (mkS []), (.int .i64 (p_text.length : Int))])) rfl rfl (fun _ => by kernel_rfl)) ?_
 have rl6 : RL H encToken ([(Token.mk 3 [] (p_text.length : Int))] : List Token) [(.int .i64 3), (mkS []), (.int .i64 (p_text.length : Int))] := RL.cons (cs := [(.int .i64 3), (mkS []), (.int .i64 (p_text.length : Int))]) (xs := []) rfl (RL.nil _ _)
 refine ws rfl (os_buildSlice (cs := [(.int .i64 3), (mkS []), (.int .i64 (p_text.length : Int))]) (E := 89) (sz := 3) rfl rfl (fun _ => by kernel_rfl) rfl (by decide) (fun b4 => ?_))
 obtain ⟨l4, e8, hm⟩ := bind_some hm
 refine ws rfl (os_app (i := 1) (j := 0) (En := encToken) (xs := xs2) (ys := [(.int .i64 3), (mkS []), (.int .i64 (p_text.length : Int))]) underlying81 (by kernel_rfl : (prog.info? 89).map (fun i => (i.zero, i.size, i.bytes)) = some (some (.agg #[(.int .i64 0), (mkS []), (.int .i64 0)]), (encToken).size, 32)) rfl (by decide) rfl rfl rfl rfl rfl rfl rl5 rl6 e8 (fun ao5 cap5 rl7 => ?_))
 refine wq rfl rfl rfl (ov_assign rfl rfl) ?_
 refine wq rfl rfl rfl (ov_assign rfl rfl) ?_
 refine wq rfl rfl rfl (ov_assign rfl rfl) ?_
 refine WL.nil (tn (WP.ret ?_))
 obtain rfl := Option.some.inj hm
 refine retQ_ret results47 (Res.tmp rfl (Res.tmp rfl (Res.tmp rfl Res.nil))) rfl (fun w' s => ⟨s.below, ?_⟩)
 obtain ⟨h2, hc7⟩ := s.ret_row (i := 1) rfl rl7
 exact ⟨ao5, cap5, rfl, h2, hc7⟩
theorem ref15_Reader_is_con (p_r : RefRdr) (p_kind : Int) (p_text : (List UInt8)) (bp1 : Nat) (ao1 : Option Addr) (cap1 : Nat) (w0 : World) (H0 : Heap) (tl : List Ent) (H : Heap) (h1 : SL H encToken ao1 p_r.tokens) (hc1 : p_r.tokens.length ≤ cap1) (hG : Glob H) (r : (Bool × Int × Bool)) (hm : ref15_Reader_is p_r p_kind p_text = some r) :
  BCon prog 89 [(pB bp1 0), (.int .i64 p_kind), (mkS p_text)] w0 H0 (.blk bp1 95 [(.slice ao1 p_r.tokens.length cap1), (.int .i64 p_r.at_), (.bool p_r.bad)] :: tl) H (fun v _ ms' => v = (.bool r.1) ∧ ms' = (.blk bp1 95 [(.slice ao1 p_r.tokens.length cap1), (.int .i64 r.2.1), (.bool r.2.2)] :: tl)) := by
 unfold ref15_Reader_is at hm
 refine bcon_of func89 rfl 49 ntmps89 rfl ?_
 refine WP.seq (WP.region ?_)
 refine wq rfl rfl rfl (ov_assign rfl rfl) ?_
 refine WL.nil (tn (WP.seq ?_))
 refine WP.region_any (S₀ := St w0 H0 (.blk bp1 95 [(.slice ao1 p_r.tokens.length cap1), (.int .i64 p_r.at_), (.bool p_r.bad)] :: tl) H) 12 rfl (by kernel_rfl) (fun w' s => s) (fun _ s => s.drew) ?_
 refine tq (i := 0) rfl (by kernel_rfl) rfl rfl rfl (ov_move rfl rfl) ?_
 refine tq (i := 1) rfl (by kernel_rfl) rfl rfl rfl (ov_nilCheckB rfl rfl) ?_
 refine tq (i := 2) rfl (by kernel_rfl) rfl rfl rfl (ov_fieldAddr underlying95 rfl rfl rfl sizeOf81 rfl rfl) ?_
 refine tq (i := 3) rfl (by kernel_rfl) rfl rfl rfl (ov_load_box (i := 0) isAgg81 rfl rfl rfl rfl) ?_
 refine tq (i := 4) rfl (by kernel_rfl) rfl rfl rfl (ov_move rfl rfl) ?_
 refine tq (i := 5) rfl (by kernel_rfl) rfl rfl rfl (ov_nilCheckB rfl rfl) ?_
 refine tq (i := 6) rfl (by kernel_rfl) rfl rfl rfl (ov_fieldAddr underlying95 rfl rfl rfl sizeOf3 rfl rfl) ?_
 refine tq (i := 7) rfl (by kernel_rfl) rfl rfl rfl (ov_load_box (i := 0) isAgg3 rfl rfl rfl rfl) ?_
 obtain ⟨x1, e1, hm⟩ := bind_some hm
 obtain ⟨h2, h3, h4, cs1, h5, h6⟩ := h1.get e1 (by decide)
 obtain rfl : cs1 = [(.int .i64 x1.kind), (mkS x1.text), (.int .i64 x1.at_)] := h5
 refine tq (i := 8) rfl (by kernel_rfl) rfl rfl rfl (ov_indexAddr underlying81 sizeOf89 rfl rfl rfl h2 h3 h4) ?_
 refine tq (i := 9) rfl (by kernel_rfl) rfl rfl rfl (ov_load_elems (vs := [(.int .i64 x1.kind), (mkS x1.text), (.int .i64 x1.at_)]) isAgg89 sizeOf89 rfl rfl rfl h6 h4) ?_
 refine AL.any (rs := [10]) (by kernel_rfl) (by decide) ?_
 refine ALs.cons (i := 10) rfl (Runs.free rfl) rfl rfl ?_ ?_
 ·
  refine os_alloc (cs := [(.int .i64 0), (mkS []), (.int .i64 0)]) zeroValue89 rfl rfl (fun b1 => ?_)
  refine ⟨fun w' s => (s.selectT 2 [1] (by decide) rfl rfl), ?_⟩
  refine AL.any (rs := [11]) (by kernel_rfl) (by decide) ?_
  refine ALs.cons0 (i := 11) rfl (Runs.free rfl) rfl ?_ ?_
  ·
   refine os_store (i := 0) (vs := [(.int .i64 x1.kind), (mkS x1.text), (.int .i64 x1.at_)]) (cs' := [(.int .i64 x1.kind), (mkS x1.text), (.int .i64 x1.at_)]) sizeOf89 rfl rfl rfl rfl rfl rfl rfl rfl rfl ?_
   refine ⟨fun w' s => (s.selectT 2 [1] (by decide) rfl rfl), ?_⟩
   refine AL.done (by kernel_rfl) ?_
   refine tn (WP.seq (WP.seq (WP.region ?_)))
   refine wq rfl rfl rfl (ov_move rfl rfl) ?_
   refine wq rfl rfl rfl (ov_nilCheckB rfl rfl) ?_
   refine wq rfl rfl rfl (ov_fieldAddr underlying95 rfl rfl rfl sizeOf4 rfl rfl) ?_
   refine wq rfl rfl rfl (ov_load_box (i := 1) isAgg4 rfl rfl rfl rfl) ?_
   refine wq rfl rfl rfl (ov_move rfl rfl) ?_
   refine WL.cut_bool 5 27 (x := (p_r.bad || (x1.kind != p_kind))) ?_ ?_
   ·
    rcases Bool.eq_false_or_eq_true p_r.bad with hc2 | hc2
    ·
     refine WL.idle (Idle.no rfl rfl rfl hc2) rfl rfl ?_
     refine WL.idle (Idle.no rfl rfl rfl hc2) rfl rfl ?_
     refine WL.idle (Idle.no rfl rfl rfl hc2) rfl rfl ?_
     refine WL.idle (Idle.no rfl rfl rfl hc2) rfl rfl ?_
     refine wq rfl rfl rfl (ov_pick_true rfl (guard_eq rfl hc2) rfl) ?_
     exact WL.nil ⟨Sub.cons' rfl (congrArg Value.bool (orT hc2)) (Sub.dropn 5 rfl), fun _ s => s⟩
    refine wy hc2 rfl (ov_fieldAddr underlying89 rfl rfl rfl sizeOf3 rfl rfl) ?_
    refine wy hc2 rfl (ov_load_box (i := 0) isAgg3 rfl rfl rfl rfl) ?_
    refine wy hc2 rfl (ov_move rfl rfl) ?_
    refine wy hc2 rfl (ov_neq rfl rfl rfl) ?_
    refine wq rfl rfl rfl (ov_pick_false rfl (guard_eq rfl hc2) rfl) ?_
    exact WL.nil ⟨Sub.cons' rfl (congrArg Value.bool (orF hc2)) (Sub.dropn 5 rfl), fun _ s => s⟩
   refine wq rfl rfl rfl (ov_move rfl rfl) ?_
   refine WL.cut_bool 3 31 (x := ((p_r.bad || (x1.kind != p_kind)) || (p_kind == 3))) ?_ ?_
   ·
    rcases Bool.eq_false_or_eq_true (p_r.bad || (x1.kind != p_kind)) with hc3 | hc3
    ·
     refine WL.idle (Idle.no rfl rfl rfl hc3) rfl rfl ?_
     refine WL.idle (Idle.no rfl rfl rfl hc3) rfl rfl ?_
     refine wq rfl rfl rfl (ov_pick_true rfl (guard_eq rfl hc3) rfl) ?_
     exact WL.nil ⟨Sub.cons' rfl (congrArg Value.bool (orT hc3)) (Sub.dropn 3 rfl), fun _ s => s⟩
    refine wy hc3 rfl (ov_move rfl rfl) ?_
    refine wy hc3 rfl (ov_eql rfl rfl rfl) ?_
    refine wq rfl rfl rfl (ov_pick_false rfl (guard_eq rfl hc3) rfl) ?_
    exact WL.nil ⟨Sub.cons' rfl (congrArg Value.bool (orF hc3)) (Sub.dropn 3 rfl), fun _ s => s⟩
   refine wq rfl rfl rfl (ov_move rfl rfl) ?_
   refine WL.cut_bool 9 41 (x := (((p_r.bad || (x1.kind != p_kind)) || (p_kind == 3)) || ((!(p_text == [])) && (!(x1.text == p_text))))) ?_ ?_
   ·
    rcases Bool.eq_false_or_eq_true ((p_r.bad || (x1.kind != p_kind)) || (p_kind == 3)) with hc4 | hc4
    ·
     refine WL.idle (Idle.no rfl rfl rfl hc4) rfl rfl ?_
     refine WL.idle (Idle.no rfl rfl rfl hc4) rfl rfl ?_
     refine WL.idle (Idle.no rfl rfl rfl hc4) rfl rfl ?_
     refine WL.idle (Idle.undef rfl rfl rfl) rfl rfl ?_
     refine WL.idle (Idle.undef rfl rfl rfl) rfl rfl ?_
     refine WL.idle (Idle.undef rfl rfl rfl) rfl rfl ?_
     refine WL.idle (Idle.undef rfl rfl rfl) rfl rfl ?_
     refine WL.idle (Idle.no rfl rfl rfl hc4) rfl rfl ?_
     refine wq rfl rfl rfl (ov_pick_true rfl (guard_eq rfl hc4) rfl) ?_
     exact WL.nil ⟨Sub.cons' rfl (congrArg Value.bool (orT hc4)) (Sub.dropn 9 rfl), fun _ s => s⟩
    refine wy hc4 rfl (ov_move rfl rfl) ?_
    refine wy hc4 rfl (ov_sneq rfl rfl rfl) ?_
    refine wy hc4 rfl (ov_move rfl rfl) ?_
    refine WL.cut_bool 5 40 (x := ((!(p_text == [])) && (!(x1.text == p_text)))) ?_ ?_
    ·
     rcases Bool.eq_false_or_eq_true (!(p_text == [])) with hc5 | hc5
     ·
      refine wy hc5 rfl (ov_fieldAddr underlying89 rfl rfl rfl sizeOf9 rfl rfl) ?_
      refine wy hc5 rfl (ov_load_box (i := 0) isAgg9 rfl rfl rfl rfl) ?_
      refine wy hc5 rfl (ov_move rfl rfl) ?_
      refine wy hc5 rfl (ov_sneq rfl rfl rfl) ?_
      refine wy hc4 rfl (ov_pick_true rfl (guard_eq rfl hc5) rfl) ?_
      exact WL.nil ⟨Sub.cons' rfl (congrArg Value.bool (andT hc5)) (Sub.dropn 5 rfl), fun _ s => s⟩
     refine WL.idle (Idle.no rfl rfl rfl hc5) rfl rfl ?_
     refine WL.idle (Idle.no rfl rfl rfl hc5) rfl rfl ?_
     refine WL.idle (Idle.no rfl rfl rfl hc5) rfl rfl ?_
     refine WL.idle (Idle.no rfl rfl rfl hc5) rfl rfl ?_
     refine wy hc4 rfl (ov_pick_false rfl (guard_eq rfl hc5) rfl) ?_
     exact WL.nil ⟨Sub.cons' rfl (congrArg Value.bool (andF hc5)) (Sub.dropn 5 rfl), fun _ s => s⟩
    refine wq rfl rfl rfl (ov_pick_false rfl (guard_eq rfl hc4) rfl) ?_
    exact WL.nil ⟨Sub.cons' rfl (congrArg Value.bool (orF hc4)) (Sub.dropn 5 rfl), fun _ s => s⟩
   refine WL.nil (tn ?_)
   refine WP.cond rfl (fun hc6 => ?_) (fun hc6 => ?_)
   ·
    replace hm := ite_t hc6 hm
    refine WP.seq (WP.region ?_)
    refine wq rfl rfl rfl (ov_assign rfl rfl) ?_
    refine WL.nil (tn (WP.ret (then_ret ?_)))
    obtain rfl := Option.some.inj hm
    refine retQ_ret results89 (Res.tmp rfl Res.nil) rfl (fun w' s => ?_)
    exact ⟨H, _, (Le.refl _), ⟨rfl, rfl⟩, (s.selectT 2 [1] (by decide) rfl rfl)⟩
   replace hm := ite_f hc6 hm
   refine WP.skip (tn (WP.seq (WP.region ?_)))
   refine wq rfl rfl rfl (ov_move rfl rfl) ?_
   refine wq rfl rfl rfl (ov_nilCheckB rfl rfl) ?_
   refine wq rfl rfl rfl (ov_fieldAddr underlying95 rfl rfl rfl sizeOf3 rfl rfl) ?_
   refine wq rfl rfl rfl (ov_load_box (i := 1) isAgg3 rfl rfl rfl rfl) ?_
   refine wq rfl rfl rfl (ov_add rfl rfl rfl) ?_
   refine wq rfl rfl rfl (ov_nilCheckB rfl rfl) ?_
   refine wq rfl rfl rfl (ov_fieldAddr underlying95 rfl rfl rfl sizeOf3 rfl rfl) ?_
   refine ws0 rfl (os_store (i := 1) (vs := [(.int .i64 (IntKind.wrap .i64 (p_r.at_ + 1)))]) (cs' := [(.slice ao1 p_r.tokens.length cap1), (.int .i64 (IntKind.wrap .i64 (p_r.at_ + 1))), (.bool p_r.bad)]) sizeOf3 rfl rfl rfl rfl rfl rfl rfl rfl rfl ?_)
   refine WL.nil (tn (WP.seq (WP.region ?_)))
   refine wq rfl rfl rfl (ov_assign rfl rfl) ?_
   refine WL.nil (tn (WP.ret ?_))
   obtain rfl := Option.some.inj hm
   refine retQ_ret results89 (Res.tmp rfl Res.nil) rfl (fun w' s => ?_)
   exact ⟨H, _, (Le.refl _), ⟨rfl, rfl⟩, (s.selectT 2 [1] (by decide) rfl rfl)⟩
  exact ALs.nil
 exact ALs.nil
theorem ref15_Reader_want_con (p_r : RefRdr) (p_kind : Int) (p_text : (List UInt8)) (bp1 : Nat) (ao1 : Option Addr) (cap1 : Nat) (w0 : World) (H0 : Heap) (tl : List Ent) (H : Heap) (h1 : SL H encToken ao1 p_r.tokens) (hc1 : p_r.tokens.length ≤ cap1) (hG : Glob H) (r : ((List UInt8) × Int × Bool)) (hm : ref15_Reader_want p_r p_kind p_text = some r) :
  BCon prog 90 [(pB bp1 0), (.int .i64 p_kind), (mkS p_text)] w0 H0 (.blk bp1 95 [(.slice ao1 p_r.tokens.length cap1), (.int .i64 p_r.at_), (.bool p_r.bad)] :: tl) H (fun v _ ms' => v = (mkS r.1) ∧ ms' = (.blk bp1 95 [(.slice ao1 p_r.tokens.length cap1), (.int .i64 r.2.1), (.bool r.2.2)] :: tl)) := by
 unfold ref15_Reader_want at hm
 refine bcon_of func90 rfl 28 ntmps90 rfl ?_
 refine WP.seq (WP.region ?_)
 refine wq rfl rfl rfl (ov_assign rfl rfl) ?_
 refine WL.nil (tn (WP.seq ?_))
 refine WP.region_draws (by kernel_rfl) (by kernel_rfl) (fun _ s => s.drew) ?_
 refine qf rfl (ov_move rfl rfl) ?_
 refine qf rfl (ov_nilCheckB rfl rfl) ?_
 refine qf rfl (ov_fieldAddr underlying95 rfl rfl rfl sizeOf81 rfl rfl) ?_
 refine qf rfl (ov_load_box (i := 0) isAgg81 rfl rfl rfl rfl) ?_
 refine qf rfl (ov_move rfl rfl) ?_
 refine qf rfl (ov_nilCheckB rfl rfl) ?_
 refine qf rfl (ov_fieldAddr underlying95 rfl rfl rfl sizeOf3 rfl rfl) ?_
 refine qf rfl (ov_load_box (i := 0) isAgg3 rfl rfl rfl rfl) ?_
 obtain ⟨x1, e1, hm⟩ := bind_some hm
 obtain ⟨h2, h3, h4, cs1, h5, h6⟩ := h1.get e1 (by decide)
 obtain rfl : cs1 = [(.int .i64 x1.kind), (mkS x1.text), (.int .i64 x1.at_)] := h5
 refine qf rfl (ov_indexAddr underlying81 sizeOf89 rfl rfl rfl h2 h3 h4) ?_
 refine qf rfl (ov_fieldAddrE underlying89 rfl rfl rfl sizeOf9 rfl rfl) ?_
 refine qf rfl (ov_load_elem (v := (mkS x1.text)) isAgg9 rfl rfl (h6.one (off := 1) rfl)) ?_
 refine qf rfl (ov_assign rfl rfl) ?_
 refine QL.nil ?_
 refine tn (WP.seq (WP.seq (WP.region ?_)))
 refine wq rfl rfl rfl (ov_move rfl rfl) ?_
 refine wq rfl rfl rfl (ov_move rfl rfl) ?_
 refine wq rfl rfl rfl (ov_move rfl rfl) ?_
 obtain ⟨r1, e2, hm⟩ := bind_some hm
 refine ws rfl (os_bcon call89 rfl rfl (ref15_Reader_is_con p_r p_kind p_text bp1 ao1 cap1 w0 H0 (tl) H h1 hc1 hG r1 e2) (fun rr1 H1 ms1 hle1 hR1 => ?_))
 obtain ⟨rfl, rfl⟩ := hR1
 refine wq rfl rfl rfl (ov_not rfl rfl) ?_
 refine WL.nil (tn ?_)
 refine WP.cond rfl (fun hc2 => ?_) (fun hc2 => ?_)
 ·
  replace hm := ite_t hc2 hm
  refine WP.seq (WP.region ?_)
  refine wq rfl rfl rfl (ov_move rfl rfl) ?_
  refine wq rfl rfl rfl (ov_nilCheckB rfl rfl) ?_
  refine wq rfl rfl rfl (ov_fieldAddr underlying95 rfl rfl rfl sizeOf4 rfl rfl) ?_
  refine ws0 rfl (os_store (i := 0) (vs := [(.bool true)]) (cs' := [(.slice ao1 p_r.tokens.length cap1), (.int .i64 r1.2.1), (.bool true)]) sizeOf4 rfl rfl rfl rfl rfl rfl rfl rfl rfl ?_)
  refine WL.nil (tn (WP.seq (WP.region ?_)))
  refine wq rfl rfl rfl (ov_assign rfl rfl) ?_
  refine WL.nil (tn (WP.ret (then_ret ?_)))
  obtain rfl := Option.some.inj hm
  refine retQ_ret results90 (Res.tmp rfl Res.nil) rfl (fun w' s => ?_)
  exact ⟨H1, _, hle1, ⟨rfl, rfl⟩, s⟩
 replace hm := ite_f hc2 hm
 refine WP.skip (tn (WP.seq (WP.region ?_)))
 refine wq rfl rfl rfl (ov_move rfl rfl) ?_
 refine wq rfl rfl rfl (ov_assign rfl rfl) ?_
 refine WL.nil (tn (WP.ret ?_))
 obtain rfl := Option.some.inj hm
 refine retQ_ret results90 (Res.tmp rfl Res.nil) rfl (fun w' s => ?_)
 exact ⟨H1, _, hle1, ⟨rfl, rfl⟩, s⟩
theorem ref12_Worth_con (p_s : (List UInt8)) (w : World) (H : Heap) (hH : Le H (hp w)) (hG : Glob H) (r : Int) (hm : ref12_Worth p_s = some r) :
  Con prog 91 [(mkS p_s)] w H (fun v _ => v = (.int .i64 r)) := by
 unfold ref12_Worth at hm
 refine con_of hH func91 rfl 20 ntmps91 rfl ?_
 refine WP.seq (WP.region ?_)
 refine wq rfl rfl rfl (ov_assign rfl rfl) ?_
 refine WL.nil (tn (WP.seq (WP.region ?_)))
 refine wq rfl rfl rfl (ov_assign rfl rfl) ?_
 refine WL.nil (tn ?_)
 obtain ⟨k1, hk1, hm⟩ := joinK_some hm
 refine WP.seq_join (fun g' S' => ∃ (i3 : Int), Sub [(3, (.int .i64 i3)), (1000000007, (.bool false))] g' ∧ (∀ w', S' w' → St w H [] H w') ∧ k1 i3 = some r) ?_ ?_
 ·
  refine WP.seq (WP.region ?_)
  refine wq rfl rfl rfl (ov_assign rfl rfl) ?_
  refine WL.nil (tn (WP.block ?_))
  refine WP.loop (fun m1 g' S' => ∃ (i1 : Int) (i2 : Int), Sub [(0, (mkS p_s)), (3, (.int .i64 i1)), (4, (.int .i64 i2)), (1000000007, (.bool false))] g' ∧ (∀ w', S' w' → St w H [] H w') ∧ ref12_Worth_loop1 p_s k1 m1 i1 i2 = some r) ((Int.toNat ((p_s.length : Int) - 0) + 1)) ⟨0, 0, (Sub.all rfl), fun w' s => s, hm⟩ ?_ ?_
  ·
   rintro g' S' ⟨_, _, _, _, hm⟩
   exact none_some hm
  rintro m1 g' S' ⟨i1, i2, hsub1, hS1, hm⟩
  refine WP.sub hsub1 (WP.weaken hS1 ?_)
  rw [ref12_Worth_loop1] at hm
  refine WP.seq (WP.seq (WP.region ?_))
  refine wq rfl rfl rfl (ov_move rfl rfl) ?_
  refine wq rfl rfl rfl (ov_move rfl rfl) ?_
  refine wq rfl rfl rfl (ov_len_string underlying9 rfl rfl) ?_
  refine wq rfl rfl rfl (ov_lss rfl rfl rfl) ?_
  refine WL.nil (tn ?_)
  refine WP.cond rfl (fun hc1 => ?_) (fun hc1 => ?_)
  ·
   replace hm := ite_t hc1 hm
   refine WP.skip (tn (WP.seq (WP.block (WP.region ?_))))
   refine wq rfl rfl rfl (ov_move rfl rfl) ?_
   refine wq rfl rfl rfl (ov_mul rfl rfl rfl) ?_
   refine wq rfl rfl rfl (ov_move rfl rfl) ?_
   refine wq rfl rfl rfl (ov_move rfl rfl) ?_
   obtain ⟨b1, e1, hm⟩ := bind_some hm
   refine wq rfl rfl rfl (ov_index_string underlying9 rfl rfl rfl e1) ?_
   refine wq rfl rfl rfl (ov_sub rfl rfl rfl) ?_
   refine wq rfl rfl rfl (ov_convert_int underlying5 underlying3 rfl rfl) ?_
   refine wq rfl rfl rfl (ov_add rfl rfl rfl) ?_
   refine wq rfl rfl rfl (ov_assign rfl rfl) ?_
   refine WL.nil (bn (tn (WP.region ?_)))
   refine wq rfl rfl rfl (ov_move rfl rfl) ?_
   refine wq rfl rfl rfl (ov_add rfl rfl rfl) ?_
   refine wq rfl rfl rfl (ov_assign rfl rfl) ?_
   refine WL.nil (tn ?_)
   exact ⟨(IntKind.wrap .i64 ((IntKind.wrap .i64 (10 * i1)) + (IntKind.wrap .i64 (IntKind.wrap .u8 ((b1.toNat : Int) - 48))))), (IntKind.wrap .i64 (i2 + 1)), (Sub.all rfl), fun w' s => s, hm⟩
  replace hm := ite_f hc1 hm
  refine WP.exit (then_exit (then_exit (block_here (tn ?_))))
  exact ⟨i1, (Sub.all rfl), fun w' s => s, hm⟩
 rintro g' S' ⟨i3, hsub2, hS2, hm⟩
 refine WP.sub hsub2 (WP.weaken hS2 ?_)
 replace hm := (congrFun hk1 i3).symm.trans hm
 refine WP.seq (WP.region ?_)
 refine wq rfl rfl rfl (ov_move rfl rfl) ?_
 refine wq rfl rfl rfl (ov_assign rfl rfl) ?_
 refine WL.nil (tn (WP.ret ?_))
 obtain rfl := Option.some.inj hm
 refine retQ_ret results91 (Res.tmp rfl Res.nil) rfl (fun w' s => ⟨s.below, ?_⟩)
 exact rfl
theorem ref15_letter_con (p_s : (List UInt8)) (w : World) (H : Heap) (hH : Le H (hp w)) (hG : Glob H) (r : Int) (hm : ref15_letter p_s = some r) :
  Con prog 131 [(mkS p_s)] w H (fun v _ => v = (.int .i64 r)) := by
 unfold ref15_letter at hm
 refine con_of hH func131 rfl 22 ntmps131 rfl ?_
 refine WP.seq (WP.region ?_)
 refine wq rfl rfl rfl (ov_assign rfl rfl) ?_
 refine WL.nil (tn (WP.seq (WP.seq (WP.region ?_))))
 refine wq rfl rfl rfl (ov_move rfl rfl) ?_
 refine wq rfl rfl rfl (ov_len_string underlying9 rfl rfl) ?_
 refine wq rfl rfl rfl (ov_eql rfl rfl rfl) ?_
 refine wq rfl rfl rfl (ov_move rfl rfl) ?_
 obtain ⟨c1, e1, hm⟩ := bind_some hm
 refine WL.cut_bool 4 10 (x := c1) ?_ ?_
 ·
  rcases Bool.eq_false_or_eq_true ((p_s.length : Int) == 1) with hc1 | hc1
  ·
   replace hm := ite_t hc1 e1
   refine wy hc1 rfl (ov_move rfl rfl) ?_
   obtain ⟨b1, e2, hm⟩ := bind_some hm
   refine wy hc1 rfl (ov_index_string underlying9 rfl rfl rfl e2) ?_
   refine wy hc1 rfl (ov_geq rfl rfl rfl) ?_
   refine wq rfl rfl rfl (ov_pick_true rfl (guard_eq rfl hc1) rfl) ?_
   exact WL.nil ⟨Sub.cons' rfl (congrArg Value.bool (Option.some.inj hm)) (Sub.dropn 4 rfl), fun _ s => s⟩
  replace hm := ite_f hc1 e1
  refine WL.idle (Idle.no rfl rfl rfl hc1) rfl rfl ?_
  refine WL.idle (Idle.no rfl rfl rfl hc1) rfl rfl ?_
  refine WL.idle (Idle.no rfl rfl rfl hc1) rfl rfl ?_
  refine wq rfl rfl rfl (ov_pick_false rfl (guard_eq rfl hc1) rfl) ?_
  exact WL.nil ⟨Sub.cons' rfl (congrArg Value.bool (Option.some.inj hm)) (Sub.dropn 4 rfl), fun _ s => s⟩
 refine wq rfl rfl rfl (ov_move rfl rfl) ?_
 obtain ⟨c2, e3, hm⟩ := bind_some hm
 refine WL.cut_bool 6 17 (x := c2) ?_ ?_
 ·
  rcases Bool.eq_false_or_eq_true c1 with hc2 | hc2
  ·
   replace hm := ite_t hc2 e3
   refine wy hc2 rfl (ov_move rfl rfl) ?_
   obtain ⟨b2, e4, hm⟩ := bind_some hm
   refine wy hc2 rfl (ov_index_string underlying9 rfl rfl rfl e4) ?_
   refine wy hc2 rfl (ov_sub rfl rfl rfl) ?_
   refine wy hc2 rfl (ov_convert_int underlying5 underlying3 rfl rfl) ?_
   refine wy hc2 rfl (ov_lss rfl rfl rfl) ?_
   refine wq rfl rfl rfl (ov_pick_true rfl (guard_eq rfl hc2) rfl) ?_
   exact WL.nil ⟨Sub.cons' rfl (congrArg Value.bool (Option.some.inj hm)) (Sub.dropn 6 rfl), fun _ s => s⟩
  replace hm := ite_f hc2 e3
  refine WL.idle (Idle.no rfl rfl rfl hc2) rfl rfl ?_
  refine WL.idle (Idle.no rfl rfl rfl hc2) rfl rfl ?_
  refine WL.idle (Idle.no rfl rfl rfl hc2) rfl rfl ?_
  refine WL.idle (Idle.no rfl rfl rfl hc2) rfl rfl ?_
  refine WL.idle (Idle.no rfl rfl rfl hc2) rfl rfl ?_
  refine wq rfl rfl rfl (ov_pick_false rfl (guard_eq rfl hc2) rfl) ?_
  exact WL.nil ⟨Sub.cons' rfl (congrArg Value.bool (Option.some.inj hm)) (Sub.dropn 6 rfl), fun _ s => s⟩
 refine WL.nil (tn ?_)
 refine WP.cond rfl (fun hc3 => ?_) (fun hc3 => ?_)
 ·
  replace hm := ite_t hc3 hm
  refine WP.seq (WP.region ?_)
  refine wq rfl rfl rfl (ov_move rfl rfl) ?_
  obtain ⟨b3, e5, hm⟩ := bind_some hm
  refine wq rfl rfl rfl (ov_index_string underlying9 rfl rfl rfl e5) ?_
  refine wq rfl rfl rfl (ov_sub rfl rfl rfl) ?_
  refine wq rfl rfl rfl (ov_convert_int underlying5 underlying3 rfl rfl) ?_
  refine wq rfl rfl rfl (ov_assign rfl rfl) ?_
  refine WL.nil (tn (WP.ret (then_ret ?_)))
  obtain rfl := Option.some.inj hm
  refine retQ_ret results131 (Res.tmp rfl Res.nil) rfl (fun w' s => ⟨s.below, ?_⟩)
  exact rfl
 replace hm := ite_f hc3 hm
 refine WP.skip (tn (WP.seq (WP.region ?_)))
 refine wq rfl rfl rfl (ov_assign rfl rfl) ?_
 refine WL.nil (tn (WP.ret ?_))
 obtain rfl := Option.some.inj hm
 refine retQ_ret results131 (Res.tmp rfl Res.nil) rfl (fun w' s => ⟨s.below, ?_⟩)
 exact rfl
theorem ref15_Reader_step_con (p_r : RefRdr) (bp1 : Nat) (ao1 : Option Addr) (cap1 : Nat) (w0 : World) (H0 : Heap) (tl : List Ent) (H : Heap) (h1 : SL H encToken ao1 p_r.tokens) (hc1 : p_r.tokens.length ≤ cap1) (hG : Glob H) (r : (Node × Int × Bool)) (hm : ref15_Reader_step p_r = some r) :
  BCon prog 92 [(pB bp1 0)] w0 H0 (.blk bp1 95 [(.slice ao1 p_r.tokens.length cap1), (.int .i64 p_r.at_), (.bool p_r.bad)] :: tl) H (fun v H' ms' => ∃ (ao2 : Option Addr) (cap2 : Nat) (ao3 : Option Addr) (cap3 : Nat), v = (.agg #[(.int .i64 r.1.kind), (.slice ao2 r.1.step.strokes.length cap2), (.int .i64 r.1.step.wait), (.int .i64 r.1.count), (mkS r.1.name), (.slice ao3 r.1.nodes.length cap3)]) ∧ ms' = (.blk bp1 95 [(.slice ao1 p_r.tokens.length cap1), (.int .i64 r.2.1), (.bool r.2.2)] :: tl) ∧ SL H' encStroke ao2 r.1.step.strokes ∧ r.1.step.strokes.length ≤ cap2 ∧ SL H' encNode ao3 r.1.nodes ∧ r.1.nodes.length ≤ cap3) := by
 unfold ref15_Reader_step at hm
 refine bcon_of func92 rfl 82 ntmps92 rfl ?_
 refine WP.seq (WP.region ?_)
 refine ws rfl (os_alloc (cs := [(.int .i64 0), (.slice none 0 0), (.int .i64 0), (.int .i64 0), (mkS []), (.slice none 0 0)]) zeroValue28 rfl rfl (fun b1 => ?_))
 refine WL.nil (tn (WP.seq (WP.region ?_)))
 refine ws rfl (os_alloc (cs := [(.int .i64 0), (.slice none 0 0), (.int .i64 0), (.int .i64 0), (mkS []), (.slice none 0 0)]) zeroValue28 rfl rfl (fun b2 => ?_))
 refine WL.nil (tn ?_)
 obtain ⟨k1, hk1, hm⟩ := joinK_some hm
 refine WP.seq_join (fun g' S' => ∃ (H5 : Heap) (i4 : Int) (c4 : Bool) (l3 : (List Stroke)) (ao6 : Option Addr) (cap6 : Nat) (xs2 : List Value), Le H H5 ∧ RL H5 encStroke l3 xs2 ∧ Sub [(0, (pB bp1 0)), (2, (pB b1 0)), (3, (pB b2 0)), (1000000007, (.bool false))] g' ∧ (∀ w', S' w' → St w0 H0 (.row 112 (encStroke).size l3.length (.slice ao6 l3.length cap6) xs2 :: .blk b2 28 [(.int .i64 0), (.slice ao6 l3.length cap6), (.int .i64 0), (.int .i64 0), (mkS []), (.slice none 0 0)] :: .blk b1 28 [(.int .i64 0), (.slice none 0 0), (.int .i64 0), (.int .i64 0), (mkS []), (.slice none 0 0)] :: .blk bp1 95 [(.slice ao1 p_r.tokens.length cap1), (.int .i64 i4), (.bool c4)] :: tl) H5 w') ∧ k1 i4 c4 l3 = some r) ?_ ?_
 ·
  refine WP.seq (WP.region ?_)
  refine wq rfl rfl rfl (ov_assign rfl rfl) ?_
  refine WL.nil (tn (WP.block ?_))
  have rl1 := RL.nil (α := Stroke) H encStroke
  refine WP.weaken (fun _ s => s.nilrow 112 (encStroke).size) ?_
  refine WP.loop (fun m1 g' S' => ∃ (H1 : Heap) (i1 : Int) (i2 : Int) (c1 : Bool) (l1 : (List Stroke)) (ao4 : Option Addr) (cap4 : Nat) (xs1 : List Value), Le H H1 ∧ RL H1 encStroke l1 xs1 ∧ Sub [(0, (pB bp1 0)), (2, (pB b1 0)), (3, (pB b2 0)), (4, (.int .i64 i1)), (1000000007, (.bool false))] g' ∧ (∀ w', S' w' → St w0 H0 (.row 112 (encStroke).size l1.length (.slice ao4 l1.length cap4) xs1 :: .blk b2 28 [(.int .i64 0), (.slice ao4 l1.length cap4), (.int .i64 0), (.int .i64 0), (mkS []), (.slice none 0 0)] :: .blk b1 28 [(.int .i64 0), (.slice none 0 0), (.int .i64 0), (.int .i64 0), (mkS []), (.slice none 0 0)] :: .blk bp1 95 [(.slice ao1 p_r.tokens.length cap1), (.int .i64 i2), (.bool c1)] :: tl) H1 w') ∧ ref15_Reader_step_loop1 p_r k1 m1 i1 i2 c1 l1 = some r) ((p_r.tokens.length + 2)) ⟨H, 0, p_r.at_, p_r.bad, ([] : List Stroke), none, 0, [], (Le.refl _), rl1, (Sub.all rfl), fun w' s => s, hm⟩ ?_ ?_
  ·
   rintro g' S' ⟨_, _, _, _, _, _, _, _, _, _, _, _, hm⟩
   exact none_some hm
  rintro m1 g' S' ⟨H1, i1, i2, c1, l1, ao4, cap4, xs1, hle1, rl2, hsub1, hS1, hm⟩
  refine WP.sub hsub1 (WP.weaken hS1 ?_)
  rw [ref15_Reader_step_loop1] at hm
  replace h1 := h1.mono hle1
  replace hG := hG.mono hle1
  refine WP.seq (WP.seq (WP.region ?_))
  refine wq rfl rfl rfl (ov_move rfl rfl) ?_
  refine wq rfl rfl rfl (ov_nilCheckB rfl rfl) ?_
  refine wq rfl rfl rfl (ov_fieldAddr underlying95 rfl rfl rfl sizeOf4 rfl rfl) ?_
  refine wq rfl rfl rfl (ov_load_box (i := 3) isAgg4 rfl rfl rfl rfl) ?_
  refine wq rfl rfl rfl (ov_not rfl rfl) ?_
  refine WL.nil (tn ?_)
  refine WP.cond rfl (fun hc4 => ?_) (fun hc4 => ?_)
  ·
   replace hm := ite_t hc4 hm
   refine WP.skip (tn (WP.seq (WP.block (WP.seq ?_))))
   refine WP.region_any (S₀ := St w0 H0 (.row 112 (encStroke).size l1.length (.slice ao4 l1.length cap4) xs1 :: .blk b2 28 [(.int .i64 0), (.slice ao4 l1.length cap4), (.int .i64 0), (.int .i64 0), (mkS []), (.slice none 0 0)] :: .blk b1 28 [(.int .i64 0), (.slice none 0 0), (.int .i64 0), (.int .i64 0), (mkS []), (.slice none 0 0)] :: .blk bp1 95 [(.slice ao1 p_r.tokens.length cap1), (.int .i64 i2), (.bool c1)] :: tl) H1) 12 rfl (by kernel_rfl) (fun w' s => s) (fun _ s => s.drew) ?_
   refine tq (i := 0) rfl (by kernel_rfl) rfl rfl rfl (ov_move rfl rfl) ?_
   refine tq (i := 1) rfl (by kernel_rfl) rfl rfl rfl (ov_nilCheckB rfl rfl) ?_
   refine tq (i := 2) rfl (by kernel_rfl) rfl rfl rfl (ov_fieldAddr underlying95 rfl rfl rfl sizeOf81 rfl rfl) ?_
   refine tq (i := 3) rfl (by kernel_rfl) rfl rfl rfl (ov_load_box (i := 3) isAgg81 rfl rfl rfl rfl) ?_
   refine tq (i := 4) rfl (by kernel_rfl) rfl rfl rfl (ov_move rfl rfl) ?_
   refine tq (i := 5) rfl (by kernel_rfl) rfl rfl rfl (ov_nilCheckB rfl rfl) ?_
   refine tq (i := 6) rfl (by kernel_rfl) rfl rfl rfl (ov_fieldAddr underlying95 rfl rfl rfl sizeOf3 rfl rfl) ?_
   refine tq (i := 7) rfl (by kernel_rfl) rfl rfl rfl (ov_load_box (i := 3) isAgg3 rfl rfl rfl rfl) ?_
   obtain ⟨x1, e1, hm⟩ := bind_some hm
   obtain ⟨h4, h5, h6, cs1, h7, h8⟩ := h1.get e1 (by decide)
   obtain rfl : cs1 = [(.int .i64 x1.kind), (mkS x1.text), (.int .i64 x1.at_)] := h7
   refine tq (i := 8) rfl (by kernel_rfl) rfl rfl rfl (ov_indexAddr underlying81 sizeOf89 rfl rfl rfl h4 h5 h6) ?_
   refine tq (i := 9) rfl (by kernel_rfl) rfl rfl rfl (ov_load_elems (vs := [(.int .i64 x1.kind), (mkS x1.text), (.int .i64 x1.at_)]) isAgg89 sizeOf89 rfl rfl rfl h8 h6) ?_
   refine AL.any (rs := [10]) (by kernel_rfl) (by decide) ?_
   refine ALs.cons (i := 10) rfl (Runs.free rfl) rfl rfl ?_ ?_
   ·
    refine os_alloc (cs := [(.int .i64 0), (mkS []), (.int .i64 0)]) zeroValue89 rfl rfl (fun b3 => ?_)
    refine ⟨fun w' s => (s.selectT 5 [1, 2, 3, 4] (by decide) rfl rfl), ?_⟩
    refine AL.any (rs := [11]) (by kernel_rfl) (by decide) ?_
    refine ALs.cons0 (i := 11) rfl (Runs.free rfl) rfl ?_ ?_
    ·
     refine os_store (i := 0) (vs := [(.int .i64 x1.kind), (mkS x1.text), (.int .i64 x1.at_)]) (cs' := [(.int .i64 x1.kind), (mkS x1.text), (.int .i64 x1.at_)]) sizeOf89 rfl rfl rfl rfl rfl rfl rfl rfl rfl ?_
     refine ⟨fun w' s => (s.selectT 5 [1, 2, 3, 4] (by decide) rfl rfl), ?_⟩
     refine AL.done (by kernel_rfl) ?_
     refine tn (WP.seq (WP.seq (WP.region ?_)))
     refine wq rfl rfl rfl (ov_fieldAddr underlying89 rfl rfl rfl sizeOf3 rfl rfl) ?_
     refine wq rfl rfl rfl (ov_load_box (i := 0) isAgg3 rfl rfl rfl rfl) ?_
     refine wq rfl rfl rfl (ov_neq rfl rfl rfl) ?_
     refine wq rfl rfl rfl (ov_move rfl rfl) ?_
     obtain ⟨c2, e2, hm⟩ := bind_some hm
     refine WL.cut_bool 5 33 (x := c2) ?_ ?_
     ·
      rcases Bool.eq_false_or_eq_true (x1.kind != 0) with hc5 | hc5
      ·
       replace hm := ite_t hc5 e2
       refine WL.idle (Idle.no rfl rfl rfl hc5) rfl rfl ?_
       refine WL.idle (Idle.no rfl rfl rfl hc5) rfl rfl ?_
       refine WL.idle (Idle.no rfl rfl rfl hc5) rfl rfl ?_
       refine WL.idle (Idle.no rfl rfl rfl hc5) rfl rfl ?_
       refine wq rfl rfl rfl (ov_pick_true rfl (guard_eq rfl hc5) rfl) ?_
       exact WL.nil ⟨Sub.cons' rfl (congrArg Value.bool (Option.some.inj hm)) (Sub.dropn 5 rfl), fun _ s => s⟩
      replace hm := ite_f hc5 e2
      refine wy hc5 rfl (ov_fieldAddr underlying89 rfl rfl rfl sizeOf9 rfl rfl) ?_
      refine wy hc5 rfl (ov_load_box (i := 0) isAgg9 rfl rfl rfl rfl) ?_
      obtain ⟨r1, e3, hm⟩ := bind_some hm
      refine WL.quiet (Runs.yes rfl rfl rfl hc5) rfl rfl (oq_con (r := (.int .i64 r1)) call131 rfl rfl (fun w' s => ⟨_, (ref15_letter_con x1.text  w' H1 s.hold hG r1 e3)⟩)) ?_
      refine wy hc5 rfl (ov_lss rfl rfl rfl) ?_
      refine wq rfl rfl rfl (ov_pick_false rfl (guard_eq rfl hc5) rfl) ?_
      exact WL.nil ⟨Sub.cons' rfl (congrArg Value.bool (Option.some.inj hm)) (Sub.dropn 5 rfl), fun _ s => s⟩
     refine WL.nil (tn ?_)
     refine WP.cond rfl (fun hc6 => ?_) (fun hc6 => ?_)
     ·
      replace hm := ite_t hc6 hm
      refine WP.seq (WP.region ?_)
      refine wq rfl rfl rfl (ov_move rfl rfl) ?_
      refine wq rfl rfl rfl (ov_move rfl rfl) ?_
      refine wq rfl rfl rfl (ov_eql rfl rfl rfl) ?_
      refine wq rfl rfl rfl (ov_nilCheckB rfl rfl) ?_
      refine wq rfl rfl rfl (ov_fieldAddr underlying95 rfl rfl rfl sizeOf4 rfl rfl) ?_
      refine ws0 rfl (os_store (i := 4) (vs := [(.bool (i1 == 0))]) (cs' := [(.slice ao1 p_r.tokens.length cap1), (.int .i64 i2), (.bool (i1 == 0))]) sizeOf4 rfl rfl rfl rfl rfl rfl rfl rfl rfl ?_)
      refine WL.nil (tn (WP.exit (then_exit (block_pass rfl (then_exit (then_exit (block_here (tn ?_))))))))
      exact ⟨H1, i2, (i1 == 0), l1, ao4, cap4, xs1, hle1, rl2, (Sub.all rfl), fun w' s => (s.selectT 5 [1, 2, 3, 4] (by decide) rfl rfl), hm⟩
     replace hm := ite_f hc6 hm
     refine WP.skip (tn (WP.seq (WP.region ?_)))
     refine wq rfl rfl rfl (ov_move rfl rfl) ?_
     refine wq rfl rfl rfl (ov_nilCheckB rfl rfl) ?_
     refine wq rfl rfl rfl (ov_fieldAddr underlying95 rfl rfl rfl sizeOf3 rfl rfl) ?_
     refine wq rfl rfl rfl (ov_load_box (i := 4) isAgg3 rfl rfl rfl rfl) ?_
     refine wq rfl rfl rfl (ov_add rfl rfl rfl) ?_
     refine wq rfl rfl rfl (ov_nilCheckB rfl rfl) ?_
     refine wq rfl rfl rfl (ov_fieldAddr underlying95 rfl rfl rfl sizeOf3 rfl rfl) ?_
     refine ws0 rfl (os_store (i := 4) (vs := [(.int .i64 (IntKind.wrap .i64 (i2 + 1)))]) (cs' := [(.slice ao1 p_r.tokens.length cap1), (.int .i64 (IntKind.wrap .i64 (i2 + 1))), (.bool c1)]) sizeOf3 rfl rfl rfl rfl rfl rfl rfl rfl rfl ?_)
     refine WL.nil (tn (WP.seq (WP.region ?_)))
     refine wq rfl rfl rfl (ov_move rfl rfl) ?_
     refine WL.weaken (fun _ s => s.selectT 5 [4, 0, 1, 2, 3] (by decide) rfl rfl) ?_
     obtain ⟨r2, e4, hm⟩ := bind_some hm
     refine ws rfl (os_bcon call89 rfl rfl (ref15_Reader_is_con (RefRdr.mk p_r.tokens (IntKind.wrap .i64 (i2 + 1)) c1) 2 [43] bp1 ao1 cap1 w0 H0 (.blk b3 89 [(.int .i64 x1.kind), (mkS x1.text), (.int .i64 x1.at_)] :: .row 112 (encStroke).size l1.length (.slice ao4 l1.length cap4) xs1 :: .blk b2 28 [(.int .i64 0), (.slice ao4 l1.length cap4), (.int .i64 0), (.int .i64 0), (mkS []), (.slice none 0 0)] :: .blk b1 28 [(.int .i64 0), (.slice none 0 0), (.int .i64 0), (.int .i64 0), (mkS []), (.slice none 0 0)] :: tl) H1 h1 hc1 hG r2 e4) (fun rr1 H2 ms1 hle2 hR1 => ?_))
     replace h1 := h1.mono hle2
     replace rl2 := rl2.mono hle2
     replace hG := hG.mono hle2
     obtain ⟨rfl, rfl⟩ := hR1
     refine wq rfl rfl rfl (ov_assign rfl rfl) ?_
     refine WL.nil (tn ?_)
     obtain ⟨k2, hk2, hm⟩ := joinK_some hm
     refine WP.seq_join (fun g' S' => ∃ (H4 : Heap) (i3 : Int) (c3 : Bool), Le H2 H4 ∧ Sub [(0, (pB bp1 0)), (2, (pB b1 0)), (3, (pB b2 0)), (4, (.int .i64 i1)), (5, (pB b3 0)), (6, (.bool r2.1)), (1000000007, (.bool false))] g' ∧ (∀ w', S' w' → St w0 H0 (.blk bp1 95 [(.slice ao1 p_r.tokens.length cap1), (.int .i64 i3), (.bool c3)] :: .blk b3 89 [(.int .i64 x1.kind), (mkS x1.text), (.int .i64 x1.at_)] :: .row 112 (encStroke).size l1.length (.slice ao4 l1.length cap4) xs1 :: .blk b2 28 [(.int .i64 0), (.slice ao4 l1.length cap4), (.int .i64 0), (.int .i64 0), (mkS []), (.slice none 0 0)] :: .blk b1 28 [(.int .i64 0), (.slice none 0 0), (.int .i64 0), (.int .i64 0), (mkS []), (.slice none 0 0)] :: tl) H4 w') ∧ k2 i3 c3 = some r) ?_ ?_
     ·
      refine WP.seq (WP.region ?_)
      refine wq rfl rfl rfl (ov_move rfl rfl) ?_
      refine wq rfl rfl rfl (ov_not rfl rfl) ?_
      refine WL.nil (tn ?_)
      refine WP.cond rfl (fun hc7 => ?_) (fun hc7 => ?_)
      ·
       replace hm := ite_t hc7 hm
       refine WP.region ?_
       refine wq rfl rfl rfl (ov_move rfl rfl) ?_
       obtain ⟨r3, e5, hm⟩ := bind_some hm
       refine ws rfl (os_bcon call90 rfl rfl (ref15_Reader_want_con (RefRdr.mk p_r.tokens r2.2.1 r2.2.2) 2 [45] bp1 ao1 cap1 w0 H0 (.blk b3 89 [(.int .i64 x1.kind), (mkS x1.text), (.int .i64 x1.at_)] :: .row 112 (encStroke).size l1.length (.slice ao4 l1.length cap4) xs1 :: .blk b2 28 [(.int .i64 0), (.slice ao4 l1.length cap4), (.int .i64 0), (.int .i64 0), (mkS []), (.slice none 0 0)] :: .blk b1 28 [(.int .i64 0), (.slice none 0 0), (.int .i64 0), (.int .i64 0), (mkS []), (.slice none 0 0)] :: tl) H2 h1 hc1 hG r3 e5) (fun rr2 H3 ms2 hle3 hR2 => ?_))
       replace h1 := h1.mono hle3
       replace rl2 := rl2.mono hle3
       replace hG := hG.mono hle3
       obtain ⟨rfl, rfl⟩ := hR2
       refine WL.nil (tn ?_)
       exact ⟨H3, r3.2.1, r3.2.2, hle3, (Sub.all rfl), fun w' s => s, hm⟩
      replace hm := ite_f hc7 hm
      refine WP.skip (tn ?_)
      exact ⟨H2, r2.2.1, r2.2.2, (Le.refl _), (Sub.all rfl), fun w' s => s, hm⟩
     rintro g' S' ⟨H4, i3, c3, hle4, hsub2, hS2, hm⟩
     refine WP.sub hsub2 (WP.weaken hS2 ?_)
     replace hm := (congrFun (congrFun hk2 i3) c3).symm.trans hm
     replace h1 := h1.mono hle4
     replace rl2 := rl2.mono hle4
     replace hG := hG.mono hle4
     refine WP.region_any (S₀ := St w0 H0 (.blk bp1 95 [(.slice ao1 p_r.tokens.length cap1), (.int .i64 i3), (.bool c3)] :: .blk b3 89 [(.int .i64 x1.kind), (mkS x1.text), (.int .i64 x1.at_)] :: .blk b1 28 [(.int .i64 0), (.slice none 0 0), (.int .i64 0), (.int .i64 0), (mkS []), (.slice none 0 0)] :: tl) H4) 13 rfl (by kernel_rfl) (fun w' s => (s.selectT 5 [0, 1, 4] (by decide) rfl rfl)) (fun _ s => s.drew) ?_
     refine tq (i := 0) rfl (by kernel_rfl) rfl rfl rfl (ov_fieldAddr underlying28 rfl rfl rfl sizeOf25 rfl rfl) ?_
     refine tq (i := 1) rfl (by kernel_rfl) rfl rfl rfl (ov_fieldAddr underlying25 rfl rfl rfl sizeOf23 rfl rfl) ?_
     refine tq (i := 3) rfl (by kernel_rfl) rfl rfl rfl (ov_fieldAddr underlying89 rfl rfl rfl sizeOf9 rfl rfl) ?_
     refine tq (i := 4) rfl (by kernel_rfl) rfl rfl rfl (ov_load_box (i := 1) isAgg9 rfl rfl rfl rfl) ?_
     refine tq (i := 6) rfl (by kernel_rfl) rfl rfl rfl (ov_move rfl rfl) ?_
     refine AL.any (rs := [2, 5]) (by kernel_rfl) (by decide) ?_
     refine ALs.cons (i := 2) rfl (Runs.free rfl) rfl rfl ?_ ?_
     ·
      refine OQ.step (OV.quiet (ov_load_box (i := 3) isAgg23 rfl rfl rfl rfl)) ?_
      refine ⟨fun w' s => (s.selectT 5 [0, 1, 4] (by decide) rfl rfl), ?_⟩
      refine AL.any (rs := [5]) (by kernel_rfl) (by decide) ?_
      refine ALs.cons (i := 5) rfl (Runs.free rfl) rfl rfl ?_ ?_
      ·
       obtain ⟨r4, e6, hm⟩ := bind_some hm
       refine OQ.step (oq_con (r := (.int .i64 r4)) call131 rfl rfl (fun w' s => ⟨_, (ref15_letter_con x1.text  w' H4 s.hold hG r4 e6)⟩)) ?_
       refine ⟨fun w' s => (s.selectT 5 [0, 1, 4] (by decide) rfl rfl), ?_⟩
       refine tq (i := 7) rfl (by kernel_rfl) rfl rfl rfl (ov_build (r := (.agg #[(.int .i64 r4), (.bool r2.1)])) rfl rfl (fun _ => by kernel_rfl)) ?_
       refine AL.any (rs := [8]) (by kernel_rfl) (by decide) ?_
       refine ALs.cons (i := 8) rfl (Runs.free rfl) rfl rfl ?_ ?_
       ·
        have rl3 : RL H4 encStroke ([(Stroke.mk r4 r2.1)] : List Stroke) [(.int .i64 r4), (.bool r2.1)] := RL.cons (cs := [(.int .i64 r4), (.bool r2.1)]) (xs := []) rfl (RL.nil _ _)
        refine os_buildSlice (cs := [(.int .i64 r4), (.bool r2.1)]) (E := 112) (sz := 2) rfl rfl (fun _ => by kernel_rfl) rfl (by decide) (fun b4 => ?_)
        refine ⟨fun w' s => (s.selectT 6 [1, 2, 5] (by decide) rfl rfl), ?_⟩
        refine AL.any (rs := [9]) (by kernel_rfl) (by decide) ?_
        refine ALs.cons (i := 9) rfl (Runs.free rfl) rfl rfl ?_ ?_
        ·
         obtain ⟨l2, e7, hm⟩ := bind_some hm
         refine os_app (i := 3) (j := 0) (En := encStroke) (xs := xs1) (ys := [(.int .i64 r4), (.bool r2.1)]) underlying23 (by kernel_rfl : (prog.info? 112).map (fun i => (i.zero, i.size, i.bytes)) = some (some (.agg #[(.int .i64 0), (.bool false)]), (encStroke).size, 16)) rfl (by decide) rfl rfl rfl rfl rfl rfl rl2 rl3 e7 (fun ao5 cap5 rl4 => ?_)
         refine ⟨fun w' s => (s.selectT 6 [1, 2, 5] (by decide) rfl rfl), ?_⟩
         refine tq (i := 10) rfl (by kernel_rfl) rfl rfl rfl (ov_fieldAddr underlying28 rfl rfl rfl sizeOf25 rfl rfl) ?_
         refine tq (i := 11) rfl (by kernel_rfl) rfl rfl rfl (ov_fieldAddr underlying25 rfl rfl rfl sizeOf23 rfl rfl) ?_
         refine AL.any (rs := [12]) (by kernel_rfl) (by decide) ?_
         refine ALs.cons0 (i := 12) rfl (Runs.free rfl) rfl ?_ ?_
         ·
          refine os_store (i := 4) (vs := [(.slice ao5 (l1 ++ ([(Stroke.mk r4 r2.1)] : List Stroke)).length cap5)]) (cs' := [(.int .i64 0), (.slice ao5 (l1 ++ ([(Stroke.mk r4 r2.1)] : List Stroke)).length cap5), (.int .i64 0), (.int .i64 0), (mkS []), (.slice none 0 0)]) sizeOf23 rfl rfl rfl rfl rfl rfl rfl rfl rfl ?_
          refine ⟨fun w' s => (s.selectT 6 [1, 2, 5] (by decide) rfl rfl), ?_⟩
          refine AL.done (by kernel_rfl) ?_
          refine bn (tn (WP.region ?_))
          refine wq rfl rfl rfl (ov_move rfl rfl) ?_
          refine wq rfl rfl rfl (ov_add rfl rfl rfl) ?_
          refine wq rfl rfl rfl (ov_assign rfl rfl) ?_
          refine WL.nil (tn ?_)
          exact ⟨H4, (IntKind.wrap .i64 (i1 + 1)), i3, c3, (l1 ++ ([(Stroke.mk r4 r2.1)] : List Stroke)), ao5, cap5, (xs1 ++ [(.int .i64 r4), (.bool r2.1)]), ((hle1.trans hle2).trans hle4), rl4, (Sub.all rfl), fun w' s => (s.selectT 6 [3, 4, 5, 1] (by decide) rfl rfl), hm⟩
         exact ALs.nil
        exact ALs.nil
       exact ALs.nil
      exact ALs.nil
     refine ALs.cons (i := 5) rfl (Runs.free rfl) rfl rfl ?_ ?_
     ·
      obtain ⟨r4, e6, hm⟩ := bind_some hm
      refine OQ.step (oq_con (r := (.int .i64 r4)) call131 rfl rfl (fun w' s => ⟨_, (ref15_letter_con x1.text  w' H4 s.hold hG r4 e6)⟩)) ?_
      refine ⟨fun w' s => (s.selectT 5 [0, 1, 4] (by decide) rfl rfl), ?_⟩
      refine tq (i := 7) rfl (by kernel_rfl) rfl rfl rfl (ov_build (r := (.agg #[(.int .i64 r4), (.bool r2.1)])) rfl rfl (fun _ => by kernel_rfl)) ?_
      refine AL.any (rs := [2, 8]) (by kernel_rfl) (by decide) ?_
      refine ALs.cons (i := 2) rfl (Runs.free rfl) rfl rfl ?_ ?_
      ·
       refine OQ.step (OV.quiet (ov_load_box (i := 3) isAgg23 rfl rfl rfl rfl)) ?_
       refine ⟨fun w' s => (s.selectT 5 [0, 1, 4] (by decide) rfl rfl), ?_⟩
       refine AL.any (rs := [8]) (by kernel_rfl) (by decide) ?_
       refine ALs.cons (i := 8) rfl (Runs.free rfl) rfl rfl ?_ ?_
       ·
        have rl3 : RL H4 encStroke ([(Stroke.mk r4 r2.1)] : List Stroke) [(.int .i64 r4), (.bool r2.1)] := RL.cons (cs := [(.int .i64 r4), (.bool r2.1)]) (xs := []) rfl (RL.nil _ _)
        refine os_buildSlice (cs := [(.int .i64 r4), (.bool r2.1)]) (E := 112) (sz := 2) rfl rfl (fun _ => by kernel_rfl) rfl (by decide) (fun b4 => ?_)
        refine ⟨fun w' s => (s.selectT 6 [1, 2, 5] (by decide) rfl rfl), ?_⟩
        refine AL.any (rs := [9]) (by kernel_rfl) (by decide) ?_
        refine ALs.cons (i := 9) rfl (Runs.free rfl) rfl rfl ?_ ?_
        ·
         obtain ⟨l2, e7, hm⟩ := bind_some hm
         refine os_app (i := 3) (j := 0) (En := encStroke) (xs := xs1) (ys := [(.int .i64 r4), (.bool r2.1)]) underlying23 (by kernel_rfl : (prog.info? 112).map (fun i => (i.zero, i.size, i.bytes)) = some (some (.agg #[(.int .i64 0), (.bool false)]), (encStroke).size, 16)) rfl (by decide) rfl rfl rfl rfl rfl rfl rl2 rl3 e7 (fun ao5 cap5 rl4 => ?_)
         refine ⟨fun w' s => (s.selectT 6 [1, 2, 5] (by decide) rfl rfl), ?_⟩
         refine tq (i := 10) rfl (by kernel_rfl) rfl rfl rfl (ov_fieldAddr underlying28 rfl rfl rfl sizeOf25 rfl rfl) ?_
         refine tq (i := 11) rfl (by kernel_rfl) rfl rfl rfl (ov_fieldAddr underlying25 rfl rfl rfl sizeOf23 rfl rfl) ?_
         refine AL.any (rs := [12]) (by kernel_rfl) (by decide) ?_
         refine ALs.cons0 (i := 12) rfl (Runs.free rfl) rfl ?_ ?_
         ·
          refine os_store (i := 4) (vs := [(.slice ao5 (l1 ++ ([(Stroke.mk r4 r2.1)] : List Stroke)).length cap5)]) (cs' := [(.int .i64 0), (.slice ao5 (l1 ++ ([(Stroke.mk r4 r2.1)] : List Stroke)).length cap5), (.int .i64 0), (.int .i64 0), (mkS []), (.slice none 0 0)]) sizeOf23 rfl rfl rfl rfl rfl rfl rfl rfl rfl ?_
          refine ⟨fun w' s => (s.selectT 6 [1, 2, 5] (by decide) rfl rfl), ?_⟩
          refine AL.done (by kernel_rfl) ?_
          refine bn (tn (WP.region ?_))
          refine wq rfl rfl rfl (ov_move rfl rfl) ?_
          refine wq rfl rfl rfl (ov_add rfl rfl rfl) ?_
          refine wq rfl rfl rfl (ov_assign rfl rfl) ?_
          refine WL.nil (tn ?_)
          exact ⟨H4, (IntKind.wrap .i64 (i1 + 1)), i3, c3, (l1 ++ ([(Stroke.mk r4 r2.1)] : List Stroke)), ao5, cap5, (xs1 ++ [(.int .i64 r4), (.bool r2.1)]), ((hle1.trans hle2).trans hle4), rl4, (Sub.all rfl), fun w' s => (s.selectT 6 [3, 4, 5, 1] (by decide) rfl rfl), hm⟩
         exact ALs.nil
        exact ALs.nil
       exact ALs.nil
      refine ALs.cons (i := 8) rfl (Runs.free rfl) rfl rfl ?_ ?_
      ·
       have rl3 : RL H4 encStroke ([(Stroke.mk r4 r2.1)] : List Stroke) [(.int .i64 r4), (.bool r2.1)] := RL.cons (cs := [(.int .i64 r4), (.bool r2.1)]) (xs := []) rfl (RL.nil _ _)
       refine os_buildSlice (cs := [(.int .i64 r4), (.bool r2.1)]) (E := 112) (sz := 2) rfl rfl (fun _ => by kernel_rfl) rfl (by decide) (fun b4 => ?_)
       refine ⟨fun w' s => (s.selectT 6 [1, 2, 5] (by decide) rfl rfl), ?_⟩
       refine AL.any (rs := [2]) (by kernel_rfl) (by decide) ?_
       refine ALs.cons (i := 2) rfl (Runs.free rfl) rfl rfl ?_ ?_
       ·
        refine OQ.step (OV.quiet (ov_load_box (i := 4) isAgg23 rfl rfl rfl rfl)) ?_
        refine ⟨fun w' s => (s.selectT 6 [1, 2, 5] (by decide) rfl rfl), ?_⟩
        refine AL.any (rs := [9]) (by kernel_rfl) (by decide) ?_
        refine ALs.cons (i := 9) rfl (Runs.free rfl) rfl rfl ?_ ?_
        ·
         obtain ⟨l2, e7, hm⟩ := bind_some hm
         refine os_app (i := 3) (j := 0) (En := encStroke) (xs := xs1) (ys := [(.int .i64 r4), (.bool r2.1)]) underlying23 (by kernel_rfl : (prog.info? 112).map (fun i => (i.zero, i.size, i.bytes)) = some (some (.agg #[(.int .i64 0), (.bool false)]), (encStroke).size, 16)) rfl (by decide) rfl rfl rfl rfl rfl rfl rl2 rl3 e7 (fun ao5 cap5 rl4 => ?_)
         refine ⟨fun w' s => (s.selectT 6 [1, 2, 5] (by decide) rfl rfl), ?_⟩
         refine tq (i := 10) rfl (by kernel_rfl) rfl rfl rfl (ov_fieldAddr underlying28 rfl rfl rfl sizeOf25 rfl rfl) ?_
         refine tq (i := 11) rfl (by kernel_rfl) rfl rfl rfl (ov_fieldAddr underlying25 rfl rfl rfl sizeOf23 rfl rfl) ?_
         refine AL.any (rs := [12]) (by kernel_rfl) (by decide) ?_
         refine ALs.cons0 (i := 12) rfl (Runs.free rfl) rfl ?_ ?_
         ·
          refine os_store (i := 4) (vs := [(.slice ao5 (l1 ++ ([(Stroke.mk r4 r2.1)] : List Stroke)).length cap5)]) (cs' := [(.int .i64 0), (.slice ao5 (l1 ++ ([(Stroke.mk r4 r2.1)] : List Stroke)).length cap5), (.int .i64 0), (.int .i64 0), (mkS []), (.slice none 0 0)]) sizeOf23 rfl rfl rfl rfl rfl rfl rfl rfl rfl ?_
          refine ⟨fun w' s => (s.selectT 6 [1, 2, 5] (by decide) rfl rfl), ?_⟩
          refine AL.done (by kernel_rfl) ?_
          refine bn (tn (WP.region ?_))
          refine wq rfl rfl rfl (ov_move rfl rfl) ?_
          refine wq rfl rfl rfl (ov_add rfl rfl rfl) ?_
          refine wq rfl rfl rfl (ov_assign rfl rfl) ?_
          refine WL.nil (tn ?_)
          exact ⟨H4, (IntKind.wrap .i64 (i1 + 1)), i3, c3, (l1 ++ ([(Stroke.mk r4 r2.1)] : List Stroke)), ao5, cap5, (xs1 ++ [(.int .i64 r4), (.bool r2.1)]), ((hle1.trans hle2).trans hle4), rl4, (Sub.all rfl), fun w' s => (s.selectT 6 [3, 4, 5, 1] (by decide) rfl rfl), hm⟩
         exact ALs.nil
        exact ALs.nil
       exact ALs.nil
      exact ALs.nil
     exact ALs.nil
    exact ALs.nil
   exact ALs.nil
  replace hm := ite_f hc4 hm
  refine WP.exit (then_exit (then_exit (block_here (tn ?_))))
  exact ⟨H1, i2, c1, l1, ao4, cap4, xs1, hle1, rl2, (Sub.all rfl), fun w' s => s, hm⟩
 rintro g' S' ⟨H5, i4, c4, l3, ao6, cap6, xs2, hle5, rl5, hsub3, hS3, hm⟩
 refine WP.sub hsub3 (WP.weaken hS3 ?_)
 replace hm := (congrFun (congrFun (congrFun hk1 i4) c4) l3).symm.trans hm
 replace h1 := h1.mono hle5
 replace hG := hG.mono hle5
 obtain ⟨k3, hk3, hm⟩ := joinK_some hm
 refine WP.seq_join (fun g' S' => ∃ (H7 : Heap) (i5 : Int) (c5 : Bool) (i6 : Int), Le H5 H7 ∧ Sub [(2, (pB b1 0)), (3, (pB b2 0)), (1000000007, (.bool false))] g' ∧ (∀ w', S' w' → St w0 H0 (.blk bp1 95 [(.slice ao1 p_r.tokens.length cap1), (.int .i64 i5), (.bool c5)] :: .row 112 (encStroke).size l3.length (.slice ao6 l3.length cap6) xs2 :: .blk b2 28 [(.int .i64 0), (.slice ao6 l3.length cap6), (.int .i64 i6), (.int .i64 0), (mkS []), (.slice none 0 0)] :: .blk b1 28 [(.int .i64 0), (.slice none 0 0), (.int .i64 0), (.int .i64 0), (mkS []), (.slice none 0 0)] :: tl) H7 w') ∧ k3 i5 c5 i6 = some r) ?_ ?_
 ·
  refine WP.seq ?_
  refine WP.region_any (S₀ := St w0 H0 (.row 112 (encStroke).size l3.length (.slice ao6 l3.length cap6) xs2 :: .blk b2 28 [(.int .i64 0), (.slice ao6 l3.length cap6), (.int .i64 0), (.int .i64 0), (mkS []), (.slice none 0 0)] :: .blk b1 28 [(.int .i64 0), (.slice none 0 0), (.int .i64 0), (.int .i64 0), (mkS []), (.slice none 0 0)] :: .blk bp1 95 [(.slice ao1 p_r.tokens.length cap1), (.int .i64 i4), (.bool c4)] :: tl) H5) 12 rfl (by kernel_rfl) (fun w' s => s) (fun _ s => s.drew) ?_
  refine tq (i := 0) rfl (by kernel_rfl) rfl rfl rfl (ov_move rfl rfl) ?_
  refine tq (i := 1) rfl (by kernel_rfl) rfl rfl rfl (ov_nilCheckB rfl rfl) ?_
  refine tq (i := 2) rfl (by kernel_rfl) rfl rfl rfl (ov_fieldAddr underlying95 rfl rfl rfl sizeOf81 rfl rfl) ?_
  refine tq (i := 3) rfl (by kernel_rfl) rfl rfl rfl (ov_load_box (i := 3) isAgg81 rfl rfl rfl rfl) ?_
  refine tq (i := 4) rfl (by kernel_rfl) rfl rfl rfl (ov_move rfl rfl) ?_
  refine tq (i := 5) rfl (by kernel_rfl) rfl rfl rfl (ov_nilCheckB rfl rfl) ?_
  refine tq (i := 6) rfl (by kernel_rfl) rfl rfl rfl (ov_fieldAddr underlying95 rfl rfl rfl sizeOf3 rfl rfl) ?_
  refine tq (i := 7) rfl (by kernel_rfl) rfl rfl rfl (ov_load_box (i := 3) isAgg3 rfl rfl rfl rfl) ?_
  obtain ⟨x2, e8, hm⟩ := bind_some hm
  obtain ⟨h9, h10, h11, cs2, h12, h13⟩ := h1.get e8 (by decide)
  obtain rfl : cs2 = [(.int .i64 x2.kind), (mkS x2.text), (.int .i64 x2.at_)] := h12
  refine tq (i := 8) rfl (by kernel_rfl) rfl rfl rfl (ov_indexAddr underlying81 sizeOf89 rfl rfl rfl h9 h10 h11) ?_
  refine tq (i := 9) rfl (by kernel_rfl) rfl rfl rfl (ov_load_elems (vs := [(.int .i64 x2.kind), (mkS x2.text), (.int .i64 x2.at_)]) isAgg89 sizeOf89 rfl rfl rfl h13 h11) ?_
  refine AL.any (rs := [10]) (by kernel_rfl) (by decide) ?_
  refine ALs.cons (i := 10) rfl (Runs.free rfl) rfl rfl ?_ ?_
  ·
   refine os_alloc (cs := [(.int .i64 0), (mkS []), (.int .i64 0)]) zeroValue89 rfl rfl (fun b5 => ?_)
   refine ⟨fun w' s => (s.selectT 5 [1, 2, 3, 4] (by decide) rfl rfl), ?_⟩
   refine AL.any (rs := [11]) (by kernel_rfl) (by decide) ?_
   refine ALs.cons0 (i := 11) rfl (Runs.free rfl) rfl ?_ ?_
   ·
    refine os_store (i := 0) (vs := [(.int .i64 x2.kind), (mkS x2.text), (.int .i64 x2.at_)]) (cs' := [(.int .i64 x2.kind), (mkS x2.text), (.int .i64 x2.at_)]) sizeOf89 rfl rfl rfl rfl rfl rfl rfl rfl rfl ?_
    refine ⟨fun w' s => (s.selectT 5 [1, 2, 3, 4] (by decide) rfl rfl), ?_⟩
    refine AL.done (by kernel_rfl) ?_
    refine tn (WP.seq (WP.region ?_))
    refine wq rfl rfl rfl (ov_move rfl rfl) ?_
    refine WL.weaken (fun _ s => s.selectT 5 [4, 0, 1, 2, 3] (by decide) rfl rfl) ?_
    obtain ⟨r5, e9, hm⟩ := bind_some hm
    refine ws rfl (os_bcon call89 rfl rfl (ref15_Reader_is_con (RefRdr.mk p_r.tokens i4 c4) 1 [] bp1 ao1 cap1 w0 H0 (.blk b5 89 [(.int .i64 x2.kind), (mkS x2.text), (.int .i64 x2.at_)] :: .row 112 (encStroke).size l3.length (.slice ao6 l3.length cap6) xs2 :: .blk b2 28 [(.int .i64 0), (.slice ao6 l3.length cap6), (.int .i64 0), (.int .i64 0), (mkS []), (.slice none 0 0)] :: .blk b1 28 [(.int .i64 0), (.slice none 0 0), (.int .i64 0), (.int .i64 0), (mkS []), (.slice none 0 0)] :: tl) H5 h1 hc1 hG r5 e9) (fun rr3 H6 ms3 hle6 hR3 => ?_))
    replace rl5 := rl5.mono hle6
    replace hG := hG.mono hle6
    obtain ⟨rfl, rfl⟩ := hR3
    refine WL.nil (tn ?_)
    refine WP.cond rfl (fun hc8 => ?_) (fun hc8 => ?_)
    ·
     replace hm := ite_t hc8 hm
     refine WP.region ?_
     refine wq rfl rfl rfl (ov_fieldAddr underlying89 rfl rfl rfl sizeOf9 rfl rfl) ?_
     refine wq rfl rfl rfl (ov_load_box (i := 1) isAgg9 rfl rfl rfl rfl) ?_
     obtain ⟨r6, e10, hm⟩ := bind_some hm
     refine wo rfl (oq_con (r := (.int .i64 r6)) call91 rfl rfl (fun w' s => ⟨_, (ref12_Worth_con x2.text  w' H6 s.hold hG r6 e10)⟩)) ?_
     refine wq rfl rfl rfl (ov_fieldAddr underlying28 rfl rfl rfl sizeOf25 rfl rfl) ?_
     refine wq rfl rfl rfl (ov_fieldAddr underlying25 rfl rfl rfl sizeOf3 rfl rfl) ?_
     refine ws0 rfl (os_store (i := 3) (vs := [(.int .i64 r6)]) (cs' := [(.int .i64 0), (.slice ao6 l3.length cap6), (.int .i64 r6), (.int .i64 0), (mkS []), (.slice none 0 0)]) sizeOf3 rfl rfl rfl rfl rfl rfl rfl rfl rfl ?_)
     refine WL.nil (tn ?_)
     exact ⟨H6, r5.2.1, r5.2.2, r6, hle6, (Sub.all rfl), fun w' s => (s.selectT 5 [0, 2, 3, 4] (by decide) rfl rfl), hm⟩
    replace hm := ite_f hc8 hm
    refine WP.skip (tn ?_)
    exact ⟨H6, r5.2.1, r5.2.2, 0, hle6, (Sub.all rfl), fun w' s => (s.selectT 5 [0, 2, 3, 4] (by decide) rfl rfl), hm⟩
   exact ALs.nil
  exact ALs.nil
 rintro g' S' ⟨H7, i5, c5, i6, hle7, hsub4, hS4, hm⟩
 refine WP.sub hsub4 (WP.weaken hS4 ?_)
 replace hm := (congrFun (congrFun (congrFun hk3 i5) c5) i6).symm.trans hm
 replace rl5 := rl5.mono hle7
 refine WP.seq (WP.region ?_)
 refine wq rfl rfl rfl (ov_load_whole (i := 2) isAgg28 sizeOf28 rfl rfl rfl rfl) ?_
 refine ws0 rfl (os_store (i := 3) (vs := [(.int .i64 0), (.slice ao6 l3.length cap6), (.int .i64 i6), (.int .i64 0), (mkS []), (.slice none 0 0)]) (cs' := [(.int .i64 0), (.slice ao6 l3.length cap6), (.int .i64 i6), (.int .i64 0), (mkS []), (.slice none 0 0)]) sizeOf28 rfl rfl rfl rfl rfl rfl rfl rfl rfl ?_)
 refine WL.nil (tn (WP.ret ?_))
 obtain rfl := Option.some.inj hm
 refine retQ_ret results92 (Res.cell rfl (box_loads (i := 3) isAgg28 sizeOf28 rfl rfl) Res.nil) rfl (fun w' s => ?_)
 obtain ⟨H8, hc9, hle8, h14, s⟩ := St.row_held (s.selectT 4 [1, 0, 2, 3] (by decide) rfl rfl) rl5
 exact ⟨H8, _, ((hle5.trans hle7).trans hle8), ⟨ao6, cap6, none, 0, rfl, rfl, h14, hc9, SL.nil _ _ _, Nat.le_refl _⟩, (s.selectT 3 [0] (by decide) rfl rfl)⟩
theorem ref15_Reader_node_body_con (self : RefRdr → Option (Node × Int × Bool)) (hself : ∀ (p_r : RefRdr) (bp1 : Nat) (ao1 : Option Addr) (cap1 : Nat) (w0 : World) (H0 : Heap) (tl : List Ent) (H : Heap) (h1 : SL H encToken ao1 p_r.tokens) (hc1 : p_r.tokens.length ≤ cap1) (hG : Glob H) (r : (Node × Int × Bool)) (hm : self p_r = some r), BCon prog 48 [(pB bp1 0)] w0 H0 (.blk bp1 95 [(.slice ao1 p_r.tokens.length cap1), (.int .i64 p_r.at_), (.bool p_r.bad)] :: tl) H (fun v H' ms' => ∃ (ao2 : Option Addr) (cap2 : Nat) (ao3 : Option Addr) (cap3 : Nat), v = (.agg #[(.int .i64 r.1.kind), (.slice ao2 r.1.step.strokes.length cap2), (.int .i64 r.1.step.wait), (.int .i64 r.1.count), (mkS r.1.name), (.slice ao3 r.1.nodes.length cap3)]) ∧ ms' = (.blk bp1 95 [(.slice ao1 p_r.tokens.length cap1), (.int .i64 r.2.1), (.bool r.2.2)] :: tl) ∧ SL H' encStroke ao2 r.1.step.strokes ∧ r.1.step.strokes.length ≤ cap2 ∧ SL H' encNode ao3 r.1.nodes ∧ r.1.nodes.length ≤ cap3)) (p_r : RefRdr) (bp1 : Nat) (ao1 : Option Addr) (cap1 : Nat) (w0 : World) (H0 : Heap) (tl : List Ent) (H : Heap) (h1 : SL H encToken ao1 p_r.tokens) (hc1 : p_r.tokens.length ≤ cap1) (hG : Glob H) (r : (Node × Int × Bool)) (hm : ref15_Reader_node_body self p_r = some r) :
  BCon prog 48 [(pB bp1 0)] w0 H0 (.blk bp1 95 [(.slice ao1 p_r.tokens.length cap1), (.int .i64 p_r.at_), (.bool p_r.bad)] :: tl) H (fun v H' ms' => ∃ (ao2 : Option Addr) (cap2 : Nat) (ao3 : Option Addr) (cap3 : Nat), v = (.agg #[(.int .i64 r.1.kind), (.slice ao2 r.1.step.strokes.length cap2), (.int .i64 r.1.step.wait), (.int .i64 r.1.count), (mkS r.1.name), (.slice ao3 r.1.nodes.length cap3)]) ∧ ms' = (.blk bp1 95 [(.slice ao1 p_r.tokens.length cap1), (.int .i64 r.2.1), (.bool r.2.2)] :: tl) ∧ SL H' encStroke ao2 r.1.step.strokes ∧ r.1.step.strokes.length ≤ cap2 ∧ SL H' encNode ao3 r.1.nodes ∧ r.1.nodes.length ≤ cap3) := by
 unfold ref15_Reader_node_body at hm
 refine bcon_of func48 rfl 51 ntmps48 rfl ?_
 refine WP.seq (WP.region ?_)
 refine ws rfl (os_alloc (cs := [(.int .i64 0), (.slice none 0 0), (.int .i64 0), (.int .i64 0), (mkS []), (.slice none 0 0)]) zeroValue28 rfl rfl (fun b1 => ?_))
 refine WL.nil (tn ?_)
 obtain ⟨k1, hk1, hm⟩ := joinK_some hm
 refine WP.seq_join (fun g' S' => ∃ (H9 : Heap) (i3 : Int) (c3 : Bool), Le H H9 ∧ Sub [(0, (pB bp1 0)), (2, (pB b1 0)), (1000000007, (.bool false))] g' ∧ (∀ w', S' w' → St w0 H0 (.blk bp1 95 [(.slice ao1 p_r.tokens.length cap1), (.int .i64 i3), (.bool c3)] :: .blk b1 28 [(.int .i64 0), (.slice none 0 0), (.int .i64 0), (.int .i64 0), (mkS []), (.slice none 0 0)] :: tl) H9 w') ∧ k1 i3 c3 = some r) ?_ ?_
 ·
  refine WP.seq (WP.region ?_)
  refine wq rfl rfl rfl (ov_move rfl rfl) ?_
  refine WL.weaken (fun _ s => s.selectT 2 [1, 0] (by decide) rfl rfl) ?_
  obtain ⟨r1, e1, hm⟩ := bind_some hm
  refine ws rfl (os_bcon call89 rfl rfl (ref15_Reader_is_con p_r 2 [123] bp1 ao1 cap1 w0 H0 (.blk b1 28 [(.int .i64 0), (.slice none 0 0), (.int .i64 0), (.int .i64 0), (mkS []), (.slice none 0 0)] :: tl) H h1 hc1 hG r1 e1) (fun rr1 H1 ms1 hle1 hR1 => ?_))
  replace h1 := h1.mono hle1
  replace hG := hG.mono hle1
  obtain ⟨rfl, rfl⟩ := hR1
  refine WL.nil (tn ?_)
  refine WP.cond rfl (fun hc4 => ?_) (fun hc4 => ?_)
  ·
   replace hm := ite_t hc4 hm
   refine WP.seq (WP.region ?_)
   refine wq rfl rfl rfl (ov_move rfl rfl) ?_
   obtain ⟨r2, e2, hm⟩ := bind_some hm
   refine ws rfl (os_bcon call48 rfl rfl (hself (RefRdr.mk p_r.tokens r1.2.1 r1.2.2) bp1 ao1 cap1 w0 H0 (.blk b1 28 [(.int .i64 0), (.slice none 0 0), (.int .i64 0), (.int .i64 0), (mkS []), (.slice none 0 0)] :: tl) H1 h1 hc1 hG r2 e2) (fun rr2 H2 ms2 hle2 hR2 => ?_))
   replace h1 := h1.mono hle2
   replace hG := hG.mono hle2
   obtain ⟨ao4, cap4, ao5, cap5, rfl, rfl, h4, hc5, h5, hc6⟩ := hR2
   have rl1 : RL H2 encNode ([r2.1] : List Node) [(.int .i64 r2.1.kind), (.slice ao4 r2.1.step.strokes.length cap4), (.int .i64 r2.1.step.wait), (.int .i64 r2.1.count), (mkS r2.1.name), (.slice ao5 r2.1.nodes.length cap5)] := RL.cons (cs := [(.int .i64 r2.1.kind), (.slice ao4 r2.1.step.strokes.length cap4), (.int .i64 r2.1.step.wait), (.int .i64 r2.1.count), (mkS r2.1.name), (.slice ao5 r2.1.nodes.length cap5)]) (xs := []) (encNode_make ⟨ao4, cap4, ao5, cap5, rfl, h4, hc5, h5, hc6⟩) (RL.nil _ _)
   refine ws rfl (os_buildSlice (cs := [(.int .i64 r2.1.kind), (.slice ao4 r2.1.step.strokes.length cap4), (.int .i64 r2.1.step.wait), (.int .i64 r2.1.count), (mkS r2.1.name), (.slice ao5 r2.1.nodes.length cap5)]) (E := 28) (sz := 6) rfl rfl (fun _ => by kernel_rfl) rfl (by decide) (fun b2 => ?_))
   refine wq rfl rfl rfl (ov_build (r := (.agg #[(.int .i64 1), (.slice none 0 0), (.int .i64 0), (.int .i64 0), (mkS []), (.slice (some ⟨b2, 0, none⟩) ([r2.1] : List Node).length 1)])) rfl rfl (fun _ => by kernel_rfl)) ?_
   refine ws rfl (os_alloc (cs := [(.int .i64 0), (.slice none 0 0), (.int .i64 0), (.int .i64 0), (mkS []), (.slice none 0 0)]) zeroValue28 rfl rfl (fun b3 => ?_))
   refine ws0 rfl (os_store (i := 0) (vs := [(.int .i64 1), (.slice none 0 0), (.int .i64 0), (.int .i64 0), (mkS []), (.slice (some ⟨b2, 0, none⟩) ([r2.1] : List Node).length 1)]) (cs' := [(.int .i64 1), (.slice none 0 0), (.int .i64 0), (.int .i64 0), (mkS []), (.slice (some ⟨b2, 0, none⟩) ([r2.1] : List Node).length 1)]) sizeOf28 rfl rfl rfl rfl rfl rfl rfl rfl rfl ?_)
   refine WL.nil (tn ?_)
   obtain ⟨k2, hk2, hm⟩ := joinK_some hm
   refine WP.seq_join (fun g' S' => ∃ (H6 : Heap) (i2 : Int) (c2 : Bool) (l3 : (List Node)) (ao10 : Option Addr) (cap10 : Nat) (xs2 : List Value), Le H2 H6 ∧ RL H6 encNode l3 xs2 ∧ Sub [(0, (pB bp1 0)), (2, (pB b1 0)), (3, (pB b3 0)), (1000000007, (.bool false))] g' ∧ (∀ w', S' w' → St w0 H0 (.blk bp1 95 [(.slice ao1 p_r.tokens.length cap1), (.int .i64 i2), (.bool c2)] :: .blk b3 28 [(.int .i64 1), (.slice none 0 0), (.int .i64 0), (.int .i64 0), (mkS []), (.slice ao10 l3.length cap10)] :: .row 28 (encNode).size l3.length (.slice ao10 l3.length cap10) xs2 :: .blk b1 28 [(.int .i64 0), (.slice none 0 0), (.int .i64 0), (.int .i64 0), (mkS []), (.slice none 0 0)] :: tl) H6 w') ∧ k2 i2 c2 l3 = some r) ?_ ?_
   ·
    refine WP.block ?_
    refine WP.loop (fun m1 g' S' => ∃ (H3 : Heap) (i1 : Int) (c1 : Bool) (l1 : (List Node)) (ao6 : Option Addr) (cap6 : Nat) (xs1 : List Value), Le H2 H3 ∧ RL H3 encNode l1 xs1 ∧ Sub [(0, (pB bp1 0)), (2, (pB b1 0)), (3, (pB b3 0)), (1000000007, (.bool false))] g' ∧ (∀ w', S' w' → St w0 H0 (.blk b3 28 [(.int .i64 1), (.slice none 0 0), (.int .i64 0), (.int .i64 0), (mkS []), (.slice ao6 l1.length cap6)] :: .row 28 (encNode).size l1.length (.slice ao6 l1.length cap6) xs1 :: .blk bp1 95 [(.slice ao1 p_r.tokens.length cap1), (.int .i64 i1), (.bool c1)] :: .blk b1 28 [(.int .i64 0), (.slice none 0 0), (.int .i64 0), (.int .i64 0), (mkS []), (.slice none 0 0)] :: tl) H3 w') ∧ ref15_Reader_node_loop1 p_r self k2 m1 i1 c1 l1 = some r) ((p_r.tokens.length + 2)) ⟨H2, r2.2.1, r2.2.2, ([r2.1] : List Node), (some ⟨b2, 0, none⟩), 1, [(.int .i64 r2.1.kind), (.slice ao4 r2.1.step.strokes.length cap4), (.int .i64 r2.1.step.wait), (.int .i64 r2.1.count), (mkS r2.1.name), (.slice ao5 r2.1.nodes.length cap5)], (Le.refl _), rl1, (Sub.all rfl), fun w' s => s, hm⟩ ?_ ?_
    ·
     rintro g' S' ⟨_, _, _, _, _, _, _, _, _, _, _, hm⟩
     exact none_some hm
    rintro m1 g' S' ⟨H3, i1, c1, l1, ao6, cap6, xs1, hle3, rl2, hsub1, hS1, hm⟩
    refine WP.sub hsub1 (WP.weaken hS1 ?_)
    rw [ref15_Reader_node_loop1] at hm
    replace h1 := h1.mono hle3
    replace hG := hG.mono hle3
    refine WP.seq (WP.seq (WP.region ?_))
    refine wq rfl rfl rfl (ov_move rfl rfl) ?_
    refine WL.weaken (fun _ s => s.selectT 4 [2, 0, 1, 3] (by decide) rfl rfl) ?_
    obtain ⟨r3, e3, hm⟩ := bind_some hm
    refine ws rfl (os_bcon call89 rfl rfl (ref15_Reader_is_con (RefRdr.mk p_r.tokens i1 c1) 2 [59] bp1 ao1 cap1 w0 H0 (.blk b3 28 [(.int .i64 1), (.slice none 0 0), (.int .i64 0), (.int .i64 0), (mkS []), (.slice ao6 l1.length cap6)] :: .row 28 (encNode).size l1.length (.slice ao6 l1.length cap6) xs1 :: .blk b1 28 [(.int .i64 0), (.slice none 0 0), (.int .i64 0), (.int .i64 0), (mkS []), (.slice none 0 0)] :: tl) H3 h1 hc1 hG r3 e3) (fun rr3 H4 ms3 hle4 hR3 => ?_))
    replace h1 := h1.mono hle4
    replace rl2 := rl2.mono hle4
    replace hG := hG.mono hle4
    obtain ⟨rfl, rfl⟩ := hR3
    refine WL.nil (tn ?_)
    refine WP.cond rfl (fun hc7 => ?_) (fun hc7 => ?_)
    ·
     replace hm := ite_t hc7 hm
     refine WP.skip (tn (WP.block ?_))
     refine WP.region_any (S₀ := St w0 H0 (.blk b1 28 [(.int .i64 0), (.slice none 0 0), (.int .i64 0), (.int .i64 0), (mkS []), (.slice none 0 0)] :: tl) H4) 8 rfl (by kernel_rfl) (fun w' s => (s.selectT 4 [3] (by decide) rfl rfl)) (fun _ s => s.drew) ?_
     refine tq (i := 0) rfl (by kernel_rfl) rfl rfl rfl (ov_fieldAddr underlying28 rfl rfl rfl sizeOf26 rfl rfl) ?_
     refine tq (i := 2) rfl (by kernel_rfl) rfl rfl rfl (ov_move rfl rfl) ?_
     refine AL.any (rs := [1, 3]) (by kernel_rfl) (by decide) ?_
     refine ALs.cons (i := 1) rfl (Runs.free rfl) rfl rfl ?_ ?_
     ·
      refine OQ.step (OV.quiet (ov_load_box (i := 1) isAgg26 rfl rfl rfl rfl)) ?_
      refine ⟨fun w' s => (s.selectT 4 [3] (by decide) rfl rfl), ?_⟩
      refine AL.any (rs := [3]) (by kernel_rfl) (by decide) ?_
      refine ALs.cons (i := 3) rfl (Runs.free rfl) rfl rfl ?_ ?_
      ·
       obtain ⟨r4, e4, hm⟩ := bind_some hm
       refine os_bcon call48 rfl rfl (hself (RefRdr.mk p_r.tokens r3.2.1 r3.2.2) bp1 ao1 cap1 w0 H0 (.blk b3 28 [(.int .i64 1), (.slice none 0 0), (.int .i64 0), (.int .i64 0), (mkS []), (.slice ao6 l1.length cap6)] :: .row 28 (encNode).size l1.length (.slice ao6 l1.length cap6) xs1 :: .blk b1 28 [(.int .i64 0), (.slice none 0 0), (.int .i64 0), (.int .i64 0), (mkS []), (.slice none 0 0)] :: tl) H4 h1 hc1 hG r4 e4) (fun rr4 H5 ms4 hle5 hR4 => ?_)
       replace h1 := h1.mono hle5
       replace rl2 := rl2.mono hle5
       replace hG := hG.mono hle5
       obtain ⟨ao7, cap7, ao8, cap8, rfl, rfl, h6, hc8, h7, hc9⟩ := hR4
       refine ⟨fun w' s => ((s.selectT 4 [3] (by decide) rfl rfl).heap hle5), ?_⟩
       refine AL.any (rs := [4]) (by kernel_rfl) (by decide) ?_
       refine ALs.cons (i := 4) rfl (Runs.free rfl) rfl rfl ?_ ?_
       ·
        have rl3 : RL H5 encNode ([r4.1] : List Node) [(.int .i64 r4.1.kind), (.slice ao7 r4.1.step.strokes.length cap7), (.int .i64 r4.1.step.wait), (.int .i64 r4.1.count), (mkS r4.1.name), (.slice ao8 r4.1.nodes.length cap8)] := RL.cons (cs := [(.int .i64 r4.1.kind), (.slice ao7 r4.1.step.strokes.length cap7), (.int .i64 r4.1.step.wait), (.int .i64 r4.1.count), (mkS r4.1.name), (.slice ao8 r4.1.nodes.length cap8)]) (xs := []) (encNode_make ⟨ao7, cap7, ao8, cap8, rfl, h6, hc8, h7, hc9⟩) (RL.nil _ _)
        refine os_buildSlice (cs := [(.int .i64 r4.1.kind), (.slice ao7 r4.1.step.strokes.length cap7), (.int .i64 r4.1.step.wait), (.int .i64 r4.1.count), (mkS r4.1.name), (.slice ao8 r4.1.nodes.length cap8)]) (E := 28) (sz := 6) rfl rfl (fun _ => by kernel_rfl) rfl (by decide) (fun b4 => ?_)
        refine ⟨fun w' s => ((s.selectT 5 [4] (by decide) rfl rfl).heap hle5), ?_⟩
        refine AL.any (rs := [5]) (by kernel_rfl) (by decide) ?_
        refine ALs.cons (i := 5) rfl (Runs.free rfl) rfl rfl ?_ ?_
        ·
         obtain ⟨l2, e5, hm⟩ := bind_some hm
         refine os_app (i := 3) (j := 0) (En := encNode) (xs := xs1) (ys := [(.int .i64 r4.1.kind), (.slice ao7 r4.1.step.strokes.length cap7), (.int .i64 r4.1.step.wait), (.int .i64 r4.1.count), (mkS r4.1.name), (.slice ao8 r4.1.nodes.length cap8)]) underlying26 (by kernel_rfl : (prog.info? 28).map (fun i => (i.zero, i.size, i.bytes)) = some (some (.agg #[(.int .i64 0), (.slice none 0 0), (.int .i64 0), (.int .i64 0), (mkS []), (.slice none 0 0)]), (encNode).size, 88)) rfl (by decide) rfl rfl rfl rfl rfl rfl rl2 rl3 e5 (fun ao9 cap9 rl4 => ?_)
         refine ⟨fun w' s => ((s.selectT 5 [4] (by decide) rfl rfl).heap hle5), ?_⟩
         refine tq (i := 6) rfl (by kernel_rfl) rfl rfl rfl (ov_fieldAddr underlying28 rfl rfl rfl sizeOf26 rfl rfl) ?_
         refine AL.any (rs := [7]) (by kernel_rfl) (by decide) ?_
         refine ALs.cons0 (i := 7) rfl (Runs.free rfl) rfl ?_ ?_
         ·
          refine os_store (i := 2) (vs := [(.slice ao9 (l1 ++ ([r4.1] : List Node)).length cap9)]) (cs' := [(.int .i64 1), (.slice none 0 0), (.int .i64 0), (.int .i64 0), (mkS []), (.slice ao9 (l1 ++ ([r4.1] : List Node)).length cap9)]) sizeOf26 rfl rfl rfl rfl rfl rfl rfl rfl rfl ?_
          refine ⟨fun w' s => ((s.selectT 5 [4] (by decide) rfl rfl).heap hle5), ?_⟩
          refine AL.done (by kernel_rfl) ?_
          refine bn (tn ?_)
          exact ⟨H5, r4.2.1, r4.2.2, (l1 ++ ([r4.1] : List Node)), ao9, cap9, (xs1 ++ [(.int .i64 r4.1.kind), (.slice ao7 r4.1.step.strokes.length cap7), (.int .i64 r4.1.step.wait), (.int .i64 r4.1.count), (mkS r4.1.name), (.slice ao8 r4.1.nodes.length cap8)]), ((hle3.trans hle4).trans hle5), rl4, (Sub.all rfl), fun w' s => (s.selectT 5 [2, 3, 1, 4] (by decide) rfl rfl), hm⟩
         exact ALs.nil
        exact ALs.nil
       exact ALs.nil
      exact ALs.nil
     refine ALs.cons (i := 3) rfl (Runs.free rfl) rfl rfl ?_ ?_
     ·
      obtain ⟨r4, e4, hm⟩ := bind_some hm
      refine os_bcon call48 rfl rfl (hself (RefRdr.mk p_r.tokens r3.2.1 r3.2.2) bp1 ao1 cap1 w0 H0 (.blk b3 28 [(.int .i64 1), (.slice none 0 0), (.int .i64 0), (.int .i64 0), (mkS []), (.slice ao6 l1.length cap6)] :: .row 28 (encNode).size l1.length (.slice ao6 l1.length cap6) xs1 :: .blk b1 28 [(.int .i64 0), (.slice none 0 0), (.int .i64 0), (.int .i64 0), (mkS []), (.slice none 0 0)] :: tl) H4 h1 hc1 hG r4 e4) (fun rr4 H5 ms4 hle5 hR4 => ?_)
      replace h1 := h1.mono hle5
      replace rl2 := rl2.mono hle5
      replace hG := hG.mono hle5
      obtain ⟨ao7, cap7, ao8, cap8, rfl, rfl, h6, hc8, h7, hc9⟩ := hR4
      refine ⟨fun w' s => ((s.selectT 4 [3] (by decide) rfl rfl).heap hle5), ?_⟩
      refine AL.any (rs := [1, 4]) (by kernel_rfl) (by decide) ?_
      refine ALs.cons (i := 1) rfl (Runs.free rfl) rfl rfl ?_ ?_
      ·
       refine OQ.step (OV.quiet (ov_load_box (i := 1) isAgg26 rfl rfl rfl rfl)) ?_
       refine ⟨fun w' s => ((s.selectT 4 [3] (by decide) rfl rfl).heap hle5), ?_⟩
       refine AL.any (rs := [4]) (by kernel_rfl) (by decide) ?_
       refine ALs.cons (i := 4) rfl (Runs.free rfl) rfl rfl ?_ ?_
       ·
        have rl3 : RL H5 encNode ([r4.1] : List Node) [(.int .i64 r4.1.kind), (.slice ao7 r4.1.step.strokes.length cap7), (.int .i64 r4.1.step.wait), (.int .i64 r4.1.count), (mkS r4.1.name), (.slice ao8 r4.1.nodes.length cap8)] := RL.cons (cs := [(.int .i64 r4.1.kind), (.slice ao7 r4.1.step.strokes.length cap7), (.int .i64 r4.1.step.wait), (.int .i64 r4.1.count), (mkS r4.1.name), (.slice ao8 r4.1.nodes.length cap8)]) (xs := []) (encNode_make ⟨ao7, cap7, ao8, cap8, rfl, h6, hc8, h7, hc9⟩) (RL.nil _ _)
        refine os_buildSlice (cs := [(.int .i64 r4.1.kind), (.slice ao7 r4.1.step.strokes.length cap7), (.int .i64 r4.1.step.wait), (.int .i64 r4.1.count), (mkS r4.1.name), (.slice ao8 r4.1.nodes.length cap8)]) (E := 28) (sz := 6) rfl rfl (fun _ => by kernel_rfl) rfl (by decide) (fun b4 => ?_)
        refine ⟨fun w' s => ((s.selectT 5 [4] (by decide) rfl rfl).heap hle5), ?_⟩
        refine AL.any (rs := [5]) (by kernel_rfl) (by decide) ?_
        refine ALs.cons (i := 5) rfl (Runs.free rfl) rfl rfl ?_ ?_
        ·
         obtain ⟨l2, e5, hm⟩ := bind_some hm
         refine os_app (i := 3) (j := 0) (En := encNode) (xs := xs1) (ys := [(.int .i64 r4.1.kind), (.slice ao7 r4.1.step.strokes.length cap7), (.int .i64 r4.1.step.wait), (.int .i64 r4.1.count), (mkS r4.1.name), (.slice ao8 r4.1.nodes.length cap8)]) underlying26 (by kernel_rfl : (prog.info? 28).map (fun i => (i.zero, i.size, i.bytes)) = some (some (.agg #[(.int .i64 0), (.slice none 0 0), (.int .i64 0), (.int .i64 0), (mkS []), (.slice none 0 0)]), (encNode).size, 88)) rfl (by decide) rfl rfl rfl rfl rfl rfl rl2 rl3 e5 (fun ao9 cap9 rl4 => ?_)
         refine ⟨fun w' s => ((s.selectT 5 [4] (by decide) rfl rfl).heap hle5), ?_⟩
         refine tq (i := 6) rfl (by kernel_rfl) rfl rfl rfl (ov_fieldAddr underlying28 rfl rfl rfl sizeOf26 rfl rfl) ?_
         refine AL.any (rs := [7]) (by kernel_rfl) (by decide) ?_
         refine ALs.cons0 (i := 7) rfl (Runs.free rfl) rfl ?_ ?_
         ·
          refine os_store (i := 2) (vs := [(.slice ao9 (l1 ++ ([r4.1] : List Node)).length cap9)]) (cs' := [(.int .i64 1), (.slice none 0 0), (.int .i64 0), (.int .i64 0), (mkS []), (.slice ao9 (l1 ++ ([r4.1] : List Node)).length cap9)]) sizeOf26 rfl rfl rfl rfl rfl rfl rfl rfl rfl ?_
          refine ⟨fun w' s => ((s.selectT 5 [4] (by decide) rfl rfl).heap hle5), ?_⟩
          refine AL.done (by kernel_rfl) ?_
          refine bn (tn ?_)
          exact ⟨H5, r4.2.1, r4.2.2, (l1 ++ ([r4.1] : List Node)), ao9, cap9, (xs1 ++ [(.int .i64 r4.1.kind), (.slice ao7 r4.1.step.strokes.length cap7), (.int .i64 r4.1.step.wait), (.int .i64 r4.1.count), (mkS r4.1.name), (.slice ao8 r4.1.nodes.length cap8)]), ((hle3.trans hle4).trans hle5), rl4, (Sub.all rfl), fun w' s => (s.selectT 5 [2, 3, 1, 4] (by decide) rfl rfl), hm⟩
         exact ALs.nil
        exact ALs.nil
       exact ALs.nil
      refine ALs.cons (i := 4) rfl (Runs.free rfl) rfl rfl ?_ ?_
      ·
       have rl3 : RL H5 encNode ([r4.1] : List Node) [(.int .i64 r4.1.kind), (.slice ao7 r4.1.step.strokes.length cap7), (.int .i64 r4.1.step.wait), (.int .i64 r4.1.count), (mkS r4.1.name), (.slice ao8 r4.1.nodes.length cap8)] := RL.cons (cs := [(.int .i64 r4.1.kind), (.slice ao7 r4.1.step.strokes.length cap7), (.int .i64 r4.1.step.wait), (.int .i64 r4.1.count), (mkS r4.1.name), (.slice ao8 r4.1.nodes.length cap8)]) (xs := []) (encNode_make ⟨ao7, cap7, ao8, cap8, rfl, h6, hc8, h7, hc9⟩) (RL.nil _ _)
       refine os_buildSlice (cs := [(.int .i64 r4.1.kind), (.slice ao7 r4.1.step.strokes.length cap7), (.int .i64 r4.1.step.wait), (.int .i64 r4.1.count), (mkS r4.1.name), (.slice ao8 r4.1.nodes.length cap8)]) (E := 28) (sz := 6) rfl rfl (fun _ => by kernel_rfl) rfl (by decide) (fun b4 => ?_)
       refine ⟨fun w' s => ((s.selectT 5 [4] (by decide) rfl rfl).heap hle5), ?_⟩
       refine AL.any (rs := [1]) (by kernel_rfl) (by decide) ?_
       refine ALs.cons (i := 1) rfl (Runs.free rfl) rfl rfl ?_ ?_
       ·
        refine OQ.step (OV.quiet (ov_load_box (i := 2) isAgg26 rfl rfl rfl rfl)) ?_
        refine ⟨fun w' s => ((s.selectT 5 [4] (by decide) rfl rfl).heap hle5), ?_⟩
        refine AL.any (rs := [5]) (by kernel_rfl) (by decide) ?_
        refine ALs.cons (i := 5) rfl (Runs.free rfl) rfl rfl ?_ ?_
        ·
         obtain ⟨l2, e5, hm⟩ := bind_some hm
         refine os_app (i := 3) (j := 0) (En := encNode) (xs := xs1) (ys := [(.int .i64 r4.1.kind), (.slice ao7 r4.1.step.strokes.length cap7), (.int .i64 r4.1.step.wait), (.int .i64 r4.1.count), (mkS r4.1.name), (.slice ao8 r4.1.nodes.length cap8)]) underlying26 (by kernel_rfl : (prog.info? 28).map (fun i => (i.zero, i.size, i.bytes)) = some (some (.agg #[(.int .i64 0), (.slice none 0 0), (.int .i64 0), (.int .i64 0), (mkS []), (.slice none 0 0)]), (encNode).size, 88)) rfl (by decide) rfl rfl rfl rfl rfl rfl rl2 rl3 e5 (fun ao9 cap9 rl4 => ?_)
         refine ⟨fun w' s => ((s.selectT 5 [4] (by decide) rfl rfl).heap hle5), ?_⟩
         refine tq (i := 6) rfl (by kernel_rfl) rfl rfl rfl (ov_fieldAddr underlying28 rfl rfl rfl sizeOf26 rfl rfl) ?_
         refine AL.any (rs := [7]) (by kernel_rfl) (by decide) ?_
         refine ALs.cons0 (i := 7) rfl (Runs.free rfl) rfl ?_ ?_
         ·
          refine os_store (i := 2) (vs := [(.slice ao9 (l1 ++ ([r4.1] : List Node)).length cap9)]) (cs' := [(.int .i64 1), (.slice none 0 0), (.int .i64 0), (.int .i64 0), (mkS []), (.slice ao9 (l1 ++ ([r4.1] : List Node)).length cap9)]) sizeOf26 rfl rfl rfl rfl rfl rfl rfl rfl rfl ?_
          refine ⟨fun w' s => ((s.selectT 5 [4] (by decide) rfl rfl).heap hle5), ?_⟩
          refine AL.done (by kernel_rfl) ?_
          refine bn (tn ?_)
          exact ⟨H5, r4.2.1, r4.2.2, (l1 ++ ([r4.1] : List Node)), ao9, cap9, (xs1 ++ [(.int .i64 r4.1.kind), (.slice ao7 r4.1.step.strokes.length cap7), (.int .i64 r4.1.step.wait), (.int .i64 r4.1.count), (mkS r4.1.name), (.slice ao8 r4.1.nodes.length cap8)]), ((hle3.trans hle4).trans hle5), rl4, (Sub.all rfl), fun w' s => (s.selectT 5 [2, 3, 1, 4] (by decide) rfl rfl), hm⟩
         exact ALs.nil
        exact ALs.nil
       exact ALs.nil
      exact ALs.nil
     exact ALs.nil
    replace hm := ite_f hc7 hm
    refine WP.exit (then_exit (then_exit (block_here (tn ?_))))
    exact ⟨H4, r3.2.1, r3.2.2, l1, ao6, cap6, xs1, (hle3.trans hle4), rl2, (Sub.all rfl), fun w' s => s, hm⟩
   rintro g' S' ⟨H6, i2, c2, l3, ao10, cap10, xs2, hle6, rl5, hsub2, hS2, hm⟩
   refine WP.sub hsub2 (WP.weaken hS2 ?_)
   replace hm := (congrFun (congrFun (congrFun hk2 i2) c2) l3).symm.trans hm
   replace h1 := h1.mono hle6
   replace hG := hG.mono hle6
   refine WP.seq (WP.region ?_)
   refine wq rfl rfl rfl (ov_move rfl rfl) ?_
   obtain ⟨r5, e6, hm⟩ := bind_some hm
   refine ws rfl (os_bcon call90 rfl rfl (ref15_Reader_want_con (RefRdr.mk p_r.tokens i2 c2) 2 [125] bp1 ao1 cap1 w0 H0 (.blk b3 28 [(.int .i64 1), (.slice none 0 0), (.int .i64 0), (.int .i64 0), (mkS []), (.slice ao10 l3.length cap10)] :: .row 28 (encNode).size l3.length (.slice ao10 l3.length cap10) xs2 :: .blk b1 28 [(.int .i64 0), (.slice none 0 0), (.int .i64 0), (.int .i64 0), (mkS []), (.slice none 0 0)] :: tl) H6 h1 hc1 hG r5 e6) (fun rr5 H7 ms5 hle7 hR5 => ?_))
   replace h1 := h1.mono hle7
   replace rl5 := rl5.mono hle7
   replace hG := hG.mono hle7
   obtain ⟨rfl, rfl⟩ := hR5
   refine WL.nil (tn (WP.seq (WP.region ?_)))
   refine wq rfl rfl rfl (ov_load_whole (i := 1) isAgg28 sizeOf28 rfl rfl rfl rfl) ?_
   refine ws0 rfl (os_store (i := 3) (vs := [(.int .i64 1), (.slice none 0 0), (.int .i64 0), (.int .i64 0), (mkS []), (.slice ao10 l3.length cap10)]) (cs' := [(.int .i64 1), (.slice none 0 0), (.int .i64 0), (.int .i64 0), (mkS []), (.slice ao10 l3.length cap10)]) sizeOf28 rfl rfl rfl rfl rfl rfl rfl rfl rfl ?_)
   refine WL.nil (tn (WP.ret (then_ret ?_)))
   obtain rfl := Option.some.inj hm
   refine retQ_ret results48 (Res.cell rfl (box_loads (i := 3) isAgg28 sizeOf28 rfl rfl) Res.nil) rfl (fun w' s => ?_)
   obtain ⟨H8, hc10, hle8, h8, s⟩ := St.row_held (s.selectT 4 [2, 0, 1, 3] (by decide) rfl rfl) rl5
   replace h1 := h1.mono hle8
   replace hG := hG.mono hle8
   exact ⟨H8, _, ((((hle1.trans hle2).trans hle6).trans hle7).trans hle8), ⟨none, 0, ao10, cap10, rfl, rfl, SL.nil _ _ _, Nat.le_refl _, h8, hc10⟩, (s.selectT 3 [0] (by decide) rfl rfl)⟩
  replace hm := ite_f hc4 hm
  refine WP.skip (tn ?_)
  exact ⟨H1, r1.2.1, r1.2.2, hle1, (Sub.all rfl), fun w' s => s, hm⟩
 rintro g' S' ⟨H9, i3, c3, hle9, hsub3, hS3, hm⟩
 refine WP.sub hsub3 (WP.weaken hS3 ?_)
 replace hm := (congrFun (congrFun hk1 i3) c3).symm.trans hm
 replace h1 := h1.mono hle9
 replace hG := hG.mono hle9
 refine WP.seq (WP.seq (WP.region ?_))
 refine wq rfl rfl rfl (ov_move rfl rfl) ?_
 obtain ⟨r6, e7, hm⟩ := bind_some hm
 refine ws rfl (os_bcon call89 rfl rfl (ref15_Reader_is_con (RefRdr.mk p_r.tokens i3 c3) 0 [114, 101, 112, 101, 97, 116] bp1 ao1 cap1 w0 H0 (.blk b1 28 [(.int .i64 0), (.slice none 0 0), (.int .i64 0), (.int .i64 0), (mkS []), (.slice none 0 0)] :: tl) H9 h1 hc1 hG r6 e7) (fun rr6 H10 ms6 hle10 hR6 => ?_))
 replace h1 := h1.mono hle10
 replace hG := hG.mono hle10
 obtain ⟨rfl, rfl⟩ := hR6
 refine WL.nil (tn ?_)
 refine WP.cond rfl (fun hc11 => ?_) (fun hc11 => ?_)
 ·
  replace hm := ite_t hc11 hm
  refine WP.seq (WP.region ?_)
  refine wq rfl rfl rfl (ov_move rfl rfl) ?_
  obtain ⟨r7, e8, hm⟩ := bind_some hm
  refine ws rfl (os_bcon call90 rfl rfl (ref15_Reader_want_con (RefRdr.mk p_r.tokens r6.2.1 r6.2.2) 1 [] bp1 ao1 cap1 w0 H0 (.blk b1 28 [(.int .i64 0), (.slice none 0 0), (.int .i64 0), (.int .i64 0), (mkS []), (.slice none 0 0)] :: tl) H10 h1 hc1 hG r7 e8) (fun rr7 H11 ms7 hle11 hR7 => ?_))
  replace h1 := h1.mono hle11
  replace hG := hG.mono hle11
  obtain ⟨rfl, rfl⟩ := hR7
  refine wq rfl rfl rfl (ov_assign rfl rfl) ?_
  refine WL.nil (tn (WP.seq (WP.region ?_)))
  refine wq rfl rfl rfl (ov_move rfl rfl) ?_
  obtain ⟨r8, e9, hm⟩ := bind_some hm
  refine wo rfl (oq_con (r := (.int .i64 r8)) call91 rfl rfl (fun w' s => ⟨_, (ref12_Worth_con r7.1  w' H11 s.hold hG r8 e9)⟩)) ?_
  refine wq rfl rfl rfl (ov_move rfl rfl) ?_
  obtain ⟨r9, e10, hm⟩ := bind_some hm
  refine ws rfl (os_bcon call48 rfl rfl (hself (RefRdr.mk p_r.tokens r7.2.1 r7.2.2) bp1 ao1 cap1 w0 H0 (.blk b1 28 [(.int .i64 0), (.slice none 0 0), (.int .i64 0), (.int .i64 0), (mkS []), (.slice none 0 0)] :: tl) H11 h1 hc1 hG r9 e10) (fun rr8 H12 ms8 hle12 hR8 => ?_))
  replace h1 := h1.mono hle12
  replace hG := hG.mono hle12
  obtain ⟨ao11, cap11, ao12, cap12, rfl, rfl, h9, hc12, h10, hc13⟩ := hR8
  have rl6 : RL H12 encNode ([r9.1] : List Node) [(.int .i64 r9.1.kind), (.slice ao11 r9.1.step.strokes.length cap11), (.int .i64 r9.1.step.wait), (.int .i64 r9.1.count), (mkS r9.1.name), (.slice ao12 r9.1.nodes.length cap12)] := RL.cons (cs := [(.int .i64 r9.1.kind), (.slice ao11 r9.1.step.strokes.length cap11), (.int .i64 r9.1.step.wait), (.int .i64 r9.1.count), (mkS r9.1.name), (.slice ao12 r9.1.nodes.length cap12)]) (xs := []) (encNode_make ⟨ao11, cap11, ao12, cap12, rfl, h9, hc12, h10, hc13⟩) (RL.nil _ _)
  refine ws rfl (os_buildSlice (cs := [(.int .i64 r9.1.kind), (.slice ao11 r9.1.step.strokes.length cap11), (.int .i64 r9.1.step.wait), (.int .i64 r9.1.count), (mkS r9.1.name), (.slice ao12 r9.1.nodes.length cap12)]) (E := 28) (sz := 6) rfl rfl (fun _ => by kernel_rfl) rfl (by decide) (fun b5 => ?_))
  refine WL.held rl6 (fun H13 hc14 hle13 h11 => ?_)
  replace h1 := h1.mono hle13
  replace hG := hG.mono hle13
  refine wq rfl rfl rfl (ov_build (r := (.agg #[(.int .i64 2), (.slice none 0 0), (.int .i64 0), (.int .i64 r8), (mkS []), (.slice (some ⟨b5, 0, none⟩) ([r9.1] : List Node).length 1)])) rfl rfl (fun _ => by kernel_rfl)) ?_
  refine ws0 rfl (os_store (i := 1) (vs := [(.int .i64 2), (.slice none 0 0), (.int .i64 0), (.int .i64 r8), (mkS []), (.slice (some ⟨b5, 0, none⟩) ([r9.1] : List Node).length 1)]) (cs' := [(.int .i64 2), (.slice none 0 0), (.int .i64 0), (.int .i64 r8), (mkS []), (.slice (some ⟨b5, 0, none⟩) ([r9.1] : List Node).length 1)]) sizeOf28 rfl rfl rfl rfl rfl rfl rfl rfl rfl ?_)
  refine WL.nil (tn (WP.ret (then_ret ?_)))
  obtain rfl := Option.some.inj hm
  refine retQ_ret results48 (Res.cell rfl (box_loads (i := 1) isAgg28 sizeOf28 rfl rfl) Res.nil) rfl (fun w' s => ?_)
  exact ⟨H13, _, ((((hle9.trans hle10).trans hle11).trans hle12).trans hle13), ⟨none, 0, (some ⟨b5, 0, none⟩), 1, rfl, rfl, SL.nil _ _ _, Nat.le_refl _, h11, hc14⟩, (s.selectT 2 [0] (by decide) rfl rfl)⟩
 replace hm := ite_f hc11 hm
 refine WP.skip (tn (WP.seq (WP.seq (WP.region ?_))))
 refine wq rfl rfl rfl (ov_move rfl rfl) ?_
 obtain ⟨r10, e11, hm⟩ := bind_some hm
 refine ws rfl (os_bcon call89 rfl rfl (ref15_Reader_is_con (RefRdr.mk p_r.tokens r6.2.1 r6.2.2) 0 [105, 102] bp1 ao1 cap1 w0 H0 (.blk b1 28 [(.int .i64 0), (.slice none 0 0), (.int .i64 0), (.int .i64 0), (mkS []), (.slice none 0 0)] :: tl) H10 h1 hc1 hG r10 e11) (fun rr9 H14 ms9 hle14 hR9 => ?_))
 replace h1 := h1.mono hle14
 replace hG := hG.mono hle14
 obtain ⟨rfl, rfl⟩ := hR9
 refine WL.nil (tn ?_)
 refine WP.cond rfl (fun hc15 => ?_) (fun hc15 => ?_)
 ·
  replace hm := ite_t hc15 hm
  refine WP.seq (WP.region ?_)
  refine wq rfl rfl rfl (ov_move rfl rfl) ?_
  obtain ⟨r11, e12, hm⟩ := bind_some hm
  refine ws rfl (os_bcon call90 rfl rfl (ref15_Reader_want_con (RefRdr.mk p_r.tokens r10.2.1 r10.2.2) 0 [] bp1 ao1 cap1 w0 H0 (.blk b1 28 [(.int .i64 0), (.slice none 0 0), (.int .i64 0), (.int .i64 0), (mkS []), (.slice none 0 0)] :: tl) H14 h1 hc1 hG r11 e12) (fun rr10 H15 ms10 hle15 hR10 => ?_))
  replace h1 := h1.mono hle15
  replace hG := hG.mono hle15
  obtain ⟨rfl, rfl⟩ := hR10
  refine wq rfl rfl rfl (ov_assign rfl rfl) ?_
  refine WL.nil (tn (WP.seq (WP.region ?_)))
  refine wq rfl rfl rfl (ov_move rfl rfl) ?_
  obtain ⟨r12, e13, hm⟩ := bind_some hm
  refine ws rfl (os_bcon call48 rfl rfl (hself (RefRdr.mk p_r.tokens r11.2.1 r11.2.2) bp1 ao1 cap1 w0 H0 (.blk b1 28 [(.int .i64 0), (.slice none 0 0), (.int .i64 0), (.int .i64 0), (mkS []), (.slice none 0 0)] :: tl) H15 h1 hc1 hG r12 e13) (fun rr11 H16 ms11 hle16 hR11 => ?_))
  replace h1 := h1.mono hle16
  replace hG := hG.mono hle16
  obtain ⟨ao13, cap13, ao14, cap14, rfl, rfl, h12, hc16, h13, hc17⟩ := hR11
  refine ws rfl (os_alloc (cs := [(.int .i64 0), (.slice none 0 0), (.int .i64 0), (.int .i64 0), (mkS []), (.slice none 0 0)]) zeroValue28 rfl rfl (fun b6 => ?_))
  refine ws0 rfl (os_store (i := 0) (vs := [(.int .i64 r12.1.kind), (.slice ao13 r12.1.step.strokes.length cap13), (.int .i64 r12.1.step.wait), (.int .i64 r12.1.count), (mkS r12.1.name), (.slice ao14 r12.1.nodes.length cap14)]) (cs' := [(.int .i64 r12.1.kind), (.slice ao13 r12.1.step.strokes.length cap13), (.int .i64 r12.1.step.wait), (.int .i64 r12.1.count), (mkS r12.1.name), (.slice ao14 r12.1.nodes.length cap14)]) sizeOf28 rfl rfl rfl rfl rfl rfl rfl rfl rfl ?_)
  refine WL.nil (tn (WP.seq (WP.region ?_)))
  refine wq rfl rfl rfl (ov_move rfl rfl) ?_
  refine WL.weaken (fun _ s => s.selectT 3 [1, 0, 2] (by decide) rfl rfl) ?_
  obtain ⟨r13, e14, hm⟩ := bind_some hm
  refine ws rfl (os_bcon call90 rfl rfl (ref15_Reader_want_con (RefRdr.mk p_r.tokens r12.2.1 r12.2.2) 0 [101, 108, 115, 101] bp1 ao1 cap1 w0 H0 (.blk b6 28 [(.int .i64 r12.1.kind), (.slice ao13 r12.1.step.strokes.length cap13), (.int .i64 r12.1.step.wait), (.int .i64 r12.1.count), (mkS r12.1.name), (.slice ao14 r12.1.nodes.length cap14)] :: .blk b1 28 [(.int .i64 0), (.slice none 0 0), (.int .i64 0), (.int .i64 0), (mkS []), (.slice none 0 0)] :: tl) H16 h1 hc1 hG r13 e14) (fun rr12 H17 ms12 hle17 hR12 => ?_))
  replace h12 := h12.mono hle17
  replace h13 := h13.mono hle17
  replace h1 := h1.mono hle17
  replace hG := hG.mono hle17
  obtain ⟨rfl, rfl⟩ := hR12
  refine WL.nil (tn (WP.seq ?_))
  refine WP.region_any (S₀ := St w0 H0 (.blk b6 28 [(.int .i64 r12.1.kind), (.slice ao13 r12.1.step.strokes.length cap13), (.int .i64 r12.1.step.wait), (.int .i64 r12.1.count), (mkS r12.1.name), (.slice ao14 r12.1.nodes.length cap14)] :: tl) H17) 7 rfl (by kernel_rfl) (fun w' s => (s.selectT 3 [1] (by decide) rfl rfl)) (fun _ s => s.drew) ?_
  refine tq (i := 0) rfl (by kernel_rfl) rfl rfl rfl (ov_move rfl rfl) ?_
  refine tq (i := 1) rfl (by kernel_rfl) rfl rfl rfl (ov_load_whole (i := 0) isAgg28 sizeOf28 rfl rfl rfl rfl) ?_
  refine tq (i := 2) rfl (by kernel_rfl) rfl rfl rfl (ov_move rfl rfl) ?_
  refine AL.any (rs := [3]) (by kernel_rfl) (by decide) ?_
  refine ALs.cons (i := 3) rfl (Runs.free rfl) rfl rfl ?_ ?_
  ·
   obtain ⟨r14, e15, hm⟩ := bind_some hm
   refine os_bcon call48 rfl rfl (hself (RefRdr.mk p_r.tokens r13.2.1 r13.2.2) bp1 ao1 cap1 w0 H0 (.blk b6 28 [(.int .i64 r12.1.kind), (.slice ao13 r12.1.step.strokes.length cap13), (.int .i64 r12.1.step.wait), (.int .i64 r12.1.count), (mkS r12.1.name), (.slice ao14 r12.1.nodes.length cap14)] :: .blk b1 28 [(.int .i64 0), (.slice none 0 0), (.int .i64 0), (.int .i64 0), (mkS []), (.slice none 0 0)] :: tl) H17 h1 hc1 hG r14 e15) (fun rr13 H18 ms13 hle18 hR13 => ?_)
   replace h12 := h12.mono hle18
   replace h13 := h13.mono hle18
   replace h1 := h1.mono hle18
   replace hG := hG.mono hle18
   obtain ⟨ao15, cap15, ao16, cap16, rfl, rfl, h14, hc18, h15, hc19⟩ := hR13
   refine ⟨fun w' s => ((s.selectT 3 [1] (by decide) rfl rfl).heap hle18), ?_⟩
   refine AL.any (rs := [4]) (by kernel_rfl) (by decide) ?_
   refine ALs.cons (i := 4) rfl (Runs.free rfl) rfl rfl ?_ ?_
   ·
    have rl7 : RL H18 encNode ([r12.1, r14.1] : List Node) [(.int .i64 r12.1.kind), (.slice ao13 r12.1.step.strokes.length cap13), (.int .i64 r12.1.step.wait), (.int .i64 r12.1.count), (mkS r12.1.name), (.slice ao14 r12.1.nodes.length cap14), (.int .i64 r14.1.kind), (.slice ao15 r14.1.step.strokes.length cap15), (.int .i64 r14.1.step.wait), (.int .i64 r14.1.count), (mkS r14.1.name), (.slice ao16 r14.1.nodes.length cap16)] := RL.cons (cs := [(.int .i64 r12.1.kind), (.slice ao13 r12.1.step.strokes.length cap13), (.int .i64 r12.1.step.wait), (.int .i64 r12.1.count), (mkS r12.1.name), (.slice ao14 r12.1.nodes.length cap14)]) (xs := [(.int .i64 r14.1.kind), (.slice ao15 r14.1.step.strokes.length cap15), (.int .i64 r14.1.step.wait), (.int .i64 r14.1.count), (mkS r14.1.name), (.slice ao16 r14.1.nodes.length cap16)]) (encNode_make ⟨ao13, cap13, ao14, cap14, rfl, h12, hc16, h13, hc17⟩) (RL.cons (cs := [(.int .i64 r14.1.kind), (.slice ao15 r14.1.step.strokes.length cap15), (.int .i64 r14.1.step.wait), (.int .i64 r14.1.count), (mkS r14.1.name), (.slice ao16 r14.1.nodes.length cap16)]) (xs := []) (encNode_make ⟨ao15, cap15, ao16, cap16, rfl, h14, hc18, h15, hc19⟩) (RL.nil _ _))
    refine os_buildSlice (cs := [(.int .i64 r12.1.kind), (.slice ao13 r12.1.step.strokes.length cap13), (.int .i64 r12.1.step.wait), (.int .i64 r12.1.count), (mkS r12.1.name), (.slice ao14 r12.1.nodes.length cap14), (.int .i64 r14.1.kind), (.slice ao15 r14.1.step.strokes.length cap15), (.int .i64 r14.1.step.wait), (.int .i64 r14.1.count), (mkS r14.1.name), (.slice ao16 r14.1.nodes.length cap16)]) (E := 28) (sz := 6) rfl rfl (fun _ => by kernel_rfl) rfl (by decide) (fun b7 => ?_)
    refine ⟨fun w' s => ((s.selectT 4 [2] (by decide) rfl rfl).heap hle18), ?_⟩
    refine tq (i := 5) rfl (by kernel_rfl) rfl rfl rfl (ov_build (r := (.agg #[(.int .i64 3), (.slice none 0 0), (.int .i64 0), (.int .i64 0), (mkS r11.1), (.slice (some ⟨b7, 0, none⟩) ([r12.1, r14.1] : List Node).length 2)])) rfl rfl (fun _ => by kernel_rfl)) ?_
    refine AL.any (rs := [6]) (by kernel_rfl) (by decide) ?_
    refine ALs.cons0 (i := 6) rfl (Runs.free rfl) rfl ?_ ?_
    ·
     refine os_store (i := 3) (vs := [(.int .i64 3), (.slice none 0 0), (.int .i64 0), (.int .i64 0), (mkS r11.1), (.slice (some ⟨b7, 0, none⟩) ([r12.1, r14.1] : List Node).length 2)]) (cs' := [(.int .i64 3), (.slice none 0 0), (.int .i64 0), (.int .i64 0), (mkS r11.1), (.slice (some ⟨b7, 0, none⟩) ([r12.1, r14.1] : List Node).length 2)]) sizeOf28 rfl rfl rfl rfl rfl rfl rfl rfl rfl ?_
     refine ⟨fun w' s => ((s.selectT 4 [2] (by decide) rfl rfl).heap hle18), ?_⟩
     refine AL.done (by kernel_rfl) ?_
     refine tn (WP.ret (then_ret ?_))
     obtain rfl := Option.some.inj hm
     refine retQ_ret results48 (Res.cell rfl (box_loads (i := 3) isAgg28 sizeOf28 rfl rfl) Res.nil) rfl (fun w' s => ?_)
     obtain ⟨H19, hc20, hle19, h16, s⟩ := St.row_held (s.selectT 4 [0, 1, 2, 3] (by decide) rfl rfl) rl7
     replace h1 := h1.mono hle19
     replace hG := hG.mono hle19
     exact ⟨H19, _, (((((((hle9.trans hle10).trans hle14).trans hle15).trans hle16).trans hle17).trans hle18).trans hle19), ⟨none, 0, (some ⟨b7, 0, none⟩), 2, rfl, rfl, SL.nil _ _ _, Nat.le_refl _, h16, hc20⟩, (s.selectT 3 [0] (by decide) rfl rfl)⟩
    exact ALs.nil
   exact ALs.nil
  exact ALs.nil
 replace hm := ite_f hc15 hm
 refine WP.skip (tn (WP.seq (WP.region ?_)))
 refine wq rfl rfl rfl (ov_move rfl rfl) ?_
 obtain ⟨r15, e16, hm⟩ := bind_some hm
 refine ws rfl (os_bcon call92 rfl rfl (ref15_Reader_step_con (RefRdr.mk p_r.tokens r10.2.1 r10.2.2) bp1 ao1 cap1 w0 H0 (.blk b1 28 [(.int .i64 0), (.slice none 0 0), (.int .i64 0), (.int .i64 0), (mkS []), (.slice none 0 0)] :: tl) H14 h1 hc1 hG r15 e16) (fun rr14 H20 ms14 hle20 hR14 => ?_))
 obtain ⟨ao17, cap17, ao18, cap18, rfl, rfl, h17, hc21, h18, hc22⟩ := hR14
 refine ws0 rfl (os_store (i := 1) (vs := [(.int .i64 r15.1.kind), (.slice ao17 r15.1.step.strokes.length cap17), (.int .i64 r15.1.step.wait), (.int .i64 r15.1.count), (mkS r15.1.name), (.slice ao18 r15.1.nodes.length cap18)]) (cs' := [(.int .i64 r15.1.kind), (.slice ao17 r15.1.step.strokes.length cap17), (.int .i64 r15.1.step.wait), (.int .i64 r15.1.count), (mkS r15.1.name), (.slice ao18 r15.1.nodes.length cap18)]) sizeOf28 rfl rfl rfl rfl rfl rfl rfl rfl rfl ?_)
 refine WL.nil (tn (WP.ret ?_))
 obtain rfl := Option.some.inj hm
 refine retQ_ret results48 (Res.cell rfl (box_loads (i := 1) isAgg28 sizeOf28 rfl rfl) Res.nil) rfl (fun w' s => ?_)
 exact ⟨H20, _, (((hle9.trans hle10).trans hle14).trans hle20), ⟨ao17, cap17, ao18, cap18, rfl, rfl, h17, hc21, h18, hc22⟩, (s.selectT 2 [0] (by decide) rfl rfl)⟩
theorem ref15_Reader_node_con (n : Nat) : ∀ (p_r : RefRdr) (bp1 : Nat) (ao1 : Option Addr) (cap1 : Nat) (w0 : World) (H0 : Heap) (tl : List Ent) (H : Heap) (h1 : SL H encToken ao1 p_r.tokens) (hc1 : p_r.tokens.length ≤ cap1) (hG : Glob H) (r : (Node × Int × Bool)) (hm : ref15_Reader_node n p_r = some r),
  BCon prog 48 [(pB bp1 0)] w0 H0 (.blk bp1 95 [(.slice ao1 p_r.tokens.length cap1), (.int .i64 p_r.at_), (.bool p_r.bad)] :: tl) H (fun v H' ms' => ∃ (ao2 : Option Addr) (cap2 : Nat) (ao3 : Option Addr) (cap3 : Nat), v = (.agg #[(.int .i64 r.1.kind), (.slice ao2 r.1.step.strokes.length cap2), (.int .i64 r.1.step.wait), (.int .i64 r.1.count), (mkS r.1.name), (.slice ao3 r.1.nodes.length cap3)]) ∧ ms' = (.blk bp1 95 [(.slice ao1 p_r.tokens.length cap1), (.int .i64 r.2.1), (.bool r.2.2)] :: tl) ∧ SL H' encStroke ao2 r.1.step.strokes ∧ r.1.step.strokes.length ≤ cap2 ∧ SL H' encNode ao3 r.1.nodes ∧ r.1.nodes.length ≤ cap3) := by
 induction n with
 | zero => intro p_r bp1 ao1 cap1 w0 H0 tl H h1 hc1 hG r hm; exact (none_some hm).elim
 | succ n ih => intro p_r bp1 ao1 cap1 w0 H0 tl H h1 hc1 hG r hm; exact ref15_Reader_node_body_con (ref15_Reader_node n) ih p_r bp1 ao1 cap1 w0 H0 tl H h1 hc1 hG r hm
end Go.Proofs.YtgpfgnpdbmbknaaGreatDoor.W
