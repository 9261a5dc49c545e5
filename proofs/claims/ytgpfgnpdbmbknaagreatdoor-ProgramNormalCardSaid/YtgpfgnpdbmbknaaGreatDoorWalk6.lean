import Derived.Test.YtgpfgnpdbmbknaaGreatDoorPlain
import Derived.Test.YtgpfgnpdbmbknaaGreatDoorEqs
import Derived.Test.YtgpfgnpdbmbknaaGreatDoorProg
import Derived.Test.YtgpfgnpdbmbknaaGreatDoorExt
import Derived.Test.YtgpfgnpdbmbknaaGreatDoorClone
import Derived.Test.YtgpfgnpdbmbknaaGreatDoorSort
import Derived.Test.YtgpfgnpdbmbknaaGreatDoorWalk2
import Derived.Test.YtgpfgnpdbmbknaaGreatDoorWalk3
import Derived.Test.YtgpfgnpdbmbknaaGreatDoorWalk5
set_option linter.unusedVariables false
set_option maxRecDepth 100000
set_option maxHeartbeats 4000000
namespace Go.Proofs.YtgpfgnpdbmbknaaGreatDoor.W
open Go Go.RowKit Go.Proofs.Tryz
theorem ref15_node_con (p_x : Node) (ao1 : Option Addr) (cap1 : Nat) (ao2 : Option Addr) (cap2 : Nat) (w : World) (H : Heap) (hH : Le H (hp w)) (h1 : SL H encStroke ao1 p_x.step.strokes) (hc1 : p_x.step.strokes.length ≤ cap1) (h2 : SL H encNode ao2 p_x.nodes) (hc2 : p_x.nodes.length ≤ cap2) (hG : Glob H) (r : Int) (hm : ref15_node p_x = some r) :
  Con prog 112 [(.agg #[(.int .i64 p_x.kind), (.slice ao1 p_x.step.strokes.length cap1), (.int .i64 p_x.step.wait), (.int .i64 p_x.count), (mkS p_x.name), (.slice ao2 p_x.nodes.length cap2)])] w H (fun v _ => v = (.int .i64 r)) := by
 unfold ref15_node at hm
 refine con_of hH func112 rfl 36 ntmps112 rfl ?_
 refine WP.seq (WP.region ?_)
 refine ws rfl (os_box (cs := [(.int .i64 p_x.kind), (.slice ao1 p_x.step.strokes.length cap1), (.int .i64 p_x.step.wait), (.int .i64 p_x.count), (mkS p_x.name), (.slice ao2 p_x.nodes.length cap2)]) rfl rfl rfl (fun b1 => ?_))
 refine Va rfl (WL.nil (tn (WP.seq (WP.seq (WP.region (V rfl (ov_fieldAddr underlying28 rfl rfl rfl sizeOf3 rfl rfl) (Vl 0 isAgg3 rfl (V rfl (ov_lss rfl rfl rfl) (Vm rfl ?_)))))))))
 refine WL.cut_bool 4 10 (x := ((decide (p_x.kind < 0)) || (decide (p_x.kind > 3)))) ?_ ?_
 ·
  rcases Bool.eq_false_or_eq_true (decide (p_x.kind < 0)) with hc3 | hc3
  ·
   refine Vi rfl (Idle.no rfl rfl rfl hc3) (Vi rfl (Idle.no rfl rfl rfl hc3) (Vi rfl (Idle.no rfl rfl rfl hc3) (V rfl (ov_pick_true rfl (guard_eq rfl hc3) rfl) ?_)))
   exact WL.nil ⟨Sub.cons' rfl (congrArg Value.bool (orT hc3)) (Sub.dropn 4 rfl), fun _ s => s⟩
  refine wy hc3 rfl (ov_fieldAddr underlying28 rfl rfl rfl sizeOf3 rfl rfl) ?_
  refine wy hc3 rfl (ov_load_box (i := 0) isAgg3 rfl rfl rfl rfl) ?_
  refine wy hc3 rfl (ov_gtr rfl rfl rfl) ?_
  refine V rfl (ov_pick_false rfl (guard_eq rfl hc3) rfl) ?_
  exact WL.nil ⟨Sub.cons' rfl (congrArg Value.bool (orF hc3)) (Sub.dropn 4 rfl), fun _ s => s⟩
 refine WL.nil (tn ?_)
 refine WP.cond rfl (fun hc4 => ?_) (fun hc4 => ?_)
 ·
  replace hm := ite_t hc4 hm
  refine WP.seq (WP.region (Va rfl (WL.nil (tn (WP.ret (then_ret ?_))))))
  obtain rfl := Option.some.inj hm
  refine retQ_ret results112 (Res.tmp rfl Res.nil) rfl (fun w' s => ⟨s.below, ?_⟩)
  exact rfl
 replace hm := ite_f hc4 hm
 refine WP.skip (tn (WP.seq (WP.seq (WP.region (V rfl (ov_load_whole (i := 0) isAgg28 sizeOf28 rfl rfl rfl rfl) ?_)))))
 obtain ⟨r1, e1, hm⟩ := bind_some hm
 refine wo rfl (oq_con (r := (.bool r1)) call144 rfl rfl (fun w' s => ⟨_, (ref15_shape_con p_x ao1 cap1 ao2 cap2  w' H s.hold h1 hc1 h2 hc2 hG r1 e1)⟩)) ?_
 refine V rfl (ov_not rfl rfl) (WL.nil (tn ?_))
 refine WP.cond rfl (fun hc5 => ?_) (fun hc5 => ?_)
 ·
  replace hm := ite_t hc5 hm
  refine WP.seq (WP.region (Va rfl (WL.nil (tn (WP.ret (then_ret ?_))))))
  obtain rfl := Option.some.inj hm
  refine retQ_ret results112 (Res.tmp rfl Res.nil) rfl (fun w' s => ⟨s.below, ?_⟩)
  exact rfl
 replace hm := ite_f hc5 hm
 refine WP.skip (tn ?_)
 obtain ⟨k1, hk1, hm⟩ := joinK_some hm
 refine WP.seq_join (fun g' S' => Sub [(1000000007, (.bool false))] g' ∧ (∀ w', S' w' → St w H [] H w') ∧ k1 = some r) ?_ ?_
 ·
  refine WP.seq (WP.region (V rfl (ov_fieldAddr underlying28 rfl rfl rfl sizeOf3 rfl rfl) (Vl 0 isAgg3 rfl (WL.nil (tn (WP.block (WP.seq (WP.region (V rfl (ov_eql rfl rfl rfl) (Va rfl (WL.nil (tn ?_))))))))))))
  refine WP.cond rfl (fun hc6 => ?_) (fun hc6 => ?_)
  ·
   replace hm := ite_t hc6 hm
   refine WP.seq (WP.region (V rfl (ov_fieldAddr underlying28 rfl rfl rfl sizeOf25 rfl rfl) (V rfl (ov_load_boxes (i := 0) (vs := [(.slice ao1 p_x.step.strokes.length cap1), (.int .i64 p_x.step.wait)]) isAgg25 sizeOf25 rfl rfl rfl rfl (part_of rfl)) ?_)))
   obtain ⟨r2, e2, hm⟩ := bind_some hm
   refine wo rfl (oq_con (r := (.int .i64 r2)) call132 rfl rfl (fun w' s => ⟨_, (ref13_CheckStep_con p_x.step ao1 cap1  w' H s.hold h1 hc1 hG r2 e2)⟩)) ?_
   refine Va rfl (WL.nil (tn (WP.ret (block_ret (then_ret ?_)))))
   obtain rfl := Option.some.inj hm
   refine retQ_ret results112 (Res.tmp rfl Res.nil) rfl (fun w' s => ⟨s.below, ?_⟩)
   exact rfl
  replace hm := ite_f hc6 hm
  refine WP.seq (WP.region (V rfl (ov_eql rfl rfl rfl) (Va rfl (WL.nil (tn ?_)))))
  refine WP.cond rfl (fun hc7 => ?_) (fun hc7 => ?_)
  ·
   replace hm := ite_t hc7 hm
   refine WP.seq (WP.region (V rfl (ov_fieldAddr underlying28 rfl rfl rfl sizeOf3 rfl rfl) (Vl 0 isAgg3 rfl (V rfl (ov_lss rfl rfl rfl) (Vm rfl ?_)))))
   refine WL.cut_bool 4 30 (x := ((decide (p_x.count < 1)) || (decide (p_x.count > 64)))) ?_ ?_
   ·
    rcases Bool.eq_false_or_eq_true (decide (p_x.count < 1)) with hc8 | hc8
    ·
     refine Vi rfl (Idle.no rfl rfl rfl hc8) (Vi rfl (Idle.no rfl rfl rfl hc8) (Vi rfl (Idle.no rfl rfl rfl hc8) (V rfl (ov_pick_true rfl (guard_eq rfl hc8) rfl) ?_)))
     exact WL.nil ⟨Sub.cons' rfl (congrArg Value.bool (orT hc8)) (Sub.dropn 4 rfl), fun _ s => s⟩
    refine wy hc8 rfl (ov_fieldAddr underlying28 rfl rfl rfl sizeOf3 rfl rfl) ?_
    refine wy hc8 rfl (ov_load_box (i := 0) isAgg3 rfl rfl rfl rfl) ?_
    refine wy hc8 rfl (ov_gtr rfl rfl rfl) ?_
    refine V rfl (ov_pick_false rfl (guard_eq rfl hc8) rfl) ?_
    exact WL.nil ⟨Sub.cons' rfl (congrArg Value.bool (orF hc8)) (Sub.dropn 4 rfl), fun _ s => s⟩
   refine WL.nil (tn ?_)
   refine WP.cond rfl (fun hc9 => ?_) (fun hc9 => ?_)
   ·
    replace hm := ite_t hc9 hm
    refine WP.seq (WP.region (Va rfl (WL.nil (tn (WP.ret (block_ret (then_ret ?_)))))))
    obtain rfl := Option.some.inj hm
    refine retQ_ret results112 (Res.tmp rfl Res.nil) rfl (fun w' s => ⟨s.below, ?_⟩)
    exact rfl
   replace hm := ite_f hc9 hm
   refine WP.skip (bn (tn ?_))
   exact ⟨(Sub.all rfl), fun w' s => (s.select [] (by decide) rfl), hm⟩
  replace hm := ite_f hc7 hm
  refine WP.seq (WP.region (V rfl (ov_eql rfl rfl rfl) (Va rfl (WL.nil (tn ?_)))))
  refine WP.cond rfl (fun hc10 => ?_) (fun hc10 => ?_)
  ·
   replace hm := ite_t hc10 hm
   refine WP.seq (WP.region (V rfl (ov_fieldAddr underlying28 rfl rfl rfl sizeOf9 rfl rfl) (Vl 0 isAgg9 rfl ?_)))
   obtain ⟨r3, e3, hm⟩ := bind_some hm
   refine wo rfl (oq_con (r := (.int .i64 r3)) call127 rfl rfl (fun w' s => ⟨_, (ref12_Word_con p_x.name  w' H s.hold hG r3 e3)⟩)) ?_
   refine Va rfl (WL.nil (tn (WP.ret (block_ret (then_ret ?_)))))
   obtain rfl := Option.some.inj hm
   refine retQ_ret results112 (Res.tmp rfl Res.nil) rfl (fun w' s => ⟨s.below, ?_⟩)
   exact rfl
  replace hm := ite_f hc10 hm
  refine WP.skip (bn (tn ?_))
  exact ⟨(Sub.all rfl), fun w' s => (s.select [] (by decide) rfl), hm⟩
 rintro g' S' ⟨hsub1, hS1, hm⟩
 refine WP.sub hsub1 (WP.weaken hS1 ?_)
 replace hm := hk1.symm.trans hm
 refine WP.seq (WP.region (Va rfl (WL.nil (tn (WP.ret ?_)))))
 obtain rfl := Option.some.inj hm
 refine retQ_ret results112 (Res.tmp rfl Res.nil) rfl (fun w' s => ⟨s.below, ?_⟩)
 exact rfl
theorem ref15_nodes_body_con (self : Node → Option Int) (hself : ∀ (p_x : Node) (ao1 : Option Addr) (cap1 : Nat) (ao2 : Option Addr) (cap2 : Nat) (w : World) (H : Heap) (hH : Le H (hp w)) (h1 : SL H encStroke ao1 p_x.step.strokes) (hc1 : p_x.step.strokes.length ≤ cap1) (h2 : SL H encNode ao2 p_x.nodes) (hc2 : p_x.nodes.length ≤ cap2) (hG : Glob H) (r : Int) (hm : self p_x = some r), Con prog 71 [(.agg #[(.int .i64 p_x.kind), (.slice ao1 p_x.step.strokes.length cap1), (.int .i64 p_x.step.wait), (.int .i64 p_x.count), (mkS p_x.name), (.slice ao2 p_x.nodes.length cap2)])] w H (fun v _ => v = (.int .i64 r))) (p_x : Node) (ao1 : Option Addr) (cap1 : Nat) (ao2 : Option Addr) (cap2 : Nat) (w : World) (H : Heap) (hH : Le H (hp w)) (h1 : SL H encStroke ao1 p_x.step.strokes) (hc1 : p_x.step.strokes.length ≤ cap1) (h2 : SL H encNode ao2 p_x.nodes) (hc2 : p_x.nodes.length ≤ cap2) (hG : Glob H) (r : Int) (hm : ref15_nodes_body self p_x = some r) :
  Con prog 71 [(.agg #[(.int .i64 p_x.kind), (.slice ao1 p_x.step.strokes.length cap1), (.int .i64 p_x.step.wait), (.int .i64 p_x.count), (mkS p_x.name), (.slice ao2 p_x.nodes.length cap2)])] w H (fun v _ => v = (.int .i64 r)) := by
 unfold ref15_nodes_body at hm
 refine con_of hH func71 rfl 27 ntmps71 rfl ?_
 refine WP.seq (WP.region ?_)
 refine ws rfl (os_box (cs := [(.int .i64 p_x.kind), (.slice ao1 p_x.step.strokes.length cap1), (.int .i64 p_x.step.wait), (.int .i64 p_x.count), (mkS p_x.name), (.slice ao2 p_x.nodes.length cap2)]) rfl rfl rfl (fun b1 => ?_))
 refine Va rfl (WL.nil (tn (WP.seq (WP.seq (WP.region (V rfl (ov_load_whole (i := 0) isAgg28 sizeOf28 rfl rfl rfl rfl) ?_))))))
 obtain ⟨r1, e1, hm⟩ := bind_some hm
 refine wo rfl (oq_con (r := (.int .i64 r1)) call112 rfl rfl (fun w' s => ⟨_, (ref15_node_con p_x ao1 cap1 ao2 cap2  w' H s.hold h1 hc1 h2 hc2 hG r1 e1)⟩)) ?_
 refine Va rfl (WL.nil (tn (WP.seq (WP.region (Vm rfl (V rfl (ov_neq rfl rfl rfl) (WL.nil (tn ?_))))))))
 refine WP.cond rfl (fun hc3 => ?_) (fun hc3 => ?_)
 ·
  replace hm := ite_t hc3 hm
  refine WP.seq (WP.region (Vm rfl (Va rfl (WL.nil (tn (WP.ret (then_ret ?_)))))))
  obtain rfl := Option.some.inj hm
  refine retQ_ret results71 (Res.tmp rfl Res.nil) rfl (fun w' s => ⟨s.below, ?_⟩)
  exact rfl
 replace hm := ite_f hc3 hm
 refine WP.skip (tn ?_)
 obtain ⟨k1, hk1, hm⟩ := joinK_some hm
 refine WP.seq_join (fun g' S' => Sub [(1000000007, (.bool false))] g' ∧ (∀ w', S' w' → St w H [] H w') ∧ k1 = some r) ?_ ?_
 ·
  refine WP.seq (WP.region (Va rfl (WL.nil (tn (WP.block ?_)))))
  refine WP.loop (fun m1 g' S' => ∃ (i1 : Int), Sub [(1, (pB b1 0)), (4, (.int .i64 i1)), (1000000007, (.bool false))] g' ∧ (∀ w', S' w' → St w H [.blk b1 28 [(.int .i64 p_x.kind), (.slice ao1 p_x.step.strokes.length cap1), (.int .i64 p_x.step.wait), (.int .i64 p_x.count), (mkS p_x.name), (.slice ao2 p_x.nodes.length cap2)]] H w') ∧ ref15_nodes_loop1 p_x self k1 m1 i1 = some r) ((Int.toNat ((p_x.nodes.length : Int) - 0) + 1)) ⟨0, (Sub.all rfl), fun w' s => s, hm⟩ ?_ ?_
  ·
   rintro g' S' ⟨_, _, _, hm⟩
   exact none_some hm
  rintro m1 g' S' ⟨i1, hsub1, hS1, hm⟩
  refine WP.sub hsub1 (WP.weaken hS1 ?_)
  rw [ref15_nodes_loop1] at hm
  refine WP.seq (WP.seq (WP.region (Vm rfl (V rfl (ov_fieldAddr underlying28 rfl rfl rfl sizeOf26 rfl rfl) (Vl 0 isAgg26 rfl (V rfl (ov_len_slice underlying26 rfl rfl) (V rfl (ov_lss rfl rfl rfl) (WL.nil (tn ?_)))))))))
  refine WP.cond rfl (fun hc4 => ?_) (fun hc4 => ?_)
  ·
   replace hm := ite_t hc4 hm
   refine WP.skip (tn (WP.seq (WP.block (WP.seq (WP.region (V rfl (ov_fieldAddr underlying28 rfl rfl rfl sizeOf26 rfl rfl) (Vl 0 isAgg26 rfl (Vm rfl ?_))))))))
   obtain ⟨x1, e2, hm⟩ := bind_some hm
   obtain ⟨h5, h6, h7, cs1, h8, h9⟩ := h2.get e2 (by decide)
   obtain ⟨ao3, cap3, ao4, cap4, rfl, h3, hc5, h4, hc6⟩ := (encNode_open h8)
   refine V rfl (ov_indexAddr underlying26 sizeOf28 rfl rfl rfl h5 h6 h7) (V rfl (ov_load_elems (vs := [(.int .i64 x1.kind), (.slice ao3 x1.step.strokes.length cap3), (.int .i64 x1.step.wait), (.int .i64 x1.count), (mkS x1.name), (.slice ao4 x1.nodes.length cap4)]) isAgg28 sizeOf28 rfl rfl rfl h9 h7) ?_)
   obtain ⟨r2, e3, hm⟩ := bind_some hm
   refine wo rfl (oq_con (r := (.int .i64 r2)) call71 rfl rfl (fun w' s => ⟨_, (hself x1 ao3 cap3 ao4 cap4  w' H s.hold h3 hc5 h4 hc6 hG r2 e3)⟩)) ?_
   refine Va rfl (WL.nil (tn (WP.seq (WP.region (Vm rfl (V rfl (ov_neq rfl rfl rfl) (WL.nil (tn ?_))))))))
   refine WP.cond rfl (fun hc7 => ?_) (fun hc7 => ?_)
   ·
    replace hm := ite_t hc7 hm
    refine WP.seq (WP.region (Vm rfl (Va rfl (WL.nil (tn (WP.ret (block_ret (then_ret (then_ret (block_ret (then_ret ?_)))))))))))
    obtain rfl := Option.some.inj hm
    refine retQ_ret results71 (Res.tmp rfl Res.nil) rfl (fun w' s => ⟨s.below, ?_⟩)
    exact rfl
   replace hm := ite_f hc7 hm
   refine WP.skip (bn (tn (WP.region (Vm rfl (V rfl (ov_add rfl rfl rfl) (Va rfl (WL.nil (tn ?_))))))))
   exact ⟨(IntKind.wrap .i64 (i1 + 1)), (Sub.all rfl), fun w' s => s, hm⟩
  replace hm := ite_f hc4 hm
  refine WP.exit (then_exit (then_exit (block_here (tn ?_))))
  exact ⟨(Sub.all rfl), fun w' s => (s.select [] (by decide) rfl), hm⟩
 rintro g' S' ⟨hsub2, hS2, hm⟩
 refine WP.sub hsub2 (WP.weaken hS2 ?_)
 replace hm := hk1.symm.trans hm
 refine WP.seq (WP.region (Va rfl (WL.nil (tn (WP.ret ?_)))))
 obtain rfl := Option.some.inj hm
 refine retQ_ret results71 (Res.tmp rfl Res.nil) rfl (fun w' s => ⟨s.below, ?_⟩)
 exact rfl
theorem ref15_nodes_con (n : Nat) : ∀ (p_x : Node) (ao1 : Option Addr) (cap1 : Nat) (ao2 : Option Addr) (cap2 : Nat) (w : World) (H : Heap) (hH : Le H (hp w)) (h1 : SL H encStroke ao1 p_x.step.strokes) (hc1 : p_x.step.strokes.length ≤ cap1) (h2 : SL H encNode ao2 p_x.nodes) (hc2 : p_x.nodes.length ≤ cap2) (hG : Glob H) (r : Int) (hm : ref15_nodes n p_x = some r),
  Con prog 71 [(.agg #[(.int .i64 p_x.kind), (.slice ao1 p_x.step.strokes.length cap1), (.int .i64 p_x.step.wait), (.int .i64 p_x.count), (mkS p_x.name), (.slice ao2 p_x.nodes.length cap2)])] w H (fun v _ => v = (.int .i64 r)) := by
 induction n with
 | zero => intro p_x ao1 cap1 ao2 cap2 w H hH h1 hc1 h2 hc2 hG r hm; exact (none_some hm).elim
 | succ n ih => intro p_x ao1 cap1 ao2 cap2 w H hH h1 hc1 h2 hc2 hG r hm; exact ref15_nodes_body_con (ref15_nodes n) ih p_x ao1 cap1 ao2 cap2 w H hH h1 hc1 h2 hc2 hG r hm
theorem ref15_Check_con (p_x : Node) (ao1 : Option Addr) (cap1 : Nat) (ao2 : Option Addr) (cap2 : Nat) (w : World) (H : Heap) (hH : Le H (hp w)) (h1 : SL H encStroke ao1 p_x.step.strokes) (hc1 : p_x.step.strokes.length ≤ cap1) (h2 : SL H encNode ao2 p_x.nodes) (hc2 : p_x.nodes.length ≤ cap2) (hG : Glob H) (r : Int) (hm : ref15_Check p_x = some r) :
  Con prog 32 [(.agg #[(.int .i64 p_x.kind), (.slice ao1 p_x.step.strokes.length cap1), (.int .i64 p_x.step.wait), (.int .i64 p_x.count), (mkS p_x.name), (.slice ao2 p_x.nodes.length cap2)])] w H (fun v _ => v = (.int .i64 r)) := by
 unfold ref15_Check at hm
 refine con_of hH func32 rfl 8 ntmps32 rfl ?_
 refine WP.seq (WP.region ?_)
 refine ws rfl (os_box (cs := [(.int .i64 p_x.kind), (.slice ao1 p_x.step.strokes.length cap1), (.int .i64 p_x.step.wait), (.int .i64 p_x.count), (mkS p_x.name), (.slice ao2 p_x.nodes.length cap2)]) rfl rfl rfl (fun b1 => ?_))
 refine Va rfl (WL.nil (tn (WP.seq (WP.seq (WP.region (V rfl (ov_load_whole (i := 0) isAgg28 sizeOf28 rfl rfl rfl rfl) ?_))))))
 obtain ⟨r1, e1, hm⟩ := bind_some hm
 refine wo rfl (oq_con (r := (.bool r1)) call38 rfl rfl (fun w' s => ⟨_, (ref15_Light_con p_x ao1 cap1 ao2 cap2  w' H s.hold h1 hc1 h2 hc2 hG r1 e1)⟩)) ?_
 refine V rfl (ov_not rfl rfl) (WL.nil (tn ?_))
 refine WP.cond rfl (fun hc3 => ?_) (fun hc3 => ?_)
 ·
  replace hm := ite_t hc3 hm
  refine WP.seq (WP.region (Va rfl (WL.nil (tn (WP.ret (then_ret ?_))))))
  obtain rfl := Option.some.inj hm
  refine retQ_ret results32 (Res.tmp rfl Res.nil) rfl (fun w' s => ⟨s.below, ?_⟩)
  exact rfl
 replace hm := ite_f hc3 hm
 refine WP.skip (tn (WP.seq (WP.region (V rfl (ov_load_whole (i := 0) isAgg28 sizeOf28 rfl rfl rfl rfl) ?_))))
 obtain ⟨r2, e2, hm⟩ := bind_some hm
 refine wo rfl (oq_con (r := (.int .i64 r2)) call71 rfl rfl (fun w' s => ⟨_, (ref15_nodes_con 600 p_x ao1 cap1 ao2 cap2  w' H s.hold h1 hc1 h2 hc2 hG r2 e2)⟩)) ?_
 refine Va rfl (WL.nil (tn (WP.ret ?_)))
 obtain rfl := Option.some.inj hm
 refine retQ_ret results32 (Res.tmp rfl Res.nil) rfl (fun w' s => ⟨s.below, ?_⟩)
 exact rfl
theorem ref13_SameStrokes_con (p_a : (List Stroke)) (p_b : (List Stroke)) (ao1 : Option Addr) (cap1 : Nat) (ao2 : Option Addr) (cap2 : Nat) (w : World) (H : Heap) (hH : Le H (hp w)) (h1 : SL H encStroke ao1 p_a) (hc1 : p_a.length ≤ cap1) (h2 : SL H encStroke ao2 p_b) (hc2 : p_b.length ≤ cap2) (hG : Glob H) (r : Bool) (hm : ref13_SameStrokes p_a p_b = some r) :
  Con prog 99 [(.slice ao1 p_a.length cap1), (.slice ao2 p_b.length cap2)] w H (fun v _ => v = (.bool r)) := by
 unfold ref13_SameStrokes at hm
 refine con_of hH func99 rfl 26 ntmps99 rfl ?_
 refine WP.seq (WP.region (Va rfl (WL.nil (tn (WP.seq (WP.seq (WP.region (Vm rfl (V rfl (ov_len_slice underlying23 rfl rfl) (Vm rfl (V rfl (ov_len_slice underlying23 rfl rfl) (V rfl (ov_neq rfl rfl rfl) (WL.nil ?_)))))))))))))
 refine tn ?_
 refine WP.cond rfl (fun hc3 => ?_) (fun hc3 => ?_)
 ·
  replace hm := ite_t hc3 hm
  refine WP.seq (WP.region (Va rfl (WL.nil (tn (WP.ret (then_ret ?_))))))
  obtain rfl := Option.some.inj hm
  refine retQ_ret results99 (Res.tmp rfl Res.nil) rfl (fun w' s => ⟨s.below, ?_⟩)
  exact rfl
 replace hm := ite_f hc3 hm
 refine WP.skip (tn ?_)
 obtain ⟨k1, hk1, hm⟩ := joinK_some hm
 refine WP.seq_join (fun g' S' => Sub [(1000000007, (.bool false))] g' ∧ (∀ w', S' w' → St w H [] H w') ∧ k1 = some r) ?_ ?_
 ·
  refine WP.seq (WP.region (Va rfl (WL.nil (tn (WP.block ?_)))))
  refine WP.loop (fun m1 g' S' => ∃ (i1 : Int), Sub [(0, (.slice ao1 p_a.length cap1)), (1, (.slice ao2 p_b.length cap2)), (5, (.int .i64 i1)), (1000000007, (.bool false))] g' ∧ (∀ w', S' w' → St w H [] H w') ∧ ref13_SameStrokes_loop1 p_a p_b k1 m1 i1 = some r) ((Int.toNat ((p_a.length : Int) - 0) + 1)) ⟨0, (Sub.all rfl), fun w' s => s, hm⟩ ?_ ?_
  ·
   rintro g' S' ⟨_, _, _, hm⟩
   exact none_some hm
  rintro m1 g' S' ⟨i1, hsub1, hS1, hm⟩
  refine WP.sub hsub1 (WP.weaken hS1 ?_)
  rw [ref13_SameStrokes_loop1] at hm
  refine WP.seq (WP.seq (WP.region (Vm rfl (Vm rfl (V rfl (ov_len_slice underlying23 rfl rfl) (V rfl (ov_lss rfl rfl rfl) (WL.nil (tn ?_))))))))
  refine WP.cond rfl (fun hc4 => ?_) (fun hc4 => ?_)
  ·
   replace hm := ite_t hc4 hm
   refine WP.skip (tn (WP.seq (WP.block (WP.seq ?_))))
   refine WP.region_draws (by kernel_rfl) (by kernel_rfl) (fun _ s => s.drew) ?_
   refine qf rfl (ov_move rfl rfl) ?_
   refine qf rfl (ov_move rfl rfl) ?_
   obtain ⟨x1, e1, hm⟩ := bind_some hm
   obtain ⟨h3, h4, h5, cs1, h6, h7⟩ := h1.get e1 (by decide)
   obtain rfl : cs1 = [(.int .i64 x1.actuator), (.bool x1.out)] := h6
   refine qf rfl (ov_indexAddr underlying23 sizeOf112 rfl rfl rfl h3 h4 h5) ?_
   refine qf rfl (ov_load_elems (vs := [(.int .i64 x1.actuator), (.bool x1.out)]) isAgg112 sizeOf112 rfl rfl rfl h7 h5) ?_
   refine qf rfl (ov_move rfl rfl) ?_
   refine qf rfl (ov_move rfl rfl) ?_
   obtain ⟨x2, e2, hm⟩ := bind_some hm
   obtain ⟨h8, h9, h10, cs2, h11, h12⟩ := h2.get e2 (by decide)
   obtain rfl : cs2 = [(.int .i64 x2.actuator), (.bool x2.out)] := h11
   refine qf rfl (ov_indexAddr underlying23 sizeOf112 rfl rfl rfl h8 h9 h10) ?_
   refine qf rfl (ov_load_elems (vs := [(.int .i64 x2.actuator), (.bool x2.out)]) isAgg112 sizeOf112 rfl rfl rfl h12 h10) ?_
   refine qf rfl (neq_struct112 (a := x1) (b := x2) rfl rfl rfl) ?_
   refine QL.nil ?_
   refine tn ?_
   refine WP.cond rfl (fun hc5 => ?_) (fun hc5 => ?_)
   ·
    replace hm := ite_t hc5 hm
    refine WP.seq (WP.region (Va rfl (WL.nil (tn (WP.ret (block_ret (then_ret (then_ret (block_ret (then_ret ?_))))))))))
    obtain rfl := Option.some.inj hm
    refine retQ_ret results99 (Res.tmp rfl Res.nil) rfl (fun w' s => ⟨s.below, ?_⟩)
    exact rfl
   replace hm := ite_f hc5 hm
   refine WP.skip (bn (tn (WP.region (Vm rfl (V rfl (ov_add rfl rfl rfl) (Va rfl (WL.nil (tn ?_))))))))
   exact ⟨(IntKind.wrap .i64 (i1 + 1)), (Sub.all rfl), fun w' s => s, hm⟩
  replace hm := ite_f hc4 hm
  refine WP.exit (then_exit (then_exit (block_here (tn ?_))))
  exact ⟨(Sub.all rfl), fun w' s => s, hm⟩
 rintro g' S' ⟨hsub2, hS2, hm⟩
 refine WP.sub hsub2 (WP.weaken hS2 ?_)
 replace hm := hk1.symm.trans hm
 refine WP.seq (WP.region (Va rfl (WL.nil (tn (WP.ret ?_)))))
 obtain rfl := Option.some.inj hm
 refine retQ_ret results99 (Res.tmp rfl Res.nil) rfl (fun w' s => ⟨s.below, ?_⟩)
 exact rfl
theorem ref13_Same_con (p_a : Step) (p_b : Step) (ao1 : Option Addr) (cap1 : Nat) (ao2 : Option Addr) (cap2 : Nat) (w : World) (H : Heap) (hH : Le H (hp w)) (h1 : SL H encStroke ao1 p_a.strokes) (hc1 : p_a.strokes.length ≤ cap1) (h2 : SL H encStroke ao2 p_b.strokes) (hc2 : p_b.strokes.length ≤ cap2) (hG : Glob H) (r : Bool) (hm : ref13_Same p_a p_b = some r) :
  Con prog 60 [(.agg #[(.slice ao1 p_a.strokes.length cap1), (.int .i64 p_a.wait)]), (.agg #[(.slice ao2 p_b.strokes.length cap2), (.int .i64 p_b.wait)])] w H (fun v _ => v = (.bool r)) := by
 unfold ref13_Same at hm
 refine con_of hH func60 rfl 17 ntmps60 rfl ?_
 refine WP.seq (WP.region ?_)
 refine ws rfl (os_box (cs := [(.slice ao1 p_a.strokes.length cap1), (.int .i64 p_a.wait)]) rfl rfl rfl (fun b1 => ?_))
 refine ws rfl (os_box (cs := [(.slice ao2 p_b.strokes.length cap2), (.int .i64 p_b.wait)]) rfl rfl rfl (fun b2 => ?_))
 refine Va rfl (WL.nil (tn (WP.seq (WP.region (V rfl (ov_fieldAddr underlying25 rfl rfl rfl sizeOf3 rfl rfl) (Vl 1 isAgg3 rfl (V rfl (ov_fieldAddr underlying25 rfl rfl rfl sizeOf3 rfl rfl) (Vl 0 isAgg3 rfl (V rfl (ov_eql rfl rfl rfl) (Vm rfl ?_))))))))))
 obtain ⟨c1, e1, hm⟩ := bind_some hm
 refine WL.cut_bool 6 16 (x := c1) ?_ ?_
 ·
  rcases Bool.eq_false_or_eq_true (p_a.wait == p_b.wait) with hc3 | hc3
  ·
   replace hm := ite_t hc3 e1
   refine wy hc3 rfl (ov_fieldAddr underlying25 rfl rfl rfl sizeOf23 rfl rfl) ?_
   refine wy hc3 rfl (ov_load_box (i := 1) isAgg23 rfl rfl rfl rfl) ?_
   refine wy hc3 rfl (ov_fieldAddr underlying25 rfl rfl rfl sizeOf23 rfl rfl) ?_
   refine wy hc3 rfl (ov_load_box (i := 0) isAgg23 rfl rfl rfl rfl) ?_
   obtain ⟨r1, e2, hm⟩ := bind_some hm
   refine WL.quiet (Runs.yes rfl rfl rfl hc3) rfl rfl (oq_con (r := (.bool r1)) call99 rfl rfl (fun w' s => ⟨_, (ref13_SameStrokes_con p_a.strokes p_b.strokes ao1 cap1 ao2 cap2  w' H s.hold h1 hc1 h2 hc2 hG r1 e2)⟩)) ?_
   refine V rfl (ov_pick_true rfl (guard_eq rfl hc3) rfl) ?_
   exact WL.nil ⟨Sub.cons' rfl (congrArg Value.bool (Option.some.inj hm)) (Sub.dropn 6 rfl), fun _ s => s⟩
  replace hm := ite_f hc3 e1
  refine Vi rfl (Idle.no rfl rfl rfl hc3) (Vi rfl (Idle.no rfl rfl rfl hc3) (Vi rfl (Idle.no rfl rfl rfl hc3) (Vi rfl (Idle.no rfl rfl rfl hc3) (Vi rfl (Idle.no rfl rfl rfl hc3) (V rfl (ov_pick_false rfl (guard_eq rfl hc3) rfl) ?_)))))
  exact WL.nil ⟨Sub.cons' rfl (congrArg Value.bool (Option.some.inj hm)) (Sub.dropn 6 rfl), fun _ s => s⟩
 refine Va rfl (WL.nil (tn (WP.ret ?_)))
 obtain rfl := Option.some.inj hm
 refine retQ_ret results60 (Res.tmp rfl Res.nil) rfl (fun w' s => ⟨s.below, ?_⟩)
 exact rfl
theorem ref15_equal_body_con (self : Node → Node → Option Bool) (hself : ∀ (p_a : Node) (p_b : Node) (ao1 : Option Addr) (cap1 : Nat) (ao2 : Option Addr) (cap2 : Nat) (ao3 : Option Addr) (cap3 : Nat) (ao4 : Option Addr) (cap4 : Nat) (w : World) (H : Heap) (hH : Le H (hp w)) (h1 : SL H encStroke ao1 p_a.step.strokes) (hc1 : p_a.step.strokes.length ≤ cap1) (h2 : SL H encNode ao2 p_a.nodes) (hc2 : p_a.nodes.length ≤ cap2) (h3 : SL H encStroke ao3 p_b.step.strokes) (hc3 : p_b.step.strokes.length ≤ cap3) (h4 : SL H encNode ao4 p_b.nodes) (hc4 : p_b.nodes.length ≤ cap4) (hG : Glob H) (r : Bool) (hm : self p_a p_b = some r), Con prog 49 [(.agg #[(.int .i64 p_a.kind), (.slice ao1 p_a.step.strokes.length cap1), (.int .i64 p_a.step.wait), (.int .i64 p_a.count), (mkS p_a.name), (.slice ao2 p_a.nodes.length cap2)]), (.agg #[(.int .i64 p_b.kind), (.slice ao3 p_b.step.strokes.length cap3), (.int .i64 p_b.step.wait), (.int .i64 p_b.count), (mkS p_b.name), (.slice ao4 p_b.nodes.length cap4)])] w H (fun v _ => v = (.bool r))) (p_a : Node) (p_b : Node) (ao1 : Option Addr) (cap1 : Nat) (ao2 : Option Addr) (cap2 : Nat) (ao3 : Option Addr) (cap3 : Nat) (ao4 : Option Addr) (cap4 : Nat) (w : World) (H : Heap) (hH : Le H (hp w)) (h1 : SL H encStroke ao1 p_a.step.strokes) (hc1 : p_a.step.strokes.length ≤ cap1) (h2 : SL H encNode ao2 p_a.nodes) (hc2 : p_a.nodes.length ≤ cap2) (h3 : SL H encStroke ao3 p_b.step.strokes) (hc3 : p_b.step.strokes.length ≤ cap3) (h4 : SL H encNode ao4 p_b.nodes) (hc4 : p_b.nodes.length ≤ cap4) (hG : Glob H) (r : Bool) (hm : ref15_equal_body self p_a p_b = some r) :
  Con prog 49 [(.agg #[(.int .i64 p_a.kind), (.slice ao1 p_a.step.strokes.length cap1), (.int .i64 p_a.step.wait), (.int .i64 p_a.count), (mkS p_a.name), (.slice ao2 p_a.nodes.length cap2)]), (.agg #[(.int .i64 p_b.kind), (.slice ao3 p_b.step.strokes.length cap3), (.int .i64 p_b.step.wait), (.int .i64 p_b.count), (mkS p_b.name), (.slice ao4 p_b.nodes.length cap4)])] w H (fun v _ => v = (.bool r)) := by
 unfold ref15_equal_body at hm
 refine con_of hH func49 rfl 61 ntmps49 rfl ?_
 refine WP.seq (WP.region ?_)
 refine ws rfl (os_box (cs := [(.int .i64 p_a.kind), (.slice ao1 p_a.step.strokes.length cap1), (.int .i64 p_a.step.wait), (.int .i64 p_a.count), (mkS p_a.name), (.slice ao2 p_a.nodes.length cap2)]) rfl rfl rfl (fun b1 => ?_))
 refine ws rfl (os_box (cs := [(.int .i64 p_b.kind), (.slice ao3 p_b.step.strokes.length cap3), (.int .i64 p_b.step.wait), (.int .i64 p_b.count), (mkS p_b.name), (.slice ao4 p_b.nodes.length cap4)]) rfl rfl rfl (fun b2 => ?_))
 refine Va rfl (WL.nil (tn (WP.seq (WP.seq (WP.region (V rfl (ov_fieldAddr underlying28 rfl rfl rfl sizeOf3 rfl rfl) (Vl 1 isAgg3 rfl (V rfl (ov_fieldAddr underlying28 rfl rfl rfl sizeOf3 rfl rfl) (Vl 0 isAgg3 rfl (V rfl (ov_neq rfl rfl rfl) (Vm rfl ?_)))))))))))
 refine WL.cut_bool 6 17 (x := ((p_a.kind != p_b.kind) || (p_a.count != p_b.count))) ?_ ?_
 ·
  rcases Bool.eq_false_or_eq_true (p_a.kind != p_b.kind) with hc5 | hc5
  ·
   refine Vi rfl (Idle.no rfl rfl rfl hc5) (Vi rfl (Idle.no rfl rfl rfl hc5) (Vi rfl (Idle.no rfl rfl rfl hc5) (Vi rfl (Idle.no rfl rfl rfl hc5) (Vi rfl (Idle.no rfl rfl rfl hc5) (V rfl (ov_pick_true rfl (guard_eq rfl hc5) rfl) ?_)))))
   exact WL.nil ⟨Sub.cons' rfl (congrArg Value.bool (orT hc5)) (Sub.dropn 6 rfl), fun _ s => s⟩
  refine wy hc5 rfl (ov_fieldAddr underlying28 rfl rfl rfl sizeOf3 rfl rfl) ?_
  refine wy hc5 rfl (ov_load_box (i := 1) isAgg3 rfl rfl rfl rfl) ?_
  refine wy hc5 rfl (ov_fieldAddr underlying28 rfl rfl rfl sizeOf3 rfl rfl) ?_
  refine wy hc5 rfl (ov_load_box (i := 0) isAgg3 rfl rfl rfl rfl) ?_
  refine wy hc5 rfl (ov_neq rfl rfl rfl) ?_
  refine V rfl (ov_pick_false rfl (guard_eq rfl hc5) rfl) ?_
  exact WL.nil ⟨Sub.cons' rfl (congrArg Value.bool (orF hc5)) (Sub.dropn 6 rfl), fun _ s => s⟩
 refine Vm rfl ?_
 refine WL.cut_bool 6 24 (x := (((p_a.kind != p_b.kind) || (p_a.count != p_b.count)) || (!(p_a.name == p_b.name)))) ?_ ?_
 ·
  rcases Bool.eq_false_or_eq_true ((p_a.kind != p_b.kind) || (p_a.count != p_b.count)) with hc6 | hc6
  ·
   refine Vi rfl (Idle.no rfl rfl rfl hc6) (Vi rfl (Idle.no rfl rfl rfl hc6) (Vi rfl (Idle.no rfl rfl rfl hc6) (Vi rfl (Idle.no rfl rfl rfl hc6) (Vi rfl (Idle.no rfl rfl rfl hc6) (V rfl (ov_pick_true rfl (guard_eq rfl hc6) rfl) ?_)))))
   exact WL.nil ⟨Sub.cons' rfl (congrArg Value.bool (orT hc6)) (Sub.dropn 6 rfl), fun _ s => s⟩
  refine wy hc6 rfl (ov_fieldAddr underlying28 rfl rfl rfl sizeOf9 rfl rfl) ?_
  refine wy hc6 rfl (ov_load_box (i := 1) isAgg9 rfl rfl rfl rfl) ?_
  refine wy hc6 rfl (ov_fieldAddr underlying28 rfl rfl rfl sizeOf9 rfl rfl) ?_
  refine wy hc6 rfl (ov_load_box (i := 0) isAgg9 rfl rfl rfl rfl) ?_
  refine wy hc6 rfl (ov_sneq rfl rfl rfl) ?_
  refine V rfl (ov_pick_false rfl (guard_eq rfl hc6) rfl) ?_
  exact WL.nil ⟨Sub.cons' rfl (congrArg Value.bool (orF hc6)) (Sub.dropn 6 rfl), fun _ s => s⟩
 refine Vm rfl ?_
 refine WL.cut_bool 8 33 (x := ((((p_a.kind != p_b.kind) || (p_a.count != p_b.count)) || (!(p_a.name == p_b.name))) || ((p_a.nodes.length : Int) != (p_b.nodes.length : Int)))) ?_ ?_
 ·
  rcases Bool.eq_false_or_eq_true (((p_a.kind != p_b.kind) || (p_a.count != p_b.count)) || (!(p_a.name == p_b.name))) with hc7 | hc7
  ·
   refine Vi rfl (Idle.no rfl rfl rfl hc7) (Vi rfl (Idle.no rfl rfl rfl hc7) (Vi rfl (Idle.no rfl rfl rfl hc7) (Vi rfl (Idle.no rfl rfl rfl hc7) (Vi rfl (Idle.no rfl rfl rfl hc7) (Vi rfl (Idle.no rfl rfl rfl hc7) (Vi rfl (Idle.no rfl rfl rfl hc7) (V rfl (ov_pick_true rfl (guard_eq rfl hc7) rfl) ?_)))))))
   exact WL.nil ⟨Sub.cons' rfl (congrArg Value.bool (orT hc7)) (Sub.dropn 8 rfl), fun _ s => s⟩
  refine wy hc7 rfl (ov_fieldAddr underlying28 rfl rfl rfl sizeOf26 rfl rfl) ?_
  refine wy hc7 rfl (ov_load_box (i := 1) isAgg26 rfl rfl rfl rfl) ?_
  refine wy hc7 rfl (ov_len_slice underlying26 rfl rfl) ?_
  refine wy hc7 rfl (ov_fieldAddr underlying28 rfl rfl rfl sizeOf26 rfl rfl) ?_
  refine wy hc7 rfl (ov_load_box (i := 0) isAgg26 rfl rfl rfl rfl) ?_
  refine wy hc7 rfl (ov_len_slice underlying26 rfl rfl) ?_
  refine wy hc7 rfl (ov_neq rfl rfl rfl) ?_
  refine V rfl (ov_pick_false rfl (guard_eq rfl hc7) rfl) ?_
  exact WL.nil ⟨Sub.cons' rfl (congrArg Value.bool (orF hc7)) (Sub.dropn 8 rfl), fun _ s => s⟩
 refine Vm rfl ?_
 obtain ⟨c1, e1, hm⟩ := bind_some hm
 refine WL.cut_bool 7 41 (x := c1) ?_ ?_
 ·
  rcases Bool.eq_false_or_eq_true ((((p_a.kind != p_b.kind) || (p_a.count != p_b.count)) || (!(p_a.name == p_b.name))) || ((p_a.nodes.length : Int) != (p_b.nodes.length : Int))) with hc8 | hc8
  ·
   replace hm := ite_t hc8 e1
   refine Vi rfl (Idle.no rfl rfl rfl hc8) (Vi rfl (Idle.no rfl rfl rfl hc8) (Vi rfl (Idle.no rfl rfl rfl hc8) (Vi rfl (Idle.no rfl rfl rfl hc8) (Vi rfl (Idle.no rfl rfl rfl hc8) (Vi rfl (Idle.no rfl rfl rfl hc8) (V rfl (ov_pick_true rfl (guard_eq rfl hc8) rfl) ?_))))))
   exact WL.nil ⟨Sub.cons' rfl (congrArg Value.bool (Option.some.inj hm)) (Sub.dropn 7 rfl), fun _ s => s⟩
  replace hm := ite_f hc8 e1
  refine wy hc8 rfl (ov_fieldAddr underlying28 rfl rfl rfl sizeOf25 rfl rfl) ?_
  refine wy hc8 rfl (ov_load_boxes (i := 1) (vs := [(.slice ao1 p_a.step.strokes.length cap1), (.int .i64 p_a.step.wait)]) isAgg25 sizeOf25 rfl rfl rfl rfl (part_of rfl)) ?_
  refine wy hc8 rfl (ov_fieldAddr underlying28 rfl rfl rfl sizeOf25 rfl rfl) ?_
  refine wy hc8 rfl (ov_load_boxes (i := 0) (vs := [(.slice ao3 p_b.step.strokes.length cap3), (.int .i64 p_b.step.wait)]) isAgg25 sizeOf25 rfl rfl rfl rfl (part_of rfl)) ?_
  obtain ⟨r1, e2, hm⟩ := bind_some hm
  refine WL.quiet (Runs.yes rfl rfl rfl hc8) rfl rfl (oq_con (r := (.bool r1)) call60 rfl rfl (fun w' s => ⟨_, (ref13_Same_con p_a.step p_b.step ao1 cap1 ao3 cap3  w' H s.hold h1 hc1 h3 hc3 hG r1 e2)⟩)) ?_
  refine wy hc8 rfl (ov_not rfl rfl) ?_
  refine V rfl (ov_pick_false rfl (guard_eq rfl hc8) rfl) ?_
  exact WL.nil ⟨Sub.cons' rfl (congrArg Value.bool (Option.some.inj hm)) (Sub.dropn 7 rfl), fun _ s => s⟩
 refine WL.nil (tn ?_)
 refine WP.cond rfl (fun hc9 => ?_) (fun hc9 => ?_)
 ·
  replace hm := ite_t hc9 hm
  refine WP.seq (WP.region (Va rfl (WL.nil (tn (WP.ret (then_ret ?_))))))
  obtain rfl := Option.some.inj hm
  refine retQ_ret results49 (Res.tmp rfl Res.nil) rfl (fun w' s => ⟨s.below, ?_⟩)
  exact rfl
 replace hm := ite_f hc9 hm
 refine WP.skip (tn ?_)
 obtain ⟨k1, hk1, hm⟩ := joinK_some hm
 refine WP.seq_join (fun g' S' => Sub [(1000000007, (.bool false))] g' ∧ (∀ w', S' w' → St w H [] H w') ∧ k1 = some r) ?_ ?_
 ·
  refine WP.seq (WP.region (Va rfl (WL.nil (tn (WP.block ?_)))))
  refine WP.loop (fun m1 g' S' => ∃ (i1 : Int), Sub [(2, (pB b1 0)), (3, (pB b2 0)), (5, (.int .i64 i1)), (1000000007, (.bool false))] g' ∧ (∀ w', S' w' → St w H [.blk b2 28 [(.int .i64 p_b.kind), (.slice ao3 p_b.step.strokes.length cap3), (.int .i64 p_b.step.wait), (.int .i64 p_b.count), (mkS p_b.name), (.slice ao4 p_b.nodes.length cap4)], .blk b1 28 [(.int .i64 p_a.kind), (.slice ao1 p_a.step.strokes.length cap1), (.int .i64 p_a.step.wait), (.int .i64 p_a.count), (mkS p_a.name), (.slice ao2 p_a.nodes.length cap2)]] H w') ∧ ref15_equal_loop1 p_a p_b self k1 m1 i1 = some r) ((Int.toNat ((p_a.nodes.length : Int) - 0) + 1)) ⟨0, (Sub.all rfl), fun w' s => s, hm⟩ ?_ ?_
  ·
   rintro g' S' ⟨_, _, _, hm⟩
   exact none_some hm
  rintro m1 g' S' ⟨i1, hsub1, hS1, hm⟩
  refine WP.sub hsub1 (WP.weaken hS1 ?_)
  rw [ref15_equal_loop1] at hm
  refine WP.seq (WP.seq (WP.region (Vm rfl (V rfl (ov_fieldAddr underlying28 rfl rfl rfl sizeOf26 rfl rfl) (Vl 1 isAgg26 rfl (V rfl (ov_len_slice underlying26 rfl rfl) (V rfl (ov_lss rfl rfl rfl) (WL.nil (tn ?_)))))))))
  refine WP.cond rfl (fun hc10 => ?_) (fun hc10 => ?_)
  ·
   replace hm := ite_t hc10 hm
   refine WP.skip (tn (WP.seq (WP.block (WP.seq ?_))))
   refine WP.region_draws (by kernel_rfl) (by kernel_rfl) (fun _ s => s.drew) ?_
   refine qf rfl (ov_fieldAddr underlying28 rfl rfl rfl sizeOf26 rfl rfl) ?_
   refine qf rfl (ov_load_box (i := 1) isAgg26 rfl rfl rfl rfl) ?_
   refine qf rfl (ov_move rfl rfl) ?_
   obtain ⟨x1, e3, hm⟩ := bind_some hm
   obtain ⟨h7, h8, h9, cs1, h10, h11⟩ := h2.get e3 (by decide)
   obtain ⟨ao5, cap5, ao6, cap6, rfl, h5, hc11, h6, hc12⟩ := (encNode_open h10)
   refine qf rfl (ov_indexAddr underlying26 sizeOf28 rfl rfl rfl h7 h8 h9) ?_
   refine qf rfl (ov_load_elems (vs := [(.int .i64 x1.kind), (.slice ao5 x1.step.strokes.length cap5), (.int .i64 x1.step.wait), (.int .i64 x1.count), (mkS x1.name), (.slice ao6 x1.nodes.length cap6)]) isAgg28 sizeOf28 rfl rfl rfl h11 h9) ?_
   refine qf rfl (ov_fieldAddr underlying28 rfl rfl rfl sizeOf26 rfl rfl) ?_
   refine qf rfl (ov_load_box (i := 0) isAgg26 rfl rfl rfl rfl) ?_
   refine qf rfl (ov_move rfl rfl) ?_
   obtain ⟨x2, e4, hm⟩ := bind_some hm
   obtain ⟨h14, h15, h16, cs2, h17, h18⟩ := h4.get e4 (by decide)
   obtain ⟨ao7, cap7, ao8, cap8, rfl, h12, hc13, h13, hc14⟩ := (encNode_open h17)
   refine qf rfl (ov_indexAddr underlying26 sizeOf28 rfl rfl rfl h14 h15 h16) ?_
   refine qf rfl (ov_load_elems (vs := [(.int .i64 x2.kind), (.slice ao7 x2.step.strokes.length cap7), (.int .i64 x2.step.wait), (.int .i64 x2.count), (mkS x2.name), (.slice ao8 x2.nodes.length cap8)]) isAgg28 sizeOf28 rfl rfl rfl h18 h16) ?_
   obtain ⟨r2, e5, hm⟩ := bind_some hm
   refine QL.quiet (Runs.free rfl) rfl rfl (oq_con (r := (.bool r2)) call49 rfl rfl (fun w' s => ⟨_, (hself x1 x2 ao5 cap5 ao6 cap6 ao7 cap7 ao8 cap8  w' H s.hold h5 hc11 h6 hc12 h12 hc13 h13 hc14 hG r2 e5)⟩)) ?_
   refine qf rfl (ov_not rfl rfl) ?_
   refine QL.nil ?_
   refine tn ?_
   refine WP.cond rfl (fun hc15 => ?_) (fun hc15 => ?_)
   ·
    replace hm := ite_t hc15 hm
    refine WP.seq (WP.region (Va rfl (WL.nil (tn (WP.ret (block_ret (then_ret (then_ret (block_ret (then_ret ?_))))))))))
    obtain rfl := Option.some.inj hm
    refine retQ_ret results49 (Res.tmp rfl Res.nil) rfl (fun w' s => ⟨s.below, ?_⟩)
    exact rfl
   replace hm := ite_f hc15 hm
   refine WP.skip (bn (tn (WP.region (Vm rfl (V rfl (ov_add rfl rfl rfl) (Va rfl (WL.nil (tn ?_))))))))
   exact ⟨(IntKind.wrap .i64 (i1 + 1)), (Sub.all rfl), fun w' s => s, hm⟩
  replace hm := ite_f hc10 hm
  refine WP.exit (then_exit (then_exit (block_here (tn ?_))))
  exact ⟨(Sub.all rfl), fun w' s => (s.select [] (by decide) rfl), hm⟩
 rintro g' S' ⟨hsub2, hS2, hm⟩
 refine WP.sub hsub2 (WP.weaken hS2 ?_)
 replace hm := hk1.symm.trans hm
 refine WP.seq (WP.region (Va rfl (WL.nil (tn (WP.ret ?_)))))
 obtain rfl := Option.some.inj hm
 refine retQ_ret results49 (Res.tmp rfl Res.nil) rfl (fun w' s => ⟨s.below, ?_⟩)
 exact rfl
theorem ref15_equal_con (n : Nat) : ∀ (p_a : Node) (p_b : Node) (ao1 : Option Addr) (cap1 : Nat) (ao2 : Option Addr) (cap2 : Nat) (ao3 : Option Addr) (cap3 : Nat) (ao4 : Option Addr) (cap4 : Nat) (w : World) (H : Heap) (hH : Le H (hp w)) (h1 : SL H encStroke ao1 p_a.step.strokes) (hc1 : p_a.step.strokes.length ≤ cap1) (h2 : SL H encNode ao2 p_a.nodes) (hc2 : p_a.nodes.length ≤ cap2) (h3 : SL H encStroke ao3 p_b.step.strokes) (hc3 : p_b.step.strokes.length ≤ cap3) (h4 : SL H encNode ao4 p_b.nodes) (hc4 : p_b.nodes.length ≤ cap4) (hG : Glob H) (r : Bool) (hm : ref15_equal n p_a p_b = some r),
  Con prog 49 [(.agg #[(.int .i64 p_a.kind), (.slice ao1 p_a.step.strokes.length cap1), (.int .i64 p_a.step.wait), (.int .i64 p_a.count), (mkS p_a.name), (.slice ao2 p_a.nodes.length cap2)]), (.agg #[(.int .i64 p_b.kind), (.slice ao3 p_b.step.strokes.length cap3), (.int .i64 p_b.step.wait), (.int .i64 p_b.count), (mkS p_b.name), (.slice ao4 p_b.nodes.length cap4)])] w H (fun v _ => v = (.bool r)) := by
 induction n with
 | zero => intro p_a p_b ao1 cap1 ao2 cap2 ao3 cap3 ao4 cap4 w H hH h1 hc1 h2 hc2 h3 hc3 h4 hc4 hG r hm; exact (none_some hm).elim
 | succ n ih => intro p_a p_b ao1 cap1 ao2 cap2 ao3 cap3 ao4 cap4 w H hH h1 hc1 h2 hc2 h3 hc3 h4 hc4 hG r hm; exact ref15_equal_body_con (ref15_equal n) ih p_a p_b ao1 cap1 ao2 cap2 ao3 cap3 ao4 cap4 w H hH h1 hc1 h2 hc2 h3 hc3 h4 hc4 hG r hm
theorem ref15_Same_con (p_a : Node) (p_b : Node) (ao1 : Option Addr) (cap1 : Nat) (ao2 : Option Addr) (cap2 : Nat) (ao3 : Option Addr) (cap3 : Nat) (ao4 : Option Addr) (cap4 : Nat) (w : World) (H : Heap) (hH : Le H (hp w)) (h1 : SL H encStroke ao1 p_a.step.strokes) (hc1 : p_a.step.strokes.length ≤ cap1) (h2 : SL H encNode ao2 p_a.nodes) (hc2 : p_a.nodes.length ≤ cap2) (h3 : SL H encStroke ao3 p_b.step.strokes) (hc3 : p_b.step.strokes.length ≤ cap3) (h4 : SL H encNode ao4 p_b.nodes) (hc4 : p_b.nodes.length ≤ cap4) (hG : Glob H) (r : Bool) (hm : ref15_Same p_a p_b = some r) :
  Con prog 14 [(.agg #[(.int .i64 p_a.kind), (.slice ao1 p_a.step.strokes.length cap1), (.int .i64 p_a.step.wait), (.int .i64 p_a.count), (mkS p_a.name), (.slice ao2 p_a.nodes.length cap2)]), (.agg #[(.int .i64 p_b.kind), (.slice ao3 p_b.step.strokes.length cap3), (.int .i64 p_b.step.wait), (.int .i64 p_b.count), (mkS p_b.name), (.slice ao4 p_b.nodes.length cap4)])] w H (fun v _ => v = (.bool r)) := by
 unfold ref15_Same at hm
 refine con_of hH func14 rfl 16 ntmps14 rfl ?_
 refine WP.seq (WP.region ?_)
 refine ws rfl (os_box (cs := [(.int .i64 p_a.kind), (.slice ao1 p_a.step.strokes.length cap1), (.int .i64 p_a.step.wait), (.int .i64 p_a.count), (mkS p_a.name), (.slice ao2 p_a.nodes.length cap2)]) rfl rfl rfl (fun b1 => ?_))
 refine ws rfl (os_box (cs := [(.int .i64 p_b.kind), (.slice ao3 p_b.step.strokes.length cap3), (.int .i64 p_b.step.wait), (.int .i64 p_b.count), (mkS p_b.name), (.slice ao4 p_b.nodes.length cap4)]) rfl rfl rfl (fun b2 => ?_))
 refine Va rfl (WL.nil (tn (WP.seq (WP.region (V rfl (ov_load_whole (i := 1) isAgg28 sizeOf28 rfl rfl rfl rfl) ?_)))))
 obtain ⟨r1, e1, hm⟩ := bind_some hm
 refine wo rfl (oq_con (r := (.bool r1)) call38 rfl rfl (fun w' s => ⟨_, (ref15_Light_con p_a ao1 cap1 ao2 cap2  w' H s.hold h1 hc1 h2 hc2 hG r1 e1)⟩)) ?_
 refine Vm rfl ?_
 obtain ⟨c1, e2, hm⟩ := bind_some hm
 refine WL.cut_bool 3 10 (x := c1) ?_ ?_
 ·
  rcases Bool.eq_false_or_eq_true r1 with hc5 | hc5
  ·
   replace hm := ite_t hc5 e2
   refine wy hc5 rfl (ov_load_whole (i := 0) isAgg28 sizeOf28 rfl rfl rfl rfl) ?_
   obtain ⟨r2, e3, hm⟩ := bind_some hm
   refine WL.quiet (Runs.yes rfl rfl rfl hc5) rfl rfl (oq_con (r := (.bool r2)) call38 rfl rfl (fun w' s => ⟨_, (ref15_Light_con p_b ao3 cap3 ao4 cap4  w' H s.hold h3 hc3 h4 hc4 hG r2 e3)⟩)) ?_
   refine V rfl (ov_pick_true rfl (guard_eq rfl hc5) rfl) ?_
   exact WL.nil ⟨Sub.cons' rfl (congrArg Value.bool (Option.some.inj hm)) (Sub.dropn 3 rfl), fun _ s => s⟩
  replace hm := ite_f hc5 e2
  refine Vi rfl (Idle.no rfl rfl rfl hc5) (Vi rfl (Idle.no rfl rfl rfl hc5) (V rfl (ov_pick_false rfl (guard_eq rfl hc5) rfl) ?_))
  exact WL.nil ⟨Sub.cons' rfl (congrArg Value.bool (Option.some.inj hm)) (Sub.dropn 3 rfl), fun _ s => s⟩
 refine Vm rfl ?_
 obtain ⟨c2, e4, hm⟩ := bind_some hm
 refine WL.cut_bool 4 15 (x := c2) ?_ ?_
 ·
  rcases Bool.eq_false_or_eq_true c1 with hc6 | hc6
  ·
   replace hm := ite_t hc6 e4
   refine wy hc6 rfl (ov_load_whole (i := 1) isAgg28 sizeOf28 rfl rfl rfl rfl) ?_
   refine wy hc6 rfl (ov_load_whole (i := 0) isAgg28 sizeOf28 rfl rfl rfl rfl) ?_
   obtain ⟨r3, e5, hm⟩ := bind_some hm
   refine WL.quiet (Runs.yes rfl rfl rfl hc6) rfl rfl (oq_con (r := (.bool r3)) call49 rfl rfl (fun w' s => ⟨_, (ref15_equal_con 600 p_a p_b ao1 cap1 ao2 cap2 ao3 cap3 ao4 cap4  w' H s.hold h1 hc1 h2 hc2 h3 hc3 h4 hc4 hG r3 e5)⟩)) ?_
   refine V rfl (ov_pick_true rfl (guard_eq rfl hc6) rfl) ?_
   exact WL.nil ⟨Sub.cons' rfl (congrArg Value.bool (Option.some.inj hm)) (Sub.dropn 4 rfl), fun _ s => s⟩
  replace hm := ite_f hc6 e4
  refine Vi rfl (Idle.no rfl rfl rfl hc6) (Vi rfl (Idle.no rfl rfl rfl hc6) (Vi rfl (Idle.no rfl rfl rfl hc6) (V rfl (ov_pick_false rfl (guard_eq rfl hc6) rfl) ?_)))
  exact WL.nil ⟨Sub.cons' rfl (congrArg Value.bool (Option.some.inj hm)) (Sub.dropn 4 rfl), fun _ s => s⟩
 refine Va rfl (WL.nil (tn (WP.ret ?_)))
 obtain rfl := Option.some.inj hm
 refine retQ_ret results14 (Res.tmp rfl Res.nil) rfl (fun w' s => ⟨s.below, ?_⟩)
 exact rfl
theorem ref15_short_body_con (self : Node → Option Bool) (hself : ∀ (p_x : Node) (ao1 : Option Addr) (cap1 : Nat) (ao2 : Option Addr) (cap2 : Nat) (w : World) (H : Heap) (hH : Le H (hp w)) (h1 : SL H encStroke ao1 p_x.step.strokes) (hc1 : p_x.step.strokes.length ≤ cap1) (h2 : SL H encNode ao2 p_x.nodes) (hc2 : p_x.nodes.length ≤ cap2) (hG : Glob H) (r : Bool) (hm : self p_x = some r), Con prog 93 [(.agg #[(.int .i64 p_x.kind), (.slice ao1 p_x.step.strokes.length cap1), (.int .i64 p_x.step.wait), (.int .i64 p_x.count), (mkS p_x.name), (.slice ao2 p_x.nodes.length cap2)])] w H (fun v _ => v = (.bool r))) (p_x : Node) (ao1 : Option Addr) (cap1 : Nat) (ao2 : Option Addr) (cap2 : Nat) (w : World) (H : Heap) (hH : Le H (hp w)) (h1 : SL H encStroke ao1 p_x.step.strokes) (hc1 : p_x.step.strokes.length ≤ cap1) (h2 : SL H encNode ao2 p_x.nodes) (hc2 : p_x.nodes.length ≤ cap2) (hG : Glob H) (r : Bool) (hm : ref15_short_body self p_x = some r) :
  Con prog 93 [(.agg #[(.int .i64 p_x.kind), (.slice ao1 p_x.step.strokes.length cap1), (.int .i64 p_x.step.wait), (.int .i64 p_x.count), (mkS p_x.name), (.slice ao2 p_x.nodes.length cap2)])] w H (fun v _ => v = (.bool r)) := by
 unfold ref15_short_body at hm
 refine con_of hH func93 rfl 29 ntmps93 rfl ?_
 refine WP.seq (WP.region ?_)
 refine ws rfl (os_box (cs := [(.int .i64 p_x.kind), (.slice ao1 p_x.step.strokes.length cap1), (.int .i64 p_x.step.wait), (.int .i64 p_x.count), (mkS p_x.name), (.slice ao2 p_x.nodes.length cap2)]) rfl rfl rfl (fun b1 => ?_))
 refine Va rfl (WL.nil (tn (WP.seq (WP.seq (WP.region (V rfl (ov_fieldAddr underlying28 rfl rfl rfl sizeOf25 rfl rfl) (V rfl (ov_fieldAddr underlying25 rfl rfl rfl sizeOf23 rfl rfl) (Vl 0 isAgg23 rfl (V rfl (ov_len_slice underlying23 rfl rfl) (V rfl (ov_gtr rfl rfl rfl) (Vm rfl ?_)))))))))))
 refine WL.cut_bool 5 14 (x := ((decide ((p_x.step.strokes.length : Int) > 40)) || (decide ((p_x.name.length : Int) > 60)))) ?_ ?_
 ·
  rcases Bool.eq_false_or_eq_true (decide ((p_x.step.strokes.length : Int) > 40)) with hc3 | hc3
  ·
   refine Vi rfl (Idle.no rfl rfl rfl hc3) (Vi rfl (Idle.no rfl rfl rfl hc3) (Vi rfl (Idle.no rfl rfl rfl hc3) (Vi rfl (Idle.no rfl rfl rfl hc3) (V rfl (ov_pick_true rfl (guard_eq rfl hc3) rfl) ?_))))
   exact WL.nil ⟨Sub.cons' rfl (congrArg Value.bool (orT hc3)) (Sub.dropn 5 rfl), fun _ s => s⟩
  refine wy hc3 rfl (ov_fieldAddr underlying28 rfl rfl rfl sizeOf9 rfl rfl) ?_
  refine wy hc3 rfl (ov_load_box (i := 0) isAgg9 rfl rfl rfl rfl) ?_
  refine wy hc3 rfl (ov_len_string underlying9 rfl rfl) ?_
  refine wy hc3 rfl (ov_gtr rfl rfl rfl) ?_
  refine V rfl (ov_pick_false rfl (guard_eq rfl hc3) rfl) ?_
  exact WL.nil ⟨Sub.cons' rfl (congrArg Value.bool (orF hc3)) (Sub.dropn 5 rfl), fun _ s => s⟩
 refine WL.nil (tn ?_)
 refine WP.cond rfl (fun hc4 => ?_) (fun hc4 => ?_)
 ·
  replace hm := ite_t hc4 hm
  refine WP.seq (WP.region (Va rfl (WL.nil (tn (WP.ret (then_ret ?_))))))
  obtain rfl := Option.some.inj hm
  refine retQ_ret results93 (Res.tmp rfl Res.nil) rfl (fun w' s => ⟨s.below, ?_⟩)
  exact rfl
 replace hm := ite_f hc4 hm
 refine WP.skip (tn ?_)
 obtain ⟨k1, hk1, hm⟩ := joinK_some hm
 refine WP.seq_join (fun g' S' => Sub [(1000000007, (.bool false))] g' ∧ (∀ w', S' w' → St w H [] H w') ∧ k1 = some r) ?_ ?_
 ·
  refine WP.seq (WP.region (Va rfl (WL.nil (tn (WP.block ?_)))))
  refine WP.loop (fun m1 g' S' => ∃ (i1 : Int), Sub [(1, (pB b1 0)), (3, (.int .i64 i1)), (1000000007, (.bool false))] g' ∧ (∀ w', S' w' → St w H [.blk b1 28 [(.int .i64 p_x.kind), (.slice ao1 p_x.step.strokes.length cap1), (.int .i64 p_x.step.wait), (.int .i64 p_x.count), (mkS p_x.name), (.slice ao2 p_x.nodes.length cap2)]] H w') ∧ ref15_short_loop1 p_x self k1 m1 i1 = some r) ((Int.toNat ((p_x.nodes.length : Int) - 0) + 1)) ⟨0, (Sub.all rfl), fun w' s => s, hm⟩ ?_ ?_
  ·
   rintro g' S' ⟨_, _, _, hm⟩
   exact none_some hm
  rintro m1 g' S' ⟨i1, hsub1, hS1, hm⟩
  refine WP.sub hsub1 (WP.weaken hS1 ?_)
  rw [ref15_short_loop1] at hm
  refine WP.seq (WP.seq (WP.region (Vm rfl (V rfl (ov_fieldAddr underlying28 rfl rfl rfl sizeOf26 rfl rfl) (Vl 0 isAgg26 rfl (V rfl (ov_len_slice underlying26 rfl rfl) (V rfl (ov_lss rfl rfl rfl) (WL.nil (tn ?_)))))))))
  refine WP.cond rfl (fun hc5 => ?_) (fun hc5 => ?_)
  ·
   replace hm := ite_t hc5 hm
   refine WP.skip (tn (WP.seq (WP.block (WP.seq (WP.region (V rfl (ov_fieldAddr underlying28 rfl rfl rfl sizeOf26 rfl rfl) (Vl 0 isAgg26 rfl (Vm rfl ?_))))))))
   obtain ⟨x1, e1, hm⟩ := bind_some hm
   obtain ⟨h5, h6, h7, cs1, h8, h9⟩ := h2.get e1 (by decide)
   obtain ⟨ao3, cap3, ao4, cap4, rfl, h3, hc6, h4, hc7⟩ := (encNode_open h8)
   refine V rfl (ov_indexAddr underlying26 sizeOf28 rfl rfl rfl h5 h6 h7) (V rfl (ov_load_elems (vs := [(.int .i64 x1.kind), (.slice ao3 x1.step.strokes.length cap3), (.int .i64 x1.step.wait), (.int .i64 x1.count), (mkS x1.name), (.slice ao4 x1.nodes.length cap4)]) isAgg28 sizeOf28 rfl rfl rfl h9 h7) ?_)
   obtain ⟨r1, e2, hm⟩ := bind_some hm
   refine wo rfl (oq_con (r := (.bool r1)) call93 rfl rfl (fun w' s => ⟨_, (hself x1 ao3 cap3 ao4 cap4  w' H s.hold h3 hc6 h4 hc7 hG r1 e2)⟩)) ?_
   refine V rfl (ov_not rfl rfl) (WL.nil (tn ?_))
   refine WP.cond rfl (fun hc8 => ?_) (fun hc8 => ?_)
   ·
    replace hm := ite_t hc8 hm
    refine WP.seq (WP.region (Va rfl (WL.nil (tn (WP.ret (block_ret (then_ret (then_ret (block_ret (then_ret ?_))))))))))
    obtain rfl := Option.some.inj hm
    refine retQ_ret results93 (Res.tmp rfl Res.nil) rfl (fun w' s => ⟨s.below, ?_⟩)
    exact rfl
   replace hm := ite_f hc8 hm
   refine WP.skip (bn (tn (WP.region (Vm rfl (V rfl (ov_add rfl rfl rfl) (Va rfl (WL.nil (tn ?_))))))))
   exact ⟨(IntKind.wrap .i64 (i1 + 1)), (Sub.all rfl), fun w' s => s, hm⟩
  replace hm := ite_f hc5 hm
  refine WP.exit (then_exit (then_exit (block_here (tn ?_))))
  exact ⟨(Sub.all rfl), fun w' s => (s.select [] (by decide) rfl), hm⟩
 rintro g' S' ⟨hsub2, hS2, hm⟩
 refine WP.sub hsub2 (WP.weaken hS2 ?_)
 replace hm := hk1.symm.trans hm
 refine WP.seq (WP.region (Va rfl (WL.nil (tn (WP.ret ?_)))))
 obtain rfl := Option.some.inj hm
 refine retQ_ret results93 (Res.tmp rfl Res.nil) rfl (fun w' s => ⟨s.below, ?_⟩)
 exact rfl
theorem ref15_short_con (n : Nat) : ∀ (p_x : Node) (ao1 : Option Addr) (cap1 : Nat) (ao2 : Option Addr) (cap2 : Nat) (w : World) (H : Heap) (hH : Le H (hp w)) (h1 : SL H encStroke ao1 p_x.step.strokes) (hc1 : p_x.step.strokes.length ≤ cap1) (h2 : SL H encNode ao2 p_x.nodes) (hc2 : p_x.nodes.length ≤ cap2) (hG : Glob H) (r : Bool) (hm : ref15_short n p_x = some r),
  Con prog 93 [(.agg #[(.int .i64 p_x.kind), (.slice ao1 p_x.step.strokes.length cap1), (.int .i64 p_x.step.wait), (.int .i64 p_x.count), (mkS p_x.name), (.slice ao2 p_x.nodes.length cap2)])] w H (fun v _ => v = (.bool r)) := by
 induction n with
 | zero => intro p_x ao1 cap1 ao2 cap2 w H hH h1 hc1 h2 hc2 hG r hm; exact (none_some hm).elim
 | succ n ih => intro p_x ao1 cap1 ao2 cap2 w H hH h1 hc1 h2 hc2 hG r hm; exact ref15_short_body_con (ref15_short n) ih p_x ao1 cap1 ao2 cap2 w H hH h1 hc1 h2 hc2 hG r hm
theorem ref15_Few_con (p_x : Node) (ao1 : Option Addr) (cap1 : Nat) (ao2 : Option Addr) (cap2 : Nat) (w : World) (H : Heap) (hH : Le H (hp w)) (h1 : SL H encStroke ao1 p_x.step.strokes) (hc1 : p_x.step.strokes.length ≤ cap1) (h2 : SL H encNode ao2 p_x.nodes) (hc2 : p_x.nodes.length ≤ cap2) (hG : Glob H) (r : Bool) (hm : ref15_Few p_x = some r) :
  Con prog 50 [(.agg #[(.int .i64 p_x.kind), (.slice ao1 p_x.step.strokes.length cap1), (.int .i64 p_x.step.wait), (.int .i64 p_x.count), (mkS p_x.name), (.slice ao2 p_x.nodes.length cap2)])] w H (fun v _ => v = (.bool r)) := by
 unfold ref15_Few at hm
 refine con_of hH func50 rfl 27 ntmps50 rfl ?_
 refine WP.seq (WP.region ?_)
 refine ws rfl (os_box (cs := [(.int .i64 p_x.kind), (.slice ao1 p_x.step.strokes.length cap1), (.int .i64 p_x.step.wait), (.int .i64 p_x.count), (mkS p_x.name), (.slice ao2 p_x.nodes.length cap2)]) rfl rfl rfl (fun b1 => ?_))
 refine Va rfl (WL.nil (tn (WP.seq (WP.region (V rfl (ov_load_whole (i := 0) isAgg28 sizeOf28 rfl rfl rfl rfl) ?_)))))
 obtain ⟨r1, e1, hm⟩ := bind_some hm
 refine wo rfl (oq_con (r := (.int .i64 r1)) call77 rfl rfl (fun w' s => ⟨_, (ref15_count_con 600 p_x 512 ao1 cap1 ao2 cap2  w' H s.hold h1 hc1 h2 hc2 hG r1 e1)⟩)) ?_
 refine Va rfl (WL.nil (tn (WP.seq (WP.seq (WP.region (Vm rfl (V rfl (ov_gtr rfl rfl rfl) (Vm rfl ?_))))))))
 refine WL.cut_bool 3 11 (x := ((decide (r1 > 30)) && (decide (r1 ≤ 256)))) ?_ ?_
 ·
  rcases Bool.eq_false_or_eq_true (decide (r1 > 30)) with hc3 | hc3
  ·
   refine wy hc3 rfl (ov_move rfl rfl) ?_
   refine wy hc3 rfl (ov_leq rfl rfl rfl) ?_
   refine V rfl (ov_pick_true rfl (guard_eq rfl hc3) rfl) ?_
   exact WL.nil ⟨Sub.cons' rfl (congrArg Value.bool (andT hc3)) (Sub.dropn 3 rfl), fun _ s => s⟩
  refine Vi rfl (Idle.no rfl rfl rfl hc3) (Vi rfl (Idle.no rfl rfl rfl hc3) (V rfl (ov_pick_false rfl (guard_eq rfl hc3) rfl) ?_))
  exact WL.nil ⟨Sub.cons' rfl (congrArg Value.bool (andF hc3)) (Sub.dropn 3 rfl), fun _ s => s⟩
 refine Vm rfl ?_
 refine WL.cut_bool 3 15 (x := (((decide (r1 > 30)) && (decide (r1 ≤ 256))) || (decide (r1 > 512)))) ?_ ?_
 ·
  rcases Bool.eq_false_or_eq_true ((decide (r1 > 30)) && (decide (r1 ≤ 256))) with hc4 | hc4
  ·
   refine Vi rfl (Idle.no rfl rfl rfl hc4) (Vi rfl (Idle.no rfl rfl rfl hc4) (V rfl (ov_pick_true rfl (guard_eq rfl hc4) rfl) ?_))
   exact WL.nil ⟨Sub.cons' rfl (congrArg Value.bool (orT hc4)) (Sub.dropn 3 rfl), fun _ s => s⟩
  refine wy hc4 rfl (ov_move rfl rfl) ?_
  refine wy hc4 rfl (ov_gtr rfl rfl rfl) ?_
  refine V rfl (ov_pick_false rfl (guard_eq rfl hc4) rfl) ?_
  exact WL.nil ⟨Sub.cons' rfl (congrArg Value.bool (orF hc4)) (Sub.dropn 3 rfl), fun _ s => s⟩
 refine Vm rfl ?_
 obtain ⟨c1, e2, hm⟩ := bind_some hm
 refine WL.cut_bool 4 20 (x := c1) ?_ ?_
 ·
  rcases Bool.eq_false_or_eq_true (((decide (r1 > 30)) && (decide (r1 ≤ 256))) || (decide (r1 > 512))) with hc5 | hc5
  ·
   replace hm := ite_t hc5 e2
   refine Vi rfl (Idle.no rfl rfl rfl hc5) (Vi rfl (Idle.no rfl rfl rfl hc5) (Vi rfl (Idle.no rfl rfl rfl hc5) (V rfl (ov_pick_true rfl (guard_eq rfl hc5) rfl) ?_)))
   exact WL.nil ⟨Sub.cons' rfl (congrArg Value.bool (Option.some.inj hm)) (Sub.dropn 4 rfl), fun _ s => s⟩
  replace hm := ite_f hc5 e2
  refine wy hc5 rfl (ov_load_whole (i := 0) isAgg28 sizeOf28 rfl rfl rfl rfl) ?_
  obtain ⟨r2, e3, hm⟩ := bind_some hm
  refine WL.quiet (Runs.yes rfl rfl rfl hc5) rfl rfl (oq_con (r := (.bool r2)) call78 rfl rfl (fun w' s => ⟨_, (ref15_deep_con 600 p_x 40 ao1 cap1 ao2 cap2  w' H s.hold h1 hc1 h2 hc2 hG r2 e3)⟩)) ?_
  refine wy hc5 rfl (ov_not rfl rfl) ?_
  refine V rfl (ov_pick_false rfl (guard_eq rfl hc5) rfl) ?_
  exact WL.nil ⟨Sub.cons' rfl (congrArg Value.bool (Option.some.inj hm)) (Sub.dropn 4 rfl), fun _ s => s⟩
 refine WL.nil (tn ?_)
 refine WP.cond rfl (fun hc6 => ?_) (fun hc6 => ?_)
 ·
  replace hm := ite_t hc6 hm
  refine WP.seq (WP.region (Va rfl (WL.nil (tn (WP.ret (then_ret ?_))))))
  obtain rfl := Option.some.inj hm
  refine retQ_ret results50 (Res.tmp rfl Res.nil) rfl (fun w' s => ⟨s.below, ?_⟩)
  exact rfl
 replace hm := ite_f hc6 hm
 refine WP.skip (tn (WP.seq (WP.region (Vm rfl (V rfl (ov_gtr rfl rfl rfl) (Vm rfl ?_))))))
 obtain ⟨c2, e4, hm⟩ := bind_some hm
 refine WL.cut_bool 3 26 (x := c2) ?_ ?_
 ·
  rcases Bool.eq_false_or_eq_true (decide (r1 > 256)) with hc7 | hc7
  ·
   replace hm := ite_t hc7 e4
   refine Vi rfl (Idle.no rfl rfl rfl hc7) (Vi rfl (Idle.no rfl rfl rfl hc7) (V rfl (ov_pick_true rfl (guard_eq rfl hc7) rfl) ?_))
   exact WL.nil ⟨Sub.cons' rfl (congrArg Value.bool (Option.some.inj hm)) (Sub.dropn 3 rfl), fun _ s => s⟩
  replace hm := ite_f hc7 e4
  refine wy hc7 rfl (ov_load_whole (i := 0) isAgg28 sizeOf28 rfl rfl rfl rfl) ?_
  obtain ⟨r3, e5, hm⟩ := bind_some hm
  refine WL.quiet (Runs.yes rfl rfl rfl hc7) rfl rfl (oq_con (r := (.bool r3)) call93 rfl rfl (fun w' s => ⟨_, (ref15_short_con 600 p_x ao1 cap1 ao2 cap2  w' H s.hold h1 hc1 h2 hc2 hG r3 e5)⟩)) ?_
  refine V rfl (ov_pick_false rfl (guard_eq rfl hc7) rfl) ?_
  exact WL.nil ⟨Sub.cons' rfl (congrArg Value.bool (Option.some.inj hm)) (Sub.dropn 3 rfl), fun _ s => s⟩
 refine Va rfl (WL.nil (tn (WP.ret ?_)))
 obtain rfl := Option.some.inj hm
 refine retQ_ret results50 (Res.tmp rfl Res.nil) rfl (fun w' s => ⟨s.below, ?_⟩)
 exact rfl
theorem ref15_FewNames_con (p_l : (List (List UInt8))) (ao1 : Option Addr) (cap1 : Nat) (w : World) (H : Heap) (hH : Le H (hp w)) (h1 : SL H encStr ao1 p_l) (hc1 : p_l.length ≤ cap1) (hG : Glob H) (r : Bool) (hm : ref15_FewNames p_l = some r) :
  Con prog 51 [(.slice ao1 p_l.length cap1)] w H (fun v _ => v = (.bool r)) := by
 unfold ref15_FewNames at hm
 refine con_of hH func51 rfl 23 ntmps51 rfl ?_
 refine WP.seq (WP.region (Va rfl (WL.nil (tn ?_))))
 obtain ⟨k1, hk1, hm⟩ := joinK_some hm
 refine WP.seq_join (fun g' S' => Sub [(0, (.slice ao1 p_l.length cap1)), (1000000007, (.bool false))] g' ∧ (∀ w', S' w' → St w H [] H w') ∧ k1 = some r) ?_ ?_
 ·
  refine WP.seq (WP.region (Va rfl (WL.nil (tn (WP.block ?_)))))
  refine WP.loop (fun m1 g' S' => ∃ (i1 : Int), Sub [(0, (.slice ao1 p_l.length cap1)), (3, (.int .i64 i1)), (1000000007, (.bool false))] g' ∧ (∀ w', S' w' → St w H [] H w') ∧ ref15_FewNames_loop1 p_l k1 m1 i1 = some r) ((p_l.length + 1)) ⟨0, (Sub.all rfl), fun w' s => s, hm⟩ ?_ ?_
  ·
   rintro g' S' ⟨_, _, _, hm⟩
   exact none_some hm
  rintro m1 g' S' ⟨i1, hsub1, hS1, hm⟩
  refine WP.sub hsub1 (WP.weaken hS1 ?_)
  rw [ref15_FewNames_loop1] at hm
  refine WP.seq (WP.seq (WP.region (Vm rfl (Vm rfl (V rfl (ov_len_slice underlying36 rfl rfl) (V rfl (ov_lss rfl rfl rfl) (Vm rfl ?_)))))))
  refine WL.cut_bool 3 11 (x := ((decide (i1 < (p_l.length : Int))) && (decide (i1 < 20)))) ?_ ?_
  ·
   rcases Bool.eq_false_or_eq_true (decide (i1 < (p_l.length : Int))) with hc2 | hc2
   ·
    refine wy hc2 rfl (ov_move rfl rfl) ?_
    refine wy hc2 rfl (ov_lss rfl rfl rfl) ?_
    refine V rfl (ov_pick_true rfl (guard_eq rfl hc2) rfl) ?_
    exact WL.nil ⟨Sub.cons' rfl (congrArg Value.bool (andT hc2)) (Sub.dropn 3 rfl), fun _ s => s⟩
   refine Vi rfl (Idle.no rfl rfl rfl hc2) (Vi rfl (Idle.no rfl rfl rfl hc2) (V rfl (ov_pick_false rfl (guard_eq rfl hc2) rfl) ?_))
   exact WL.nil ⟨Sub.cons' rfl (congrArg Value.bool (andF hc2)) (Sub.dropn 3 rfl), fun _ s => s⟩
  refine WL.nil (tn ?_)
  refine WP.cond rfl (fun hc3 => ?_) (fun hc3 => ?_)
  ·
   replace hm := ite_t hc3 hm
   refine WP.skip (tn (WP.seq (WP.block (WP.seq (WP.region (Vm rfl (Vm rfl ?_)))))))
   obtain ⟨x1, e1, hm⟩ := bind_some hm
   obtain ⟨h2, h3, h4, cs1, h5, h6⟩ := h1.get e1 (by decide)
   obtain rfl : cs1 = [(mkS x1)] := h5
   refine V rfl (ov_indexAddr underlying36 sizeOf9 rfl rfl rfl h2 h3 h4) (V rfl (ov_load_elem (v := (mkS x1)) isAgg9 rfl rfl h6) (V rfl (ov_len_string underlying9 rfl rfl) (V rfl (ov_gtr rfl rfl rfl) (WL.nil (tn ?_)))))
   refine WP.cond rfl (fun hc4 => ?_) (fun hc4 => ?_)
   ·
    replace hm := ite_t hc4 hm
    refine WP.seq (WP.region (Va rfl (WL.nil (tn (WP.ret (block_ret (then_ret (then_ret (block_ret (then_ret ?_))))))))))
    obtain rfl := Option.some.inj hm
    refine retQ_ret results51 (Res.tmp rfl Res.nil) rfl (fun w' s => ⟨s.below, ?_⟩)
    exact rfl
   replace hm := ite_f hc4 hm
   refine WP.skip (bn (tn (WP.region (Vm rfl (V rfl (ov_add rfl rfl rfl) (Va rfl (WL.nil (tn ?_))))))))
   exact ⟨(IntKind.wrap .i64 (i1 + 1)), (Sub.all rfl), fun w' s => s, hm⟩
  replace hm := ite_f hc3 hm
  refine WP.exit (then_exit (then_exit (block_here (tn ?_))))
  exact ⟨(Sub.all rfl), fun w' s => s, hm⟩
 rintro g' S' ⟨hsub2, hS2, hm⟩
 refine WP.sub hsub2 (WP.weaken hS2 ?_)
 replace hm := hk1.symm.trans hm
 refine WP.seq (WP.region (Vm rfl (V rfl (ov_len_slice underlying36 rfl rfl) (V rfl (ov_leq rfl rfl rfl) (Va rfl (WL.nil (tn (WP.ret ?_))))))))
 obtain rfl := Option.some.inj hm
 refine retQ_ret results51 (Res.tmp rfl Res.nil) rfl (fun w' s => ⟨s.below, ?_⟩)
 exact rfl
theorem law15_few_con (p_x : Node) (p_names : (List (List UInt8))) (ao1 : Option Addr) (cap1 : Nat) (ao2 : Option Addr) (cap2 : Nat) (ao3 : Option Addr) (cap3 : Nat) (w : World) (H : Heap) (hH : Le H (hp w)) (h1 : SL H encStroke ao1 p_x.step.strokes) (hc1 : p_x.step.strokes.length ≤ cap1) (h2 : SL H encNode ao2 p_x.nodes) (hc2 : p_x.nodes.length ≤ cap2) (h3 : SL H encStr ao3 p_names) (hc3 : p_names.length ≤ cap3) (hG : Glob H) (r : Bool) (hm : law15_few p_x p_names = some r) :
  Con prog 15 [(.agg #[(.int .i64 p_x.kind), (.slice ao1 p_x.step.strokes.length cap1), (.int .i64 p_x.step.wait), (.int .i64 p_x.count), (mkS p_x.name), (.slice ao2 p_x.nodes.length cap2)]), (.slice ao3 p_names.length cap3)] w H (fun v _ => v = (.bool r)) := by
 unfold law15_few at hm
 refine con_of hH func15 rfl 11 ntmps15 rfl ?_
 refine WP.seq (WP.region ?_)
 refine ws rfl (os_box (cs := [(.int .i64 p_x.kind), (.slice ao1 p_x.step.strokes.length cap1), (.int .i64 p_x.step.wait), (.int .i64 p_x.count), (mkS p_x.name), (.slice ao2 p_x.nodes.length cap2)]) rfl rfl rfl (fun b1 => ?_))
 refine Va rfl (WL.nil (tn (WP.seq (WP.region (V rfl (ov_load_whole (i := 0) isAgg28 sizeOf28 rfl rfl rfl rfl) ?_)))))
 obtain ⟨r1, e1, hm⟩ := bind_some hm
 refine wo rfl (oq_con (r := (.bool r1)) call50 rfl rfl (fun w' s => ⟨_, (ref15_Few_con p_x ao1 cap1 ao2 cap2  w' H s.hold h1 hc1 h2 hc2 hG r1 e1)⟩)) ?_
 refine Vm rfl ?_
 obtain ⟨c1, e2, hm⟩ := bind_some hm
 refine WL.cut_bool 3 10 (x := c1) ?_ ?_
 ·
  rcases Bool.eq_false_or_eq_true r1 with hc4 | hc4
  ·
   replace hm := ite_t hc4 e2
   refine wy hc4 rfl (ov_move rfl rfl) ?_
   obtain ⟨r2, e3, hm⟩ := bind_some hm
   refine WL.quiet (Runs.yes rfl rfl rfl hc4) rfl rfl (oq_con (r := (.bool r2)) call51 rfl rfl (fun w' s => ⟨_, (ref15_FewNames_con p_names ao3 cap3  w' H s.hold h3 hc3 hG r2 e3)⟩)) ?_
   refine V rfl (ov_pick_true rfl (guard_eq rfl hc4) rfl) ?_
   exact WL.nil ⟨Sub.cons' rfl (congrArg Value.bool (Option.some.inj hm)) (Sub.dropn 3 rfl), fun _ s => s⟩
  replace hm := ite_f hc4 e2
  refine Vi rfl (Idle.no rfl rfl rfl hc4) (Vi rfl (Idle.no rfl rfl rfl hc4) (V rfl (ov_pick_false rfl (guard_eq rfl hc4) rfl) ?_))
  exact WL.nil ⟨Sub.cons' rfl (congrArg Value.bool (Option.some.inj hm)) (Sub.dropn 3 rfl), fun _ s => s⟩
 refine Va rfl (WL.nil (tn (WP.ret ?_)))
 obtain rfl := Option.some.inj hm
 refine retQ_ret results15 (Res.tmp rfl Res.nil) rfl (fun w' s => ⟨s.below, ?_⟩)
 exact rfl
theorem ref13_SameSteps_con (p_a : (List Step)) (p_b : (List Step)) (ao1 : Option Addr) (cap1 : Nat) (ao2 : Option Addr) (cap2 : Nat) (w : World) (H : Heap) (hH : Le H (hp w)) (h1 : SL H encStep ao1 p_a) (hc1 : p_a.length ≤ cap1) (h2 : SL H encStep ao2 p_b) (hc2 : p_b.length ≤ cap2) (hG : Glob H) (r : Bool) (hm : ref13_SameSteps p_a p_b = some r) :
  Con prog 22 [(.slice ao1 p_a.length cap1), (.slice ao2 p_b.length cap2)] w H (fun v _ => v = (.bool r)) := by
 unfold ref13_SameSteps at hm
 refine con_of hH func22 rfl 27 ntmps22 rfl ?_
 refine WP.seq (WP.region (Va rfl (WL.nil (tn (WP.seq (WP.seq (WP.region (Vm rfl (V rfl (ov_len_slice underlying42 rfl rfl) (Vm rfl (V rfl (ov_len_slice underlying42 rfl rfl) (V rfl (ov_neq rfl rfl rfl) (WL.nil ?_)))))))))))))
 refine tn ?_
 refine WP.cond rfl (fun hc3 => ?_) (fun hc3 => ?_)
 ·
  replace hm := ite_t hc3 hm
  refine WP.seq (WP.region (Va rfl (WL.nil (tn (WP.ret (then_ret ?_))))))
  obtain rfl := Option.some.inj hm
  refine retQ_ret results22 (Res.tmp rfl Res.nil) rfl (fun w' s => ⟨s.below, ?_⟩)
  exact rfl
 replace hm := ite_f hc3 hm
 refine WP.skip (tn ?_)
 obtain ⟨k1, hk1, hm⟩ := joinK_some hm
 refine WP.seq_join (fun g' S' => Sub [(1000000007, (.bool false))] g' ∧ (∀ w', S' w' → St w H [] H w') ∧ k1 = some r) ?_ ?_
 ·
  refine WP.seq (WP.region (Va rfl (WL.nil (tn (WP.block ?_)))))
  refine WP.loop (fun m1 g' S' => ∃ (i1 : Int), Sub [(0, (.slice ao1 p_a.length cap1)), (1, (.slice ao2 p_b.length cap2)), (5, (.int .i64 i1)), (1000000007, (.bool false))] g' ∧ (∀ w', S' w' → St w H [] H w') ∧ ref13_SameSteps_loop1 p_a p_b k1 m1 i1 = some r) ((Int.toNat ((p_a.length : Int) - 0) + 1)) ⟨0, (Sub.all rfl), fun w' s => s, hm⟩ ?_ ?_
  ·
   rintro g' S' ⟨_, _, _, hm⟩
   exact none_some hm
  rintro m1 g' S' ⟨i1, hsub1, hS1, hm⟩
  refine WP.sub hsub1 (WP.weaken hS1 ?_)
  rw [ref13_SameSteps_loop1] at hm
  refine WP.seq (WP.seq (WP.region (Vm rfl (Vm rfl (V rfl (ov_len_slice underlying42 rfl rfl) (V rfl (ov_lss rfl rfl rfl) (WL.nil (tn ?_))))))))
  refine WP.cond rfl (fun hc4 => ?_) (fun hc4 => ?_)
  ·
   replace hm := ite_t hc4 hm
   refine WP.skip (tn (WP.seq (WP.block (WP.seq ?_))))
   refine WP.region_draws (by kernel_rfl) (by kernel_rfl) (fun _ s => s.drew) ?_
   refine qf rfl (ov_move rfl rfl) ?_
   refine qf rfl (ov_move rfl rfl) ?_
   obtain ⟨x1, e1, hm⟩ := bind_some hm
   obtain ⟨h4, h5, h6, cs1, h7, h8⟩ := h1.get e1 (by decide)
   obtain ⟨ao3, cap3, rfl, h3, hc5⟩ := h7
   refine qf rfl (ov_indexAddr underlying42 sizeOf25 rfl rfl rfl h4 h5 h6) ?_
   refine qf rfl (ov_load_elems (vs := [(.slice ao3 x1.strokes.length cap3), (.int .i64 x1.wait)]) isAgg25 sizeOf25 rfl rfl rfl h8 h6) ?_
   refine qf rfl (ov_move rfl rfl) ?_
   refine qf rfl (ov_move rfl rfl) ?_
   obtain ⟨x2, e2, hm⟩ := bind_some hm
   obtain ⟨h10, h11, h12, cs2, h13, h14⟩ := h2.get e2 (by decide)
   obtain ⟨ao4, cap4, rfl, h9, hc6⟩ := h13
   refine qf rfl (ov_indexAddr underlying42 sizeOf25 rfl rfl rfl h10 h11 h12) ?_
   refine qf rfl (ov_load_elems (vs := [(.slice ao4 x2.strokes.length cap4), (.int .i64 x2.wait)]) isAgg25 sizeOf25 rfl rfl rfl h14 h12) ?_
   obtain ⟨r1, e3, hm⟩ := bind_some hm
   refine QL.quiet (Runs.free rfl) rfl rfl (oq_con (r := (.bool r1)) call60 rfl rfl (fun w' s => ⟨_, (ref13_Same_con x1 x2 ao3 cap3 ao4 cap4  w' H s.hold h3 hc5 h9 hc6 hG r1 e3)⟩)) ?_
   refine qf rfl (ov_not rfl rfl) ?_
   refine QL.nil ?_
   refine tn ?_
   refine WP.cond rfl (fun hc7 => ?_) (fun hc7 => ?_)
   ·
    replace hm := ite_t hc7 hm
    refine WP.seq (WP.region (Va rfl (WL.nil (tn (WP.ret (block_ret (then_ret (then_ret (block_ret (then_ret ?_))))))))))
    obtain rfl := Option.some.inj hm
    refine retQ_ret results22 (Res.tmp rfl Res.nil) rfl (fun w' s => ⟨s.below, ?_⟩)
    exact rfl
   replace hm := ite_f hc7 hm
   refine WP.skip (bn (tn (WP.region (Vm rfl (V rfl (ov_add rfl rfl rfl) (Va rfl (WL.nil (tn ?_))))))))
   exact ⟨(IntKind.wrap .i64 (i1 + 1)), (Sub.all rfl), fun w' s => s, hm⟩
  replace hm := ite_f hc4 hm
  refine WP.exit (then_exit (then_exit (block_here (tn ?_))))
  exact ⟨(Sub.all rfl), fun w' s => s, hm⟩
 rintro g' S' ⟨hsub2, hS2, hm⟩
 refine WP.sub hsub2 (WP.weaken hS2 ?_)
 replace hm := hk1.symm.trans hm
 refine WP.seq (WP.region (Va rfl (WL.nil (tn (WP.ret ?_)))))
 obtain rfl := Option.some.inj hm
 refine retQ_ret results22 (Res.tmp rfl Res.nil) rfl (fun w' s => ⟨s.below, ?_⟩)
 exact rfl
theorem law15_right_con (p_x : Node) (p_on : (List (List UInt8))) (ao1 : Option Addr) (cap1 : Nat) (ao2 : Option Addr) (cap2 : Nat) (ao3 : Option Addr) (cap3 : Nat) (w : World) (H : Heap) (hH : Le H (hp w)) (h1 : SL H encStroke ao1 p_x.step.strokes) (hc1 : p_x.step.strokes.length ≤ cap1) (h2 : SL H encNode ao2 p_x.nodes) (hc2 : p_x.nodes.length ≤ cap2) (h3 : SL H encStr ao3 p_on) (hc3 : p_on.length ≤ cap3) (hG : Glob H) (r : Bool) (hm : law15_right p_x p_on = some r) :
  Con prog 24 [(.agg #[(.int .i64 p_x.kind), (.slice ao1 p_x.step.strokes.length cap1), (.int .i64 p_x.step.wait), (.int .i64 p_x.count), (mkS p_x.name), (.slice ao2 p_x.nodes.length cap2)]), (.slice ao3 p_on.length cap3)] w H (fun v _ => v = (.bool r)) := by
 unfold law15_right at hm
 refine con_of hH func24 rfl 13 ntmps24 rfl ?_
 refine WP.seq (WP.region ?_)
 refine ws rfl (os_box (cs := [(.int .i64 p_x.kind), (.slice ao1 p_x.step.strokes.length cap1), (.int .i64 p_x.step.wait), (.int .i64 p_x.count), (mkS p_x.name), (.slice ao2 p_x.nodes.length cap2)]) rfl rfl rfl (fun b1 => ?_))
 refine Va rfl (WL.nil (tn (WP.seq (WP.region (V rfl (ov_load_whole (i := 0) isAgg28 sizeOf28 rfl rfl rfl rfl) (Vm rfl ?_))))))
 obtain ⟨r1, e1, hm⟩ := bind_some hm
 refine wo rfl (oq_con (r := (.bool r1)) call15 rfl rfl (fun w' s => ⟨_, (law15_few_con p_x p_on ao1 cap1 ao2 cap2 ao3 cap3  w' H s.hold h1 hc1 h2 hc2 h3 hc3 hG r1 e1)⟩)) ?_
 refine Vm rfl ?_
 obtain ⟨c1, e2, hm⟩ := bind_some hm
 refine WL.cut_bool 4 12 (x := c1) ?_ ?_
 ·
  rcases Bool.eq_false_or_eq_true r1 with hc4 | hc4
  ·
   replace hm := ite_t hc4 e2
   refine wy hc4 rfl (ov_load_whole (i := 0) isAgg28 sizeOf28 rfl rfl rfl rfl) ?_
   obtain ⟨r2, e3, hm⟩ := bind_some hm
   refine WL.quiet (Runs.yes rfl rfl rfl hc4) rfl rfl (oq_con (r := (.int .i64 r2)) call32 rfl rfl (fun w' s => ⟨_, (ref15_Check_con p_x ao1 cap1 ao2 cap2  w' H s.hold h1 hc1 h2 hc2 hG r2 e3)⟩)) ?_
   refine wy hc4 rfl (ov_eql rfl rfl rfl) ?_
   refine V rfl (ov_pick_true rfl (guard_eq rfl hc4) rfl) ?_
   exact WL.nil ⟨Sub.cons' rfl (congrArg Value.bool (Option.some.inj hm)) (Sub.dropn 4 rfl), fun _ s => s⟩
  replace hm := ite_f hc4 e2
  refine Vi rfl (Idle.no rfl rfl rfl hc4) (Vi rfl (Idle.no rfl rfl rfl hc4) (Vi rfl (Idle.no rfl rfl rfl hc4) (V rfl (ov_pick_false rfl (guard_eq rfl hc4) rfl) ?_)))
  exact WL.nil ⟨Sub.cons' rfl (congrArg Value.bool (Option.some.inj hm)) (Sub.dropn 4 rfl), fun _ s => s⟩
 refine Va rfl (WL.nil (tn (WP.ret ?_)))
 obtain rfl := Option.some.inj hm
 refine retQ_ret results24 (Res.tmp rfl Res.nil) rfl (fun w' s => ⟨s.below, ?_⟩)
 exact rfl
theorem program_node_body_con (self : Motion → Option Node) (hself : ∀ (p_m : Motion) (t1 : TypeId) (c1 : Value) (w : World) (H : Heap) (hH : Le H (hp w)) (h1 : MotionRep H p_m (.iface t1 c1)) (hG : Glob H) (r : Node) (hm : self p_m = some r), Con prog 74 [(.iface t1 c1)] w H (fun v H' => ∃ (ao1 : Option Addr) (cap1 : Nat) (ao2 : Option Addr) (cap2 : Nat), v = (.agg #[(.int .i64 r.kind), (.slice ao1 r.step.strokes.length cap1), (.int .i64 r.step.wait), (.int .i64 r.count), (mkS r.name), (.slice ao2 r.nodes.length cap2)]) ∧ SL H' encStroke ao1 r.step.strokes ∧ r.step.strokes.length ≤ cap1 ∧ SL H' encNode ao2 r.nodes ∧ r.nodes.length ≤ cap2)) (p_m : Motion) (t1 : TypeId) (c1 : Value) (w : World) (H : Heap) (hH : Le H (hp w)) (h1 : MotionRep H p_m (.iface t1 c1)) (hG : Glob H) (r : Node) (hm : program_node_body self p_m = some r) :
  Con prog 74 [(.iface t1 c1)] w H (fun v H' => ∃ (ao1 : Option Addr) (cap1 : Nat) (ao2 : Option Addr) (cap2 : Nat), v = (.agg #[(.int .i64 r.kind), (.slice ao1 r.step.strokes.length cap1), (.int .i64 r.step.wait), (.int .i64 r.count), (mkS r.name), (.slice ao2 r.nodes.length cap2)]) ∧ SL H' encStroke ao1 r.step.strokes ∧ r.step.strokes.length ≤ cap1 ∧ SL H' encNode ao2 r.nodes ∧ r.nodes.length ≤ cap2) := by
 unfold program_node_body at hm
 refine con_of hH func74 rfl 67 ntmps74 rfl ?_
 refine WP.seq (WP.region ?_)
 refine ws rfl (os_alloc (cs := [(.int .i64 0), (.slice none 0 0), (.int .i64 0), (.int .i64 0), (mkS []), (.slice none 0 0)]) zeroValue28 rfl rfl (fun b1 => ?_))
 refine WL.nil (tn ?_)
 obtain ⟨k1, hk1, hm⟩ := joinK_some hm
 refine WP.seq_join (fun g' S' => Sub [(2, (pB b1 0)), (1000000007, (.bool false))] g' ∧ (∀ w', S' w' → St w H [.blk b1 28 [(.int .i64 0), (.slice none 0 0), (.int .i64 0), (.int .i64 0), (mkS []), (.slice none 0 0)]] H w') ∧ k1 = some r) ?_ ?_
 ·
  refine WP.seq (WP.region (Vm rfl (WL.nil (tn (WP.block (WP.seq (WP.region ?_)))))))
  rcases Bool.eq_false_or_eq_true p_m.isSingle with hc3 | hc3
  ·
   replace hm := ite_t hc3 hm
   obtain ⟨ao3, cap3, hv1, h4, hc4⟩ := MotionRep.open_isSingle h1 hc3
   refine V rfl (ov_typeAssert_yes (c := (.agg #[(.slice ao3 p_m.stp.strokes.length cap3), (.int .i64 p_m.stp.wait)])) underlying141 (fun _ h => by cases h) rfl rfl hv1) (Ve rfl (Ve rfl (WL.nil (tn (WP.cond_true rfl (WP.seq (WP.region ?_)))))))
   refine ws rfl (os_alloc (cs := [(.slice none 0 0), (.int .i64 0)]) zeroValue141 rfl rfl (fun b2 => ?_))
   refine ws0 rfl (os_store (i := 0) (vs := [(.slice ao3 p_m.stp.strokes.length cap3), (.int .i64 p_m.stp.wait)]) (cs' := [(.slice ao3 p_m.stp.strokes.length cap3), (.int .i64 p_m.stp.wait)]) sizeOf141 rfl rfl rfl rfl rfl rfl rfl rfl rfl ?_)
   refine WL.nil (tn (WP.seq ?_))
   refine WP.region_any (S₀ := St w H [.blk b2 141 [(.slice ao3 p_m.stp.strokes.length cap3), (.int .i64 p_m.stp.wait)]] H) 10 rfl (by kernel_rfl) (fun w' s => (s.select [0] (by decide) rfl)) (fun _ s => s.drew) ?_
   refine TQ 0 (by kernel_rfl) rfl (ov_fieldAddr underlying141 rfl rfl rfl sizeOf25 rfl rfl) (TQ 1 (by kernel_rfl) rfl (ov_fieldAddr underlying25 rfl rfl rfl sizeOf23 rfl rfl) (TQ 2 (by kernel_rfl) rfl (ov_load_box (i := 0) isAgg23 rfl rfl rfl rfl) (TQ 4 (by kernel_rfl) rfl (ov_fieldAddr underlying141 rfl rfl rfl sizeOf25 rfl rfl) (TQ 5 (by kernel_rfl) rfl (ov_fieldAddr underlying25 rfl rfl rfl sizeOf3 rfl rfl) (TQ 6 (by kernel_rfl) rfl (ov_load_box (i := 0) isAgg3 rfl rfl rfl rfl) ?_)))))
   refine AL.any (rs := [3]) (by kernel_rfl) (by decide) ?_
   refine ALs.cons (i := 3) rfl (Runs.free rfl) rfl rfl ?_ ?_
   ·
    obtain ⟨l1, e1, hm⟩ := bind_some hm
    refine os_cloneS rfl rfl h4 hc4 e1 (fun ao4 cap4 xs1 rl1 => ?_)
    refine ⟨fun w' s => (s.select [1] (by decide) rfl), ?_⟩
    refine TQ 7 (by kernel_rfl) rfl (ov_build (r := (.agg #[(.slice ao4 p_m.stp.strokes.length cap4), (.int .i64 p_m.stp.wait)])) rfl rfl (fun _ => by kernel_rfl)) (TQ 8 (by kernel_rfl) rfl (ov_build (r := (.agg #[(.int .i64 0), (.slice ao4 p_m.stp.strokes.length cap4), (.int .i64 p_m.stp.wait), (.int .i64 0), (mkS []), (.slice none 0 0)])) rfl rfl (fun _ => by kernel_rfl)) ?_)
    refine AL.any (rs := [9]) (by kernel_rfl) (by decide) ?_
    refine ALs.cons0 (i := 9) rfl (Runs.free rfl) rfl ?_ ?_
    ·
     refine os_store (i := 2) (vs := [(.int .i64 0), (.slice ao4 p_m.stp.strokes.length cap4), (.int .i64 p_m.stp.wait), (.int .i64 0), (mkS []), (.slice none 0 0)]) (cs' := [(.int .i64 0), (.slice ao4 p_m.stp.strokes.length cap4), (.int .i64 p_m.stp.wait), (.int .i64 0), (mkS []), (.slice none 0 0)]) sizeOf28 rfl rfl rfl rfl rfl rfl rfl rfl rfl ?_
     refine ⟨fun w' s => (s.select [1] (by decide) rfl), ?_⟩
     refine AL.done (by kernel_rfl) ?_
     refine tn (WP.ret (block_ret (then_ret ?_)))
     obtain rfl := Option.some.inj hm
     refine retQ_ret results74 (Res.cell rfl (box_loads (i := 2) isAgg28 sizeOf28 rfl rfl) Res.nil) rfl (fun w' s => ⟨s.below, ?_⟩)
     obtain ⟨h5, hc5⟩ := s.ret_row (i := 0) rfl rl1
     exact ⟨ao4, cap4, none, 0, rfl, h5, hc5, SL.nil _ _ _, Nat.le_refl _⟩
    exact ALs.nil
   exact ALs.nil
  replace hm := ite_f hc3 hm
  obtain ⟨t2, v1, hv2, hv3⟩ := MotionRep.not_isSingle h1 hc3
  refine V rfl (ov_typeAssert_no (z := (.agg #[(.slice none 0 0), (.int .i64 0)])) underlying141 (fun _ h => by cases h) zeroValue141 rfl rfl hv2 hv3) (Ve rfl (Ve rfl (WL.nil (tn (WP.cond_false rfl (WP.seq (WP.region ?_)))))))
  rcases Bool.eq_false_or_eq_true p_m.isList with hc6 | hc6
  ·
   replace hm := ite_t hc6 hm
   obtain ⟨ao5, cap5, hv4, h6, hc7⟩ := MotionRep.open_isList h1 hc6
   refine V rfl (ov_typeAssert_yes (c := (.agg #[(.slice ao5 p_m.prts.length cap5)])) underlying144 (fun _ h => by cases h) rfl rfl hv4) (Ve rfl (Ve rfl (WL.nil (tn (WP.cond_true rfl (WP.seq (WP.region ?_)))))))
   refine ws rfl (os_alloc (cs := [(.slice none 0 0)]) zeroValue144 rfl rfl (fun b3 => ?_))
   refine ws0 rfl (os_store (i := 0) (vs := [(.slice ao5 p_m.prts.length cap5)]) (cs' := [(.slice ao5 p_m.prts.length cap5)]) sizeOf144 rfl rfl rfl rfl rfl rfl rfl rfl rfl ?_)
   refine WL.nil (tn (WP.seq (WP.region (V rfl (ov_build (r := (.agg #[(.int .i64 1), (.slice none 0 0), (.int .i64 0), (.int .i64 0), (mkS []), (.slice none 0 0)])) rfl rfl (fun _ => by kernel_rfl)) ?_))))
   refine ws rfl (os_alloc (cs := [(.int .i64 0), (.slice none 0 0), (.int .i64 0), (.int .i64 0), (mkS []), (.slice none 0 0)]) zeroValue28 rfl rfl (fun b4 => ?_))
   refine ws0 rfl (os_store (i := 0) (vs := [(.int .i64 1), (.slice none 0 0), (.int .i64 0), (.int .i64 0), (mkS []), (.slice none 0 0)]) (cs' := [(.int .i64 1), (.slice none 0 0), (.int .i64 0), (.int .i64 0), (mkS []), (.slice none 0 0)]) sizeOf28 rfl rfl rfl rfl rfl rfl rfl rfl rfl ?_)
   refine WL.nil (tn ?_)
   obtain ⟨k2, hk2, hm⟩ := joinK_some hm
   refine WP.seq_join (fun g' S' => ∃ (H3 : Heap) (l4 : (List Node)) (ao10 : Option Addr) (cap10 : Nat) (xs3 : List Value), Le H H3 ∧ RL H3 encNode l4 xs3 ∧ Sub [(2, (pB b1 0)), (5, (pB b4 0)), (1000000007, (.bool false))] g' ∧ (∀ w', S' w' → St w H [.row 28 (encNode).size l4.length (.slice ao10 l4.length cap10) xs3, .blk b4 28 [(.int .i64 1), (.slice none 0 0), (.int .i64 0), (.int .i64 0), (mkS []), (.slice ao10 l4.length cap10)], .blk b1 28 [(.int .i64 0), (.slice none 0 0), (.int .i64 0), (.int .i64 0), (mkS []), (.slice none 0 0)]] H3 w') ∧ k2 l4 = some r) ?_ ?_
   ·
    refine WP.seq (WP.region (V rfl (ov_fieldAddr underlying144 rfl rfl rfl sizeOf142 rfl rfl) (Vl 1 isAgg142 rfl (V rfl (ov_len_slice underlying142 rfl rfl) (Vm rfl (WL.nil (tn (WP.block ?_))))))))
    have rl2 := RL.nil (α := Node) H encNode
    refine WP.weaken (fun _ s => s.nilrow 28 (encNode).size) ?_
    refine WP.loop (fun m1 g' S' => ∃ (H1 : Heap) (i1 : Int) (l2 : (List Node)) (ao6 : Option Addr) (cap6 : Nat) (xs2 : List Value), Le H H1 ∧ RL H1 encNode l2 xs2 ∧ Sub [(2, (pB b1 0)), (5, (pB b4 0)), (28, (.slice ao5 p_m.prts.length cap5)), (29, (.int .i64 (p_m.prts.length : Int))), (30, (.int .i64 i1)), (1000000007, (.bool false))] g' ∧ (∀ w', S' w' → St w H [.row 28 (encNode).size l2.length (.slice ao6 l2.length cap6) xs2, .blk b4 28 [(.int .i64 1), (.slice none 0 0), (.int .i64 0), (.int .i64 0), (mkS []), (.slice ao6 l2.length cap6)], .blk b1 28 [(.int .i64 0), (.slice none 0 0), (.int .i64 0), (.int .i64 0), (mkS []), (.slice none 0 0)]] H1 w') ∧ program_node_loop1 p_m self k2 m1 i1 l2 = some r) ((Int.toNat ((p_m.prts.length : Int) - 0) + 1)) ⟨H, 0, ([] : List Node), none, 0, [], (Le.refl _), rl2, (Sub.all rfl), fun w' s => (s.select [0, 1, 3] (by decide) rfl), hm⟩ ?_ ?_
    ·
     rintro g' S' ⟨_, _, _, _, _, _, _, _, _, _, hm⟩
     exact none_some hm
    rintro m1 g' S' ⟨H1, i1, l2, ao6, cap6, xs2, hle1, rl3, hsub1, hS1, hm⟩
    refine WP.sub hsub1 (WP.weaken hS1 ?_)
    rw [program_node_loop1] at hm
    replace h6 := h6.mono hle1
    replace hG := hG.mono hle1
    refine WP.seq (WP.region (V rfl (ov_lss rfl rfl rfl) (WL.nil (tn (WP.seq ?_)))))
    refine WP.cond rfl (fun hc8 => ?_) (fun hc8 => ?_)
    ·
     replace hm := ite_t hc8 hm
     refine WP.skip (tn (WP.seq (WP.block (WP.seq (WP.region ?_)))))
     obtain ⟨x1, e2, hm⟩ := bind_some hm
     obtain ⟨h8, h9, h10, cs1, h11, h12⟩ := h6.get e2 (by decide)
     obtain ⟨t3, c2, rfl, h7⟩ := h11
     refine V rfl (ov_indexAddr underlying142 sizeOf99 rfl rfl rfl h8 h9 h10) (V rfl (ov_load_elem (v := (.iface t3 c2)) isAgg99 rfl rfl h12) (Va rfl (WL.nil (tn ?_))))
     refine WP.region_any (S₀ := St w H [.blk b1 28 [(.int .i64 0), (.slice none 0 0), (.int .i64 0), (.int .i64 0), (mkS []), (.slice none 0 0)]] H1) 8 rfl (by kernel_rfl) (fun w' s => (s.select [2] (by decide) rfl)) (fun _ s => s.drew) ?_
     refine TQ 0 (by kernel_rfl) rfl (ov_fieldAddr underlying28 rfl rfl rfl sizeOf26 rfl rfl) (TQ 2 (by kernel_rfl) rfl (ov_move rfl rfl) ?_)
     refine AL.any (rs := [1, 3]) (by kernel_rfl) (by decide) ?_
     refine ALs.cons (i := 1) rfl (Runs.free rfl) rfl rfl ?_ ?_
     ·
      refine OQ.step (OV.quiet (ov_load_box (i := 1) isAgg26 rfl rfl rfl rfl)) ?_
      refine ⟨fun w' s => (s.select [2] (by decide) rfl), ?_⟩
      refine AL.any (rs := [3]) (by kernel_rfl) (by decide) ?_
      refine ALs.cons (i := 3) rfl (Runs.free rfl) rfl rfl ?_ ?_
      ·
       obtain ⟨r1, e3, hm⟩ := bind_some hm
       refine os_con call74 rfl rfl (fun w' s => (hself x1 t3 c2  w' H1 s.hold h7  hG r1 e3)) (fun rr1 H2 hle2 hR1 => ?_)
       replace h7 := h7.mono hle2
       replace rl3 := rl3.mono hle2
       replace hG := hG.mono hle2
       obtain ⟨ao7, cap7, ao8, cap8, rfl, h13, hc9, h14, hc10⟩ := hR1
       refine ⟨fun w' s => ((s.select [2] (by decide) rfl).heap hle2), ?_⟩
       refine AL.any (rs := [4]) (by kernel_rfl) (by decide) ?_
       refine ALs.cons (i := 4) rfl (Runs.free rfl) rfl rfl ?_ ?_
       ·
        have rl4 : RL H2 encNode ([r1] : List Node) [(.int .i64 r1.kind), (.slice ao7 r1.step.strokes.length cap7), (.int .i64 r1.step.wait), (.int .i64 r1.count), (mkS r1.name), (.slice ao8 r1.nodes.length cap8)] := RL.cons (cs := [(.int .i64 r1.kind), (.slice ao7 r1.step.strokes.length cap7), (.int .i64 r1.step.wait), (.int .i64 r1.count), (mkS r1.name), (.slice ao8 r1.nodes.length cap8)]) (xs := []) (encNode_make ⟨ao7, cap7, ao8, cap8, rfl, h13, hc9, h14, hc10⟩) (RL.nil _ _)
        refine os_buildSlice (cs := [(.int .i64 r1.kind), (.slice ao7 r1.step.strokes.length cap7), (.int .i64 r1.step.wait), (.int .i64 r1.count), (mkS r1.name), (.slice ao8 r1.nodes.length cap8)]) (E := 28) (sz := 6) rfl rfl (fun _ => by kernel_rfl) rfl (by decide) (fun b5 => ?_)
        refine ⟨fun w' s => ((s.select [3] (by decide) rfl).heap hle2), ?_⟩
        refine AL.any (rs := [5]) (by kernel_rfl) (by decide) ?_
        refine ALs.cons (i := 5) rfl (Runs.free rfl) rfl rfl ?_ ?_
        ·
         obtain ⟨l3, e4, hm⟩ := bind_some hm
         refine os_app (i := 1) (j := 0) (En := encNode) (xs := xs2) (ys := [(.int .i64 r1.kind), (.slice ao7 r1.step.strokes.length cap7), (.int .i64 r1.step.wait), (.int .i64 r1.count), (mkS r1.name), (.slice ao8 r1.nodes.length cap8)]) underlying26 (by kernel_rfl : (prog.info? 28).map (fun i => (i.zero, i.size, i.bytes)) = some (some (.agg #[(.int .i64 0), (.slice none 0 0), (.int .i64 0), (.int .i64 0), (mkS []), (.slice none 0 0)]), (encNode).size, 88)) rfl (by decide) rfl rfl rfl rfl rfl rfl rl3 rl4 e4 (fun ao9 cap9 rl5 => ?_)
         refine ⟨fun w' s => ((s.select [3] (by decide) rfl).heap hle2), ?_⟩
         refine TQ 6 (by kernel_rfl) rfl (ov_fieldAddr underlying28 rfl rfl rfl sizeOf26 rfl rfl) ?_
         refine AL.any (rs := [7]) (by kernel_rfl) (by decide) ?_
         refine ALs.cons0 (i := 7) rfl (Runs.free rfl) rfl ?_ ?_
         ·
          refine os_store (i := 2) (vs := [(.slice ao9 (l2 ++ ([r1] : List Node)).length cap9)]) (cs' := [(.int .i64 1), (.slice none 0 0), (.int .i64 0), (.int .i64 0), (mkS []), (.slice ao9 (l2 ++ ([r1] : List Node)).length cap9)]) sizeOf26 rfl rfl rfl rfl rfl rfl rfl rfl rfl ?_
          refine ⟨fun w' s => ((s.select [3] (by decide) rfl).heap hle2), ?_⟩
          refine AL.done (by kernel_rfl) ?_
          refine bn (tn (WP.region (V rfl (ov_add rfl rfl rfl) (Vm rfl (WL.nil (tn ?_))))))
          exact ⟨H2, (IntKind.wrap .i64 (i1 + 1)), (l2 ++ ([r1] : List Node)), ao9, cap9, (xs2 ++ [(.int .i64 r1.kind), (.slice ao7 r1.step.strokes.length cap7), (.int .i64 r1.step.wait), (.int .i64 r1.count), (mkS r1.name), (.slice ao8 r1.nodes.length cap8)]), (hle1.trans hle2), rl5, (Sub.all rfl), fun w' s => (s.select [1, 2, 3] (by decide) rfl), hm⟩
         exact ALs.nil
        exact ALs.nil
       exact ALs.nil
      exact ALs.nil
     refine ALs.cons (i := 3) rfl (Runs.free rfl) rfl rfl ?_ ?_
     ·
      obtain ⟨r1, e3, hm⟩ := bind_some hm
      refine os_con call74 rfl rfl (fun w' s => (hself x1 t3 c2  w' H1 s.hold h7  hG r1 e3)) (fun rr1 H2 hle2 hR1 => ?_)
      replace rl3 := rl3.mono hle2
      replace hG := hG.mono hle2
      obtain ⟨ao7, cap7, ao8, cap8, rfl, h13, hc9, h14, hc10⟩ := hR1
      refine ⟨fun w' s => ((s.select [2] (by decide) rfl).heap hle2), ?_⟩
      refine AL.any (rs := [1, 4]) (by kernel_rfl) (by decide) ?_
      refine ALs.cons (i := 1) rfl (Runs.free rfl) rfl rfl ?_ ?_
      ·
       refine OQ.step (OV.quiet (ov_load_box (i := 1) isAgg26 rfl rfl rfl rfl)) ?_
       refine ⟨fun w' s => ((s.select [2] (by decide) rfl).heap hle2), ?_⟩
       refine AL.any (rs := [4]) (by kernel_rfl) (by decide) ?_
       refine ALs.cons (i := 4) rfl (Runs.free rfl) rfl rfl ?_ ?_
       ·
        have rl4 : RL H2 encNode ([r1] : List Node) [(.int .i64 r1.kind), (.slice ao7 r1.step.strokes.length cap7), (.int .i64 r1.step.wait), (.int .i64 r1.count), (mkS r1.name), (.slice ao8 r1.nodes.length cap8)] := RL.cons (cs := [(.int .i64 r1.kind), (.slice ao7 r1.step.strokes.length cap7), (.int .i64 r1.step.wait), (.int .i64 r1.count), (mkS r1.name), (.slice ao8 r1.nodes.length cap8)]) (xs := []) (encNode_make ⟨ao7, cap7, ao8, cap8, rfl, h13, hc9, h14, hc10⟩) (RL.nil _ _)
        refine os_buildSlice (cs := [(.int .i64 r1.kind), (.slice ao7 r1.step.strokes.length cap7), (.int .i64 r1.step.wait), (.int .i64 r1.count), (mkS r1.name), (.slice ao8 r1.nodes.length cap8)]) (E := 28) (sz := 6) rfl rfl (fun _ => by kernel_rfl) rfl (by decide) (fun b5 => ?_)
        refine ⟨fun w' s => ((s.select [3] (by decide) rfl).heap hle2), ?_⟩
        refine AL.any (rs := [5]) (by kernel_rfl) (by decide) ?_
        refine ALs.cons (i := 5) rfl (Runs.free rfl) rfl rfl ?_ ?_
        ·
         obtain ⟨l3, e4, hm⟩ := bind_some hm
         refine os_app (i := 1) (j := 0) (En := encNode) (xs := xs2) (ys := [(.int .i64 r1.kind), (.slice ao7 r1.step.strokes.length cap7), (.int .i64 r1.step.wait), (.int .i64 r1.count), (mkS r1.name), (.slice ao8 r1.nodes.length cap8)]) underlying26 (by kernel_rfl : (prog.info? 28).map (fun i => (i.zero, i.size, i.bytes)) = some (some (.agg #[(.int .i64 0), (.slice none 0 0), (.int .i64 0), (.int .i64 0), (mkS []), (.slice none 0 0)]), (encNode).size, 88)) rfl (by decide) rfl rfl rfl rfl rfl rfl rl3 rl4 e4 (fun ao9 cap9 rl5 => ?_)
         refine ⟨fun w' s => ((s.select [3] (by decide) rfl).heap hle2), ?_⟩
         refine TQ 6 (by kernel_rfl) rfl (ov_fieldAddr underlying28 rfl rfl rfl sizeOf26 rfl rfl) ?_
         refine AL.any (rs := [7]) (by kernel_rfl) (by decide) ?_
         refine ALs.cons0 (i := 7) rfl (Runs.free rfl) rfl ?_ ?_
         ·
          refine os_store (i := 2) (vs := [(.slice ao9 (l2 ++ ([r1] : List Node)).length cap9)]) (cs' := [(.int .i64 1), (.slice none 0 0), (.int .i64 0), (.int .i64 0), (mkS []), (.slice ao9 (l2 ++ ([r1] : List Node)).length cap9)]) sizeOf26 rfl rfl rfl rfl rfl rfl rfl rfl rfl ?_
          refine ⟨fun w' s => ((s.select [3] (by decide) rfl).heap hle2), ?_⟩
          refine AL.done (by kernel_rfl) ?_
          refine bn (tn (WP.region (V rfl (ov_add rfl rfl rfl) (Vm rfl (WL.nil (tn ?_))))))
          exact ⟨H2, (IntKind.wrap .i64 (i1 + 1)), (l2 ++ ([r1] : List Node)), ao9, cap9, (xs2 ++ [(.int .i64 r1.kind), (.slice ao7 r1.step.strokes.length cap7), (.int .i64 r1.step.wait), (.int .i64 r1.count), (mkS r1.name), (.slice ao8 r1.nodes.length cap8)]), (hle1.trans hle2), rl5, (Sub.all rfl), fun w' s => (s.select [1, 2, 3] (by decide) rfl), hm⟩
         exact ALs.nil
        exact ALs.nil
       exact ALs.nil
      refine ALs.cons (i := 4) rfl (Runs.free rfl) rfl rfl ?_ ?_
      ·
       have rl4 : RL H2 encNode ([r1] : List Node) [(.int .i64 r1.kind), (.slice ao7 r1.step.strokes.length cap7), (.int .i64 r1.step.wait), (.int .i64 r1.count), (mkS r1.name), (.slice ao8 r1.nodes.length cap8)] := RL.cons (cs := [(.int .i64 r1.kind), (.slice ao7 r1.step.strokes.length cap7), (.int .i64 r1.step.wait), (.int .i64 r1.count), (mkS r1.name), (.slice ao8 r1.nodes.length cap8)]) (xs := []) (encNode_make ⟨ao7, cap7, ao8, cap8, rfl, h13, hc9, h14, hc10⟩) (RL.nil _ _)
       refine os_buildSlice (cs := [(.int .i64 r1.kind), (.slice ao7 r1.step.strokes.length cap7), (.int .i64 r1.step.wait), (.int .i64 r1.count), (mkS r1.name), (.slice ao8 r1.nodes.length cap8)]) (E := 28) (sz := 6) rfl rfl (fun _ => by kernel_rfl) rfl (by decide) (fun b5 => ?_)
       refine ⟨fun w' s => ((s.select [3] (by decide) rfl).heap hle2), ?_⟩
       refine AL.any (rs := [1]) (by kernel_rfl) (by decide) ?_
       refine ALs.cons (i := 1) rfl (Runs.free rfl) rfl rfl ?_ ?_
       ·
        refine OQ.step (OV.quiet (ov_load_box (i := 2) isAgg26 rfl rfl rfl rfl)) ?_
        refine ⟨fun w' s => ((s.select [3] (by decide) rfl).heap hle2), ?_⟩
        refine AL.any (rs := [5]) (by kernel_rfl) (by decide) ?_
        refine ALs.cons (i := 5) rfl (Runs.free rfl) rfl rfl ?_ ?_
        ·
         obtain ⟨l3, e4, hm⟩ := bind_some hm
         refine os_app (i := 1) (j := 0) (En := encNode) (xs := xs2) (ys := [(.int .i64 r1.kind), (.slice ao7 r1.step.strokes.length cap7), (.int .i64 r1.step.wait), (.int .i64 r1.count), (mkS r1.name), (.slice ao8 r1.nodes.length cap8)]) underlying26 (by kernel_rfl : (prog.info? 28).map (fun i => (i.zero, i.size, i.bytes)) = some (some (.agg #[(.int .i64 0), (.slice none 0 0), (.int .i64 0), (.int .i64 0), (mkS []), (.slice none 0 0)]), (encNode).size, 88)) rfl (by decide) rfl rfl rfl rfl rfl rfl rl3 rl4 e4 (fun ao9 cap9 rl5 => ?_)
         refine ⟨fun w' s => ((s.select [3] (by decide) rfl).heap hle2), ?_⟩
         refine TQ 6 (by kernel_rfl) rfl (ov_fieldAddr underlying28 rfl rfl rfl sizeOf26 rfl rfl) ?_
         refine AL.any (rs := [7]) (by kernel_rfl) (by decide) ?_
         refine ALs.cons0 (i := 7) rfl (Runs.free rfl) rfl ?_ ?_
         ·
          refine os_store (i := 2) (vs := [(.slice ao9 (l2 ++ ([r1] : List Node)).length cap9)]) (cs' := [(.int .i64 1), (.slice none 0 0), (.int .i64 0), (.int .i64 0), (mkS []), (.slice ao9 (l2 ++ ([r1] : List Node)).length cap9)]) sizeOf26 rfl rfl rfl rfl rfl rfl rfl rfl rfl ?_
          refine ⟨fun w' s => ((s.select [3] (by decide) rfl).heap hle2), ?_⟩
          refine AL.done (by kernel_rfl) ?_
          refine bn (tn (WP.region (V rfl (ov_add rfl rfl rfl) (Vm rfl (WL.nil (tn ?_))))))
          exact ⟨H2, (IntKind.wrap .i64 (i1 + 1)), (l2 ++ ([r1] : List Node)), ao9, cap9, (xs2 ++ [(.int .i64 r1.kind), (.slice ao7 r1.step.strokes.length cap7), (.int .i64 r1.step.wait), (.int .i64 r1.count), (mkS r1.name), (.slice ao8 r1.nodes.length cap8)]), (hle1.trans hle2), rl5, (Sub.all rfl), fun w' s => (s.select [1, 2, 3] (by decide) rfl), hm⟩
         exact ALs.nil
        exact ALs.nil
       exact ALs.nil
      exact ALs.nil
     exact ALs.nil
    replace hm := ite_f hc8 hm
    refine WP.exit (then_exit (then_exit (block_here (tn ?_))))
    exact ⟨H1, l2, ao6, cap6, xs2, hle1, rl3, (Sub.all rfl), fun w' s => s, hm⟩
   rintro g' S' ⟨H3, l4, ao10, cap10, xs3, hle3, rl6, hsub2, hS2, hm⟩
   refine WP.sub hsub2 (WP.weaken hS2 ?_)
   replace hm := (congrFun hk2 l4).symm.trans hm
   replace hG := hG.mono hle3
   refine WP.seq (WP.region (V rfl (ov_load_whole (i := 1) isAgg28 sizeOf28 rfl rfl rfl rfl) ?_))
   refine ws0 rfl (os_store (i := 2) (vs := [(.int .i64 1), (.slice none 0 0), (.int .i64 0), (.int .i64 0), (mkS []), (.slice ao10 l4.length cap10)]) (cs' := [(.int .i64 1), (.slice none 0 0), (.int .i64 0), (.int .i64 0), (mkS []), (.slice ao10 l4.length cap10)]) sizeOf28 rfl rfl rfl rfl rfl rfl rfl rfl rfl ?_)
   refine WL.nil (tn (WP.ret (block_ret (then_ret ?_))))
   obtain rfl := Option.some.inj hm
   refine retQ_ret results74 (Res.cell rfl (box_loads (i := 2) isAgg28 sizeOf28 rfl rfl) Res.nil) rfl (fun w' s => ⟨s.below, ?_⟩)
   obtain ⟨h15, hc11⟩ := s.ret_row (i := 0) rfl rl6
   exact ⟨none, 0, ao10, cap10, rfl, SL.nil _ _ _, Nat.le_refl _, h15, hc11⟩
  replace hm := ite_f hc6 hm
  obtain ⟨t4, v2, hv5, hv6⟩ := MotionRep.not_isList h1 hc6
  refine V rfl (ov_typeAssert_no (z := (.agg #[(.slice none 0 0)])) underlying144 (fun _ h => by cases h) zeroValue144 rfl rfl hv5 hv6) (Ve rfl (Ve rfl (WL.nil (tn (WP.cond_false rfl (WP.seq (WP.region ?_)))))))
  rcases Bool.eq_false_or_eq_true p_m.isRepeat with hc12 | hc12
  ·
   replace hm := ite_t hc12 hm
   obtain ⟨t5, c3, hv7, h16⟩ := MotionRep.open_isRepeat h1 hc12
   refine V rfl (ov_typeAssert_yes (c := (.agg #[(.int .i64 p_m.cnt), (.iface t5 c3)])) underlying146 (fun _ h => by cases h) rfl rfl hv7) (Ve rfl (Ve rfl (WL.nil (tn (WP.cond_true rfl (WP.seq (WP.region ?_)))))))
   refine ws rfl (os_alloc (cs := [(.int .i64 0), .nilIface]) zeroValue146 rfl rfl (fun b6 => ?_))
   refine ws0 rfl (os_store (i := 0) (vs := [(.int .i64 p_m.cnt), (.iface t5 c3)]) (cs' := [(.int .i64 p_m.cnt), (.iface t5 c3)]) sizeOf146 rfl rfl rfl rfl rfl rfl rfl rfl rfl ?_)
   refine WL.nil (tn (WP.seq ?_))
   refine WP.region_any (S₀ := St w H [.blk b6 146 [(.int .i64 p_m.cnt), (.iface t5 c3)]] H) 8 rfl (by kernel_rfl) (fun w' s => (s.select [0] (by decide) rfl)) (fun _ s => s.drew) ?_
   refine TQ 0 (by kernel_rfl) rfl (ov_fieldAddr underlying146 rfl rfl rfl sizeOf3 rfl rfl) (TQ 1 (by kernel_rfl) rfl (ov_load_box (i := 0) isAgg3 rfl rfl rfl rfl) (TQ 2 (by kernel_rfl) rfl (ov_fieldAddr underlying146 rfl rfl rfl sizeOf99 rfl rfl) (TQ 3 (by kernel_rfl) rfl (ov_load_box (i := 0) isAgg99 rfl rfl rfl rfl) ?_)))
   refine AL.any (rs := [4]) (by kernel_rfl) (by decide) ?_
   refine ALs.cons (i := 4) rfl (Runs.free rfl) rfl rfl ?_ ?_
   ·
    obtain ⟨r2, e5, hm⟩ := bind_some hm
    refine os_con call74 rfl rfl (fun w' s => (hself p_m.prt t5 c3  w' H s.hold h16  hG r2 e5)) (fun rr2 H4 hle4 hR2 => ?_)
    replace h1 := h1.mono hle4
    replace hG := hG.mono hle4
    obtain ⟨ao11, cap11, ao12, cap12, rfl, h17, hc13, h18, hc14⟩ := hR2
    refine ⟨fun w' s => ((s.select [0] (by decide) rfl).heap hle4), ?_⟩
    refine AL.any (rs := [5]) (by kernel_rfl) (by decide) ?_
    refine ALs.cons (i := 5) rfl (Runs.free rfl) rfl rfl ?_ ?_
    ·
     have rl7 : RL H4 encNode ([r2] : List Node) [(.int .i64 r2.kind), (.slice ao11 r2.step.strokes.length cap11), (.int .i64 r2.step.wait), (.int .i64 r2.count), (mkS r2.name), (.slice ao12 r2.nodes.length cap12)] := RL.cons (cs := [(.int .i64 r2.kind), (.slice ao11 r2.step.strokes.length cap11), (.int .i64 r2.step.wait), (.int .i64 r2.count), (mkS r2.name), (.slice ao12 r2.nodes.length cap12)]) (xs := []) (encNode_make ⟨ao11, cap11, ao12, cap12, rfl, h17, hc13, h18, hc14⟩) (RL.nil _ _)
     refine os_buildSlice (cs := [(.int .i64 r2.kind), (.slice ao11 r2.step.strokes.length cap11), (.int .i64 r2.step.wait), (.int .i64 r2.count), (mkS r2.name), (.slice ao12 r2.nodes.length cap12)]) (E := 28) (sz := 6) rfl rfl (fun _ => by kernel_rfl) rfl (by decide) (fun b7 => ?_)
     refine ⟨fun w' s => ((s.select [1] (by decide) rfl).heap hle4), ?_⟩
     refine TQ 6 (by kernel_rfl) rfl (ov_build (r := (.agg #[(.int .i64 2), (.slice none 0 0), (.int .i64 0), (.int .i64 p_m.cnt), (mkS []), (.slice (some ⟨b7, 0, none⟩) ([r2] : List Node).length 1)])) rfl rfl (fun _ => by kernel_rfl)) ?_
     refine AL.any (rs := [7]) (by kernel_rfl) (by decide) ?_
     refine ALs.cons0 (i := 7) rfl (Runs.free rfl) rfl ?_ ?_
     ·
      refine os_store (i := 2) (vs := [(.int .i64 2), (.slice none 0 0), (.int .i64 0), (.int .i64 p_m.cnt), (mkS []), (.slice (some ⟨b7, 0, none⟩) ([r2] : List Node).length 1)]) (cs' := [(.int .i64 2), (.slice none 0 0), (.int .i64 0), (.int .i64 p_m.cnt), (mkS []), (.slice (some ⟨b7, 0, none⟩) ([r2] : List Node).length 1)]) sizeOf28 rfl rfl rfl rfl rfl rfl rfl rfl rfl ?_
      refine ⟨fun w' s => ((s.select [1] (by decide) rfl).heap hle4), ?_⟩
      refine AL.done (by kernel_rfl) ?_
      refine tn (WP.ret (block_ret (then_ret ?_)))
      obtain rfl := Option.some.inj hm
      refine retQ_ret results74 (Res.cell rfl (box_loads (i := 2) isAgg28 sizeOf28 rfl rfl) Res.nil) rfl (fun w' s => ⟨s.below, ?_⟩)
      obtain ⟨h19, hc15⟩ := s.ret_row (i := 0) rfl rl7
      exact ⟨none, 0, (some ⟨b7, 0, none⟩), 1, rfl, SL.nil _ _ _, Nat.le_refl _, h19, hc15⟩
     exact ALs.nil
    exact ALs.nil
   exact ALs.nil
  replace hm := ite_f hc12 hm
  obtain ⟨t6, v3, hv8, hv9⟩ := MotionRep.not_isRepeat h1 hc12
  refine V rfl (ov_typeAssert_no (z := (.agg #[(.int .i64 0), .nilIface])) underlying146 (fun _ h => by cases h) zeroValue146 rfl rfl hv8 hv9) (Ve rfl (Ve rfl (WL.nil (tn (WP.cond_false rfl (WP.seq (WP.region ?_)))))))
  rcases Bool.eq_false_or_eq_true p_m.isChoice with hc16 | hc16
  ·
   replace hm := ite_t hc16 hm
   obtain ⟨t7, c4, t8, c5, hv10, h20, h21⟩ := MotionRep.open_isChoice h1 hc16
   refine V rfl (ov_typeAssert_yes (c := (.agg #[(mkS p_m.nm), (.iface t7 c4), (.iface t8 c5)])) underlying148 (fun _ h => by cases h) rfl rfl hv10) (Ve rfl (Ve rfl (WL.nil (tn (WP.cond_true rfl (WP.seq (WP.region ?_)))))))
   refine ws rfl (os_alloc (cs := [(mkS []), .nilIface, .nilIface]) zeroValue148 rfl rfl (fun b8 => ?_))
   refine ws0 rfl (os_store (i := 0) (vs := [(mkS p_m.nm), (.iface t7 c4), (.iface t8 c5)]) (cs' := [(mkS p_m.nm), (.iface t7 c4), (.iface t8 c5)]) sizeOf148 rfl rfl rfl rfl rfl rfl rfl rfl rfl ?_)
   refine WL.nil (tn (WP.seq ?_))
   refine WP.region_any (S₀ := St w H [.blk b8 148 [(mkS p_m.nm), (.iface t7 c4), (.iface t8 c5)]] H) 11 rfl (by kernel_rfl) (fun w' s => (s.select [0] (by decide) rfl)) (fun _ s => s.drew) ?_
   refine TQ 0 (by kernel_rfl) rfl (ov_fieldAddr underlying148 rfl rfl rfl sizeOf9 rfl rfl) (TQ 1 (by kernel_rfl) rfl (ov_load_box (i := 0) isAgg9 rfl rfl rfl rfl) (TQ 2 (by kernel_rfl) rfl (ov_fieldAddr underlying148 rfl rfl rfl sizeOf99 rfl rfl) (TQ 3 (by kernel_rfl) rfl (ov_load_box (i := 0) isAgg99 rfl rfl rfl rfl) (TQ 5 (by kernel_rfl) rfl (ov_fieldAddr underlying148 rfl rfl rfl sizeOf99 rfl rfl) (TQ 6 (by kernel_rfl) rfl (ov_load_box (i := 0) isAgg99 rfl rfl rfl rfl) ?_)))))
   refine AL.any (rs := [4]) (by kernel_rfl) (by decide) ?_
   refine ALs.cons (i := 4) rfl (Runs.free rfl) rfl rfl ?_ ?_
   ·
    obtain ⟨r3, e6, hm⟩ := bind_some hm
    refine os_con call74 rfl rfl (fun w' s => (hself p_m.thn t7 c4  w' H s.hold h20  hG r3 e6)) (fun rr3 H5 hle5 hR3 => ?_)
    replace h1 := h1.mono hle5
    replace h21 := h21.mono hle5
    replace hG := hG.mono hle5
    obtain ⟨ao13, cap13, ao14, cap14, rfl, h22, hc17, h23, hc18⟩ := hR3
    refine ⟨fun w' s => ((s.select [0] (by decide) rfl).heap hle5), ?_⟩
    refine AL.any (rs := [7]) (by kernel_rfl) (by decide) ?_
    refine ALs.cons (i := 7) rfl (Runs.free rfl) rfl rfl ?_ ?_
    ·
     obtain ⟨r4, e7, hm⟩ := bind_some hm
     refine os_con call74 rfl rfl (fun w' s => (hself p_m.oth t8 c5  w' H5 s.hold h21  hG r4 e7)) (fun rr4 H6 hle6 hR4 => ?_)
     replace h1 := h1.mono hle6
     replace h22 := h22.mono hle6
     replace h23 := h23.mono hle6
     obtain ⟨ao15, cap15, ao16, cap16, rfl, h24, hc19, h25, hc20⟩ := hR4
     refine ⟨fun w' s => ((s.select [0] (by decide) rfl).heap (hle5.trans hle6)), ?_⟩
     refine AL.any (rs := [8]) (by kernel_rfl) (by decide) ?_
     refine ALs.cons (i := 8) rfl (Runs.free rfl) rfl rfl ?_ ?_
     ·
      have rl8 : RL H6 encNode ([r3, r4] : List Node) [(.int .i64 r3.kind), (.slice ao13 r3.step.strokes.length cap13), (.int .i64 r3.step.wait), (.int .i64 r3.count), (mkS r3.name), (.slice ao14 r3.nodes.length cap14), (.int .i64 r4.kind), (.slice ao15 r4.step.strokes.length cap15), (.int .i64 r4.step.wait), (.int .i64 r4.count), (mkS r4.name), (.slice ao16 r4.nodes.length cap16)] := RL.cons (cs := [(.int .i64 r3.kind), (.slice ao13 r3.step.strokes.length cap13), (.int .i64 r3.step.wait), (.int .i64 r3.count), (mkS r3.name), (.slice ao14 r3.nodes.length cap14)]) (xs := [(.int .i64 r4.kind), (.slice ao15 r4.step.strokes.length cap15), (.int .i64 r4.step.wait), (.int .i64 r4.count), (mkS r4.name), (.slice ao16 r4.nodes.length cap16)]) (encNode_make ⟨ao13, cap13, ao14, cap14, rfl, h22, hc17, h23, hc18⟩) (RL.cons (cs := [(.int .i64 r4.kind), (.slice ao15 r4.step.strokes.length cap15), (.int .i64 r4.step.wait), (.int .i64 r4.count), (mkS r4.name), (.slice ao16 r4.nodes.length cap16)]) (xs := []) (encNode_make ⟨ao15, cap15, ao16, cap16, rfl, h24, hc19, h25, hc20⟩) (RL.nil _ _))
      refine os_buildSlice (cs := [(.int .i64 r3.kind), (.slice ao13 r3.step.strokes.length cap13), (.int .i64 r3.step.wait), (.int .i64 r3.count), (mkS r3.name), (.slice ao14 r3.nodes.length cap14), (.int .i64 r4.kind), (.slice ao15 r4.step.strokes.length cap15), (.int .i64 r4.step.wait), (.int .i64 r4.count), (mkS r4.name), (.slice ao16 r4.nodes.length cap16)]) (E := 28) (sz := 6) rfl rfl (fun _ => by kernel_rfl) rfl (by decide) (fun b9 => ?_)
      refine ⟨fun w' s => ((s.select [1] (by decide) rfl).heap (hle5.trans hle6)), ?_⟩
      refine TQ 9 (by kernel_rfl) rfl (ov_build (r := (.agg #[(.int .i64 3), (.slice none 0 0), (.int .i64 0), (.int .i64 0), (mkS p_m.nm), (.slice (some ⟨b9, 0, none⟩) ([r3, r4] : List Node).length 2)])) rfl rfl (fun _ => by kernel_rfl)) ?_
      refine AL.any (rs := [10]) (by kernel_rfl) (by decide) ?_
      refine ALs.cons0 (i := 10) rfl (Runs.free rfl) rfl ?_ ?_
      ·
       refine os_store (i := 2) (vs := [(.int .i64 3), (.slice none 0 0), (.int .i64 0), (.int .i64 0), (mkS p_m.nm), (.slice (some ⟨b9, 0, none⟩) ([r3, r4] : List Node).length 2)]) (cs' := [(.int .i64 3), (.slice none 0 0), (.int .i64 0), (.int .i64 0), (mkS p_m.nm), (.slice (some ⟨b9, 0, none⟩) ([r3, r4] : List Node).length 2)]) sizeOf28 rfl rfl rfl rfl rfl rfl rfl rfl rfl ?_
       refine ⟨fun w' s => ((s.select [1] (by decide) rfl).heap (hle5.trans hle6)), ?_⟩
       refine AL.done (by kernel_rfl) ?_
       refine tn (WP.ret (block_ret (then_ret ?_)))
       obtain rfl := Option.some.inj hm
       refine retQ_ret results74 (Res.cell rfl (box_loads (i := 2) isAgg28 sizeOf28 rfl rfl) Res.nil) rfl (fun w' s => ⟨s.below, ?_⟩)
       obtain ⟨h26, hc21⟩ := s.ret_row (i := 0) rfl rl8
       exact ⟨none, 0, (some ⟨b9, 0, none⟩), 2, rfl, SL.nil _ _ _, Nat.le_refl _, h26, hc21⟩
      exact ALs.nil
     exact ALs.nil
    exact ALs.nil
   exact ALs.nil
  replace hm := ite_f hc16 hm
  obtain ⟨t9, v4, hv11, hv12⟩ := MotionRep.not_isChoice h1 hc16
  refine V rfl (ov_typeAssert_no (z := (.agg #[(mkS []), .nilIface, .nilIface])) underlying148 (fun _ h => by cases h) zeroValue148 rfl rfl hv11 hv12) (Ve rfl (Ve rfl (WL.nil (tn (WP.cond_false rfl (WP.skip (bn (tn ?_))))))))
  exact ⟨(Sub.all rfl), fun w' s => s, hm⟩
 rintro g' S' ⟨hsub3, hS3, hm⟩
 refine WP.sub hsub3 (WP.weaken hS3 ?_)
 replace hm := hk1.symm.trans hm
 refine WP.seq (WP.region (V rfl (ov_build (r := (.agg #[(.int .i64 0), (.slice none 0 0), (.int .i64 0), (.int .i64 0), (mkS []), (.slice none 0 0)])) rfl rfl (fun _ => by kernel_rfl)) ?_))
 refine ws0 rfl (os_store (i := 0) (vs := [(.int .i64 0), (.slice none 0 0), (.int .i64 0), (.int .i64 0), (mkS []), (.slice none 0 0)]) (cs' := [(.int .i64 0), (.slice none 0 0), (.int .i64 0), (.int .i64 0), (mkS []), (.slice none 0 0)]) sizeOf28 rfl rfl rfl rfl rfl rfl rfl rfl rfl ?_)
 refine WL.nil (tn (WP.ret ?_))
 obtain rfl := Option.some.inj hm
 refine retQ_ret results74 (Res.cell rfl (box_loads (i := 0) isAgg28 sizeOf28 rfl rfl) Res.nil) rfl (fun w' s => ⟨s.below, ?_⟩)
 exact ⟨none, 0, none, 0, rfl, SL.nil _ _ _, Nat.le_refl _, SL.nil _ _ _, Nat.le_refl _⟩
theorem program_node_con (n : Nat) : ∀ (p_m : Motion) (t1 : TypeId) (c1 : Value) (w : World) (H : Heap) (hH : Le H (hp w)) (h1 : MotionRep H p_m (.iface t1 c1)) (hG : Glob H) (r : Node) (hm : program_node n p_m = some r),
  Con prog 74 [(.iface t1 c1)] w H (fun v H' => ∃ (ao1 : Option Addr) (cap1 : Nat) (ao2 : Option Addr) (cap2 : Nat), v = (.agg #[(.int .i64 r.kind), (.slice ao1 r.step.strokes.length cap1), (.int .i64 r.step.wait), (.int .i64 r.count), (mkS r.name), (.slice ao2 r.nodes.length cap2)]) ∧ SL H' encStroke ao1 r.step.strokes ∧ r.step.strokes.length ≤ cap1 ∧ SL H' encNode ao2 r.nodes ∧ r.nodes.length ≤ cap2) := by
 induction n with
 | zero => intro p_m t1 c1 w H hH h1 hG r hm; exact (none_some hm).elim
 | succ n ih => intro p_m t1 c1 w H hH h1 hG r hm; exact program_node_body_con (program_node n) ih p_m t1 c1 w H hH h1 hG r hm
theorem program_normal_body_con (self : Motion → Option Motion) (hself : ∀ (p_m : Motion) (t1 : TypeId) (c1 : Value) (w : World) (H : Heap) (hH : Le H (hp w)) (h1 : MotionRep H p_m (.iface t1 c1)) (hG : Glob H) (r : Motion) (hm : self p_m = some r), Con prog 75 [(.iface t1 c1)] w H (fun v H' => ∃ (t2 : TypeId) (c2 : Value), v = (.iface t2 c2) ∧ MotionRep H' r (.iface t2 c2))) (p_m : Motion) (t1 : TypeId) (c1 : Value) (w : World) (H : Heap) (hH : Le H (hp w)) (h1 : MotionRep H p_m (.iface t1 c1)) (hG : Glob H) (r : Motion) (hm : program_normal_body self p_m = some r) :
  Con prog 75 [(.iface t1 c1)] w H (fun v H' => ∃ (t2 : TypeId) (c2 : Value), v = (.iface t2 c2) ∧ MotionRep H' r (.iface t2 c2)) := by
 unfold program_normal_body at hm
 refine con_of hH func75 rfl 75 ntmps75 rfl ?_
 refine WP.seq (WP.region (Va rfl (WL.nil (tn ?_))))
 obtain ⟨k1, hk1, hm⟩ := joinK_some hm
 refine WP.seq_join (fun g' S' => Sub [(0, (.iface t1 c1)), (1000000007, (.bool false))] g' ∧ (∀ w', S' w' → St w H [] H w') ∧ k1 = some r) ?_ ?_
 ·
  refine WP.seq (WP.region (Vm rfl (WL.nil (tn (WP.block (WP.seq (WP.region ?_)))))))
  rcases Bool.eq_false_or_eq_true p_m.isList with hc1 | hc1
  ·
   replace hm := ite_t hc1 hm
   obtain ⟨ao1, cap1, hv1, h3, hc2⟩ := MotionRep.open_isList h1 hc1
   refine V rfl (ov_typeAssert_yes (c := (.agg #[(.slice ao1 p_m.prts.length cap1)])) underlying144 (fun _ h => by cases h) rfl rfl hv1) (Ve rfl (Ve rfl (WL.nil (tn (WP.cond_true rfl (WP.seq (WP.region ?_)))))))
   refine ws rfl (os_alloc (cs := [(.slice none 0 0)]) zeroValue144 rfl rfl (fun b1 => ?_))
   refine ws0 rfl (os_store (i := 0) (vs := [(.slice ao1 p_m.prts.length cap1)]) (cs' := [(.slice ao1 p_m.prts.length cap1)]) sizeOf144 rfl rfl rfl rfl rfl rfl rfl rfl rfl ?_)
   refine WL.nil (tn (WP.seq (WP.region (Va rfl (WL.nil (tn ?_))))))
   obtain ⟨k2, hk2, hm⟩ := joinK_some hm
   refine WP.seq_join (fun g' S' => ∃ (H4 : Heap) (l5 : (List Motion)) (ao7 : Option Addr) (cap7 : Nat) (xs3 : List Value), Le H H4 ∧ RL H4 encMotion l5 xs3 ∧ Sub [(4, (.slice ao7 l5.length cap7)), (1000000007, (.bool false))] g' ∧ (∀ w', S' w' → St w H [.row 99 (encMotion).size l5.length (.slice ao7 l5.length cap7) xs3] H4 w') ∧ k2 l5 = some r) ?_ ?_
   ·
    refine WP.seq (WP.region (V rfl (ov_fieldAddr underlying144 rfl rfl rfl sizeOf142 rfl rfl) (Vl 0 isAgg142 rfl (V rfl (ov_len_slice underlying142 rfl rfl) (Vm rfl (WL.nil (tn (WP.block ?_))))))))
    have rl1 := RL.nil (α := Motion) H encMotion
    refine WP.weaken (fun _ s => s.nilrow 99 (encMotion).size) ?_
    refine WP.loop (fun m1 g' S' => ∃ (H1 : Heap) (i1 : Int) (l1 : (List Motion)) (ao2 : Option Addr) (cap2 : Nat) (xs1 : List Value), Le H H1 ∧ RL H1 encMotion l1 xs1 ∧ Sub [(4, (.slice ao2 l1.length cap2)), (17, (.slice ao1 p_m.prts.length cap1)), (18, (.int .i64 (p_m.prts.length : Int))), (19, (.int .i64 i1)), (1000000007, (.bool false))] g' ∧ (∀ w', S' w' → St w H [.row 99 (encMotion).size l1.length (.slice ao2 l1.length cap2) xs1] H1 w') ∧ program_normal_loop1 p_m self k2 m1 i1 l1 = some r) ((Int.toNat ((p_m.prts.length : Int) - 0) + 1)) ⟨H, 0, ([] : List Motion), none, 0, [], (Le.refl _), rl1, (Sub.all rfl), fun w' s => (s.select [0] (by decide) rfl), hm⟩ ?_ ?_
    ·
     rintro g' S' ⟨_, _, _, _, _, _, _, _, _, _, hm⟩
     exact none_some hm
    rintro m1 g' S' ⟨H1, i1, l1, ao2, cap2, xs1, hle1, rl2, hsub1, hS1, hm⟩
    refine WP.sub hsub1 (WP.weaken hS1 ?_)
    rw [program_normal_loop1] at hm
    replace h3 := h3.mono hle1
    replace hG := hG.mono hle1
    refine WP.seq (WP.region (V rfl (ov_lss rfl rfl rfl) (WL.nil (tn (WP.seq ?_)))))
    refine WP.cond rfl (fun hc3 => ?_) (fun hc3 => ?_)
    ·
     replace hm := ite_t hc3 hm
     refine WP.skip (tn ?_)
     obtain ⟨k3, hk3, hm⟩ := joinK_some hm
     refine WP.seq_join (fun g' S' => ∃ (H3 : Heap) (l4 : (List Motion)) (ao6 : Option Addr) (cap6 : Nat) (xs2 : List Value), Le H1 H3 ∧ RL H3 encMotion l4 xs2 ∧ Sub [(4, (.slice ao6 l4.length cap6)), (17, (.slice ao1 p_m.prts.length cap1)), (18, (.int .i64 (p_m.prts.length : Int))), (19, (.int .i64 i1)), (1000000007, (.bool false))] g' ∧ (∀ w', S' w' → St w H [.row 99 (encMotion).size l4.length (.slice ao6 l4.length cap6) xs2] H3 w') ∧ k3 l4 = some r) ?_ ?_
     ·
      refine WP.block (WP.seq (WP.region ?_))
      obtain ⟨x1, e1, hm⟩ := bind_some hm
      obtain ⟨h5, h6, h7, cs1, h8, h9⟩ := h3.get e1 (by decide)
      obtain ⟨t3, c3, rfl, h4⟩ := h8
      refine V rfl (ov_indexAddr underlying142 sizeOf99 rfl rfl rfl h5 h6 h7) (V rfl (ov_load_elem (v := (.iface t3 c3)) isAgg99 rfl rfl h9) (Va rfl (WL.nil (tn (WP.seq (WP.region (Vm rfl ?_)))))))
      obtain ⟨r1, e2, hm⟩ := bind_some hm
      refine ws rfl (os_con call75 rfl rfl (fun w' s => (hself x1 t3 c3  w' H1 s.hold h4  hG r1 e2)) (fun rr1 H2 hle2 hR1 => ?_))
      replace rl2 := rl2.mono hle2
      replace hG := hG.mono hle2
      obtain ⟨t4, c4, rfl, h10⟩ := hR1
      refine WL.nil (tn (WP.block (WP.seq (WP.region ?_))))
      rcases Bool.eq_false_or_eq_true r1.isList with hc4 | hc4
      ·
       replace hm := ite_t hc4 hm
       obtain ⟨ao3, cap3, hv2, h11, hc5⟩ := MotionRep.open_isList h10 hc4
       refine V rfl (ov_typeAssert_yes (c := (.agg #[(.slice ao3 r1.prts.length cap3)])) underlying144 (fun _ h => by cases h) rfl rfl hv2) (Ve rfl (Ve rfl (WL.nil (tn (WP.cond_true rfl (WP.seq (WP.region ?_)))))))
       refine ws rfl (os_alloc (cs := [(.slice none 0 0)]) zeroValue144 rfl rfl (fun b2 => ?_))
       refine ws0 rfl (os_store (i := 0) (vs := [(.slice ao3 r1.prts.length cap3)]) (cs' := [(.slice ao3 r1.prts.length cap3)]) sizeOf144 rfl rfl rfl rfl rfl rfl rfl rfl rfl ?_)
       refine WL.nil (tn (WP.region (Vm rfl (V rfl (ov_fieldAddr underlying144 rfl rfl rfl sizeOf142 rfl rfl) (Vl 0 isAgg142 rfl ?_)))))
       obtain ⟨l2, e3, hm⟩ := bind_some hm
       refine ws rfl (os_app_sl (i := 1) (En := encMotion) (xs := xs1) underlying142 (by kernel_rfl : (prog.info? 99).map (fun i => (i.zero, i.size, i.bytes)) = some (some .nilIface, (encMotion).size, 16)) rfl (by decide) one_encMotion rfl rfl rfl rfl h11 hc5 rl2 e3 (fun ao4 cap4 ys1 rl3 => ?_))
       refine Va rfl (WL.nil (bn (bn (tn ?_))))
       exact ⟨H2, (l1 ++ r1.prts), ao4, cap4, (xs1 ++ ys1), hle2, rl3, (Sub.all rfl), fun w' s => (s.select [1] (by decide) rfl), hm⟩
      replace hm := ite_f hc4 hm
      obtain ⟨t5, v1, hv3, hv4⟩ := MotionRep.not_isList h10 hc4
      refine V rfl (ov_typeAssert_no (z := (.agg #[(.slice none 0 0)])) underlying144 (fun _ h => by cases h) zeroValue144 rfl rfl hv3 hv4) (Ve rfl (Ve rfl (WL.nil (tn (WP.cond_false rfl (WP.seq (WP.region (Va rfl (WL.nil (tn (WP.region (Vm rfl (Vm rfl ?_)))))))))))))
      have rl4 : RL H2 encMotion ([r1] : List Motion) [(.iface t4 c4)] := RL.cons (cs := [(.iface t4 c4)]) (xs := []) ⟨t4, c4, rfl, h10⟩ (RL.nil _ _)
      refine ws rfl (os_buildSlice (cs := [(.iface t4 c4)]) (E := 99) (sz := 1) rfl rfl (fun _ => by kernel_rfl) rfl (by decide) (fun b3 => ?_))
      obtain ⟨l3, e4, hm⟩ := bind_some hm
      refine ws rfl (os_app (i := 1) (j := 0) (En := encMotion) (xs := xs1) (ys := [(.iface t4 c4)]) underlying142 (by kernel_rfl : (prog.info? 99).map (fun i => (i.zero, i.size, i.bytes)) = some (some .nilIface, (encMotion).size, 16)) rfl (by decide) rfl rfl rfl rfl rfl rfl rl2 rl4 e4 (fun ao5 cap5 rl5 => ?_))
      refine Va rfl (WL.nil (bn (bn (tn ?_))))
      exact ⟨H2, (l1 ++ ([r1] : List Motion)), ao5, cap5, (xs1 ++ [(.iface t4 c4)]), hle2, rl5, (Sub.all rfl), fun w' s => (s.select [1] (by decide) rfl), hm⟩
     rintro g' S' ⟨H3, l4, ao6, cap6, xs2, hle3, rl6, hsub2, hS2, hm⟩
     refine WP.sub hsub2 (WP.weaken hS2 ?_)
     replace hm := (congrFun hk3 l4).symm.trans hm
     replace hG := hG.mono hle3
     refine WP.region (V rfl (ov_add rfl rfl rfl) (Vm rfl (WL.nil (tn ?_))))
     exact ⟨H3, (IntKind.wrap .i64 (i1 + 1)), l4, ao6, cap6, xs2, (hle1.trans hle3), rl6, (Sub.all rfl), fun w' s => s, hm⟩
    replace hm := ite_f hc3 hm
    refine WP.exit (then_exit (then_exit (block_here (tn ?_))))
    exact ⟨H1, l1, ao2, cap2, xs1, hle1, rl2, (Sub.all rfl), fun w' s => s, hm⟩
   rintro g' S' ⟨H4, l5, ao7, cap7, xs3, hle4, rl7, hsub3, hS3, hm⟩
   refine WP.sub hsub3 (WP.weaken hS3 ?_)
   replace hm := (congrFun hk2 l5).symm.trans hm
   replace hG := hG.mono hle4
   refine WP.seq (WP.seq (WP.region (Vm rfl (V rfl (ov_len_slice underlying142 rfl rfl) (V rfl (ov_eql rfl rfl rfl) (WL.nil (tn ?_)))))))
   refine WP.cond rfl (fun hc6 => ?_) (fun hc6 => ?_)
   ·
    replace hm := ite_t hc6 hm
    refine WP.seq (WP.region (Vm rfl ?_))
    refine WL.held rl7 (fun H5 hc7 hle5 h12 => ?_)
    replace hG := hG.mono hle5
    obtain ⟨x2, e5, hm⟩ := bind_some hm
    obtain ⟨h14, h15, h16, cs2, h17, h18⟩ := h12.get e5 (by decide)
    obtain ⟨t6, c5, rfl, h13⟩ := h17
    refine V rfl (ov_indexAddr underlying142 sizeOf99 rfl rfl rfl h14 h15 h16) (V rfl (ov_load_elem (v := (.iface t6 c5)) isAgg99 rfl rfl h18) (Va rfl (WL.nil (tn (WP.ret (then_ret (block_ret (then_ret ?_))))))))
    obtain rfl := Option.some.inj hm
    refine retQ_ret results75 (Res.tmp rfl Res.nil) rfl (fun w' s => ⟨s.below, ?_⟩)
    exact ⟨t6, c5, rfl, h13.mono s.le_newer⟩
   replace hm := ite_f hc6 hm
   refine WP.skip (tn (WP.seq (WP.region (Vm rfl (V rfl (ov_build (r := (.agg #[(.slice ao7 l5.length cap7)])) rfl rfl (fun _ => by kernel_rfl)) ?_)))))
   refine WL.held rl7 (fun H6 hc8 hle6 h19 => ?_)
   replace hG := hG.mono hle6
   have h20 : MotionRep H6 (Motion.list l5) (.iface 144 (.agg #[(.slice ao7 l5.length cap7)])) := MotionRep.mk_list h19 hc8
   refine V rfl (ov_makeIface underlying144 (fun _ h => by cases h) rfl rfl) (Va rfl (WL.nil (tn (WP.ret (block_ret (then_ret ?_))))))
   obtain rfl := Option.some.inj hm
   refine retQ_ret results75 (Res.tmp rfl Res.nil) rfl (fun w' s => ⟨s.below, ?_⟩)
   exact ⟨144, (.agg #[(.slice ao7 l5.length cap7)]), rfl, h20.mono s.le_newer⟩
  replace hm := ite_f hc1 hm
  obtain ⟨t7, v2, hv5, hv6⟩ := MotionRep.not_isList h1 hc1
  refine V rfl (ov_typeAssert_no (z := (.agg #[(.slice none 0 0)])) underlying144 (fun _ h => by cases h) zeroValue144 rfl rfl hv5 hv6) (Ve rfl (Ve rfl (WL.nil (tn (WP.cond_false rfl (WP.seq (WP.region ?_)))))))
  rcases Bool.eq_false_or_eq_true p_m.isRepeat with hc9 | hc9
  ·
   replace hm := ite_t hc9 hm
   obtain ⟨t8, c6, hv7, h21⟩ := MotionRep.open_isRepeat h1 hc9
   refine V rfl (ov_typeAssert_yes (c := (.agg #[(.int .i64 p_m.cnt), (.iface t8 c6)])) underlying146 (fun _ h => by cases h) rfl rfl hv7) (Ve rfl (Ve rfl (WL.nil (tn (WP.cond_true rfl (WP.seq (WP.region ?_)))))))
   refine ws rfl (os_alloc (cs := [(.int .i64 0), .nilIface]) zeroValue146 rfl rfl (fun b4 => ?_))
   refine ws0 rfl (os_store (i := 0) (vs := [(.int .i64 p_m.cnt), (.iface t8 c6)]) (cs' := [(.int .i64 p_m.cnt), (.iface t8 c6)]) sizeOf146 rfl rfl rfl rfl rfl rfl rfl rfl rfl ?_)
   refine WL.nil (tn (WP.seq (WP.region (V rfl (ov_fieldAddr underlying146 rfl rfl rfl sizeOf99 rfl rfl) (Vl 0 isAgg99 rfl ?_)))))
   obtain ⟨r2, e6, hm⟩ := bind_some hm
   refine ws rfl (os_con call75 rfl rfl (fun w' s => (hself p_m.prt t8 c6  w' H s.hold h21  hG r2 e6)) (fun rr2 H7 hle7 hR2 => ?_))
   replace h1 := h1.mono hle7
   replace hG := hG.mono hle7
   obtain ⟨t9, c7, rfl, h22⟩ := hR2
   refine Va rfl (WL.nil (tn (WP.seq (WP.seq (WP.region (V rfl (ov_fieldAddr underlying146 rfl rfl rfl sizeOf3 rfl rfl) (Vl 0 isAgg3 rfl (V rfl (ov_eql rfl rfl rfl) (WL.nil (tn ?_))))))))))
   refine WP.cond rfl (fun hc10 => ?_) (fun hc10 => ?_)
   ·
    replace hm := ite_t hc10 hm
    refine WP.seq (WP.region (Vm rfl (Va rfl (WL.nil (tn (WP.ret (then_ret (block_ret (then_ret ?_)))))))))
    obtain rfl := Option.some.inj hm
    refine retQ_ret results75 (Res.tmp rfl Res.nil) rfl (fun w' s => ⟨s.below, ?_⟩)
    exact ⟨t9, c7, rfl, h22.mono s.le_newer⟩
   replace hm := ite_f hc10 hm
   refine WP.skip (tn (WP.seq (WP.region (V rfl (ov_fieldAddr underlying146 rfl rfl rfl sizeOf3 rfl rfl) (Vl 0 isAgg3 rfl (Vm rfl (V rfl (ov_build (r := (.agg #[(.int .i64 p_m.cnt), (.iface t9 c7)])) rfl rfl (fun _ => by kernel_rfl)) ?_)))))))
   have h23 : MotionRep H7 (Motion.repeat_ p_m.cnt r2) (.iface 146 (.agg #[(.int .i64 p_m.cnt), (.iface t9 c7)])) := MotionRep.mk_repeat h22
   refine V rfl (ov_makeIface underlying146 (fun _ h => by cases h) rfl rfl) (Va rfl (WL.nil (tn (WP.ret (block_ret (then_ret ?_))))))
   obtain rfl := Option.some.inj hm
   refine retQ_ret results75 (Res.tmp rfl Res.nil) rfl (fun w' s => ⟨s.below, ?_⟩)
   exact ⟨146, (.agg #[(.int .i64 p_m.cnt), (.iface t9 c7)]), rfl, h23.mono s.le_newer⟩
  replace hm := ite_f hc9 hm
  obtain ⟨t10, v3, hv8, hv9⟩ := MotionRep.not_isRepeat h1 hc9
  refine V rfl (ov_typeAssert_no (z := (.agg #[(.int .i64 0), .nilIface])) underlying146 (fun _ h => by cases h) zeroValue146 rfl rfl hv8 hv9) (Ve rfl (Ve rfl (WL.nil (tn (WP.cond_false rfl (WP.seq (WP.region ?_)))))))
  rcases Bool.eq_false_or_eq_true p_m.isChoice with hc11 | hc11
  ·
   replace hm := ite_t hc11 hm
   obtain ⟨t11, c8, t12, c9, hv10, h24, h25⟩ := MotionRep.open_isChoice h1 hc11
   refine V rfl (ov_typeAssert_yes (c := (.agg #[(mkS p_m.nm), (.iface t11 c8), (.iface t12 c9)])) underlying148 (fun _ h => by cases h) rfl rfl hv10) (Ve rfl (Ve rfl (WL.nil (tn (WP.cond_true rfl (WP.seq (WP.region ?_)))))))
   refine ws rfl (os_alloc (cs := [(mkS []), .nilIface, .nilIface]) zeroValue148 rfl rfl (fun b5 => ?_))
   refine ws0 rfl (os_store (i := 0) (vs := [(mkS p_m.nm), (.iface t11 c8), (.iface t12 c9)]) (cs' := [(mkS p_m.nm), (.iface t11 c8), (.iface t12 c9)]) sizeOf148 rfl rfl rfl rfl rfl rfl rfl rfl rfl ?_)
   refine WL.nil (tn (WP.seq ?_))
   refine WP.region_any (S₀ := St w H [.blk b5 148 [(mkS p_m.nm), (.iface t11 c8), (.iface t12 c9)]] H) 11 rfl (by kernel_rfl) (fun w' s => s) (fun _ s => s.drew) ?_
   refine TQ 0 (by kernel_rfl) rfl (ov_fieldAddr underlying148 rfl rfl rfl sizeOf9 rfl rfl) (TQ 1 (by kernel_rfl) rfl (ov_load_box (i := 0) isAgg9 rfl rfl rfl rfl) (TQ 2 (by kernel_rfl) rfl (ov_fieldAddr underlying148 rfl rfl rfl sizeOf99 rfl rfl) (TQ 3 (by kernel_rfl) rfl (ov_load_box (i := 0) isAgg99 rfl rfl rfl rfl) (TQ 5 (by kernel_rfl) rfl (ov_fieldAddr underlying148 rfl rfl rfl sizeOf99 rfl rfl) (TQ 6 (by kernel_rfl) rfl (ov_load_box (i := 0) isAgg99 rfl rfl rfl rfl) ?_)))))
   refine AL.any (rs := [4]) (by kernel_rfl) (by decide) ?_
   refine ALs.cons (i := 4) rfl (Runs.free rfl) rfl rfl ?_ ?_
   ·
    obtain ⟨r3, e7, hm⟩ := bind_some hm
    refine os_con call75 rfl rfl (fun w' s => (hself p_m.thn t11 c8  w' H s.hold h24  hG r3 e7)) (fun rr3 H8 hle8 hR3 => ?_)
    replace h1 := h1.mono hle8
    replace h25 := h25.mono hle8
    replace hG := hG.mono hle8
    obtain ⟨t13, c10, rfl, h26⟩ := hR3
    refine ⟨fun w' s => (s.heap hle8), ?_⟩
    refine AL.any (rs := [7]) (by kernel_rfl) (by decide) ?_
    refine ALs.cons (i := 7) rfl (Runs.free rfl) rfl rfl ?_ ?_
    ·
     obtain ⟨r4, e8, hm⟩ := bind_some hm
     refine os_con call75 rfl rfl (fun w' s => (hself p_m.oth t12 c9  w' H8 s.hold h25  hG r4 e8)) (fun rr4 H9 hle9 hR4 => ?_)
     replace h1 := h1.mono hle9
     replace h26 := h26.mono hle9
     obtain ⟨t14, c11, rfl, h27⟩ := hR4
     refine ⟨fun w' s => (s.heap (hle8.trans hle9)), ?_⟩
     refine TQ 8 (by kernel_rfl) rfl (ov_build (r := (.agg #[(mkS p_m.nm), (.iface t13 c10), (.iface t14 c11)])) rfl rfl (fun _ => by kernel_rfl)) ?_
     refine AL.any (rs := [9]) (by kernel_rfl) (by decide) ?_
     refine ALs.cons (i := 9) rfl (Runs.free rfl) rfl rfl ?_ ?_
     ·
      have h28 : MotionRep H9 (Motion.choice p_m.nm r3 r4) (.iface 148 (.agg #[(mkS p_m.nm), (.iface t13 c10), (.iface t14 c11)])) := MotionRep.mk_choice h26 h27
      refine OQ.step (OV.quiet (ov_makeIface underlying148 (fun _ h => by cases h) rfl rfl)) ?_
      refine ⟨fun w' s => (s.heap (hle8.trans hle9)), ?_⟩
      refine TQ 10 (by kernel_rfl) rfl (ov_assign rfl rfl) ?_
      refine AL.done (by kernel_rfl) ?_
      refine tn (WP.ret (block_ret (then_ret ?_)))
      obtain rfl := Option.some.inj hm
      refine retQ_ret results75 (Res.tmp rfl Res.nil) rfl (fun w' s => ⟨s.below, ?_⟩)
      exact ⟨148, (.agg #[(mkS p_m.nm), (.iface t13 c10), (.iface t14 c11)]), rfl, h28.mono s.le_newer⟩
     exact ALs.nil
    exact ALs.nil
   exact ALs.nil
  replace hm := ite_f hc11 hm
  obtain ⟨t15, v4, hv11, hv12⟩ := MotionRep.not_isChoice h1 hc11
  refine V rfl (ov_typeAssert_no (z := (.agg #[(mkS []), .nilIface, .nilIface])) underlying148 (fun _ h => by cases h) zeroValue148 rfl rfl hv11 hv12) (Ve rfl (Ve rfl (WL.nil (tn (WP.cond_false rfl (WP.skip (bn (tn ?_))))))))
  exact ⟨(Sub.all rfl), fun w' s => s, hm⟩
 rintro g' S' ⟨hsub4, hS4, hm⟩
 refine WP.sub hsub4 (WP.weaken hS4 ?_)
 replace hm := hk1.symm.trans hm
 refine WP.seq (WP.region (Vm rfl (Va rfl (WL.nil (tn (WP.ret ?_))))))
 obtain rfl := Option.some.inj hm
 refine retQ_ret results75 (Res.tmp rfl Res.nil) rfl (fun w' s => ⟨s.below, ?_⟩)
 exact ⟨t1, c1, rfl, h1.mono s.le_newer⟩
theorem program_normal_con (n : Nat) : ∀ (p_m : Motion) (t1 : TypeId) (c1 : Value) (w : World) (H : Heap) (hH : Le H (hp w)) (h1 : MotionRep H p_m (.iface t1 c1)) (hG : Glob H) (r : Motion) (hm : program_normal n p_m = some r),
  Con prog 75 [(.iface t1 c1)] w H (fun v H' => ∃ (t2 : TypeId) (c2 : Value), v = (.iface t2 c2) ∧ MotionRep H' r (.iface t2 c2)) := by
 induction n with
 | zero => intro p_m t1 c1 w H hH h1 hG r hm; exact (none_some hm).elim
 | succ n ih => intro p_m t1 c1 w H hH h1 hG r hm; exact program_normal_body_con (program_normal n) ih p_m t1 c1 w H hH h1 hG r hm
theorem program_Normal_con (p_n : Node) (ao1 : Option Addr) (cap1 : Nat) (ao2 : Option Addr) (cap2 : Nat) (w : World) (H : Heap) (hH : Le H (hp w)) (h1 : SL H encStroke ao1 p_n.step.strokes) (hc1 : p_n.step.strokes.length ≤ cap1) (h2 : SL H encNode ao2 p_n.nodes) (hc2 : p_n.nodes.length ≤ cap2) (hG : Glob H) (r : (Node × Int)) (hm : program_Normal p_n = some r) :
  Con prog 36 [(.agg #[(.int .i64 p_n.kind), (.slice ao1 p_n.step.strokes.length cap1), (.int .i64 p_n.step.wait), (.int .i64 p_n.count), (mkS p_n.name), (.slice ao2 p_n.nodes.length cap2)])] w H (fun v H' => ∃ (ao3 : Option Addr) (cap3 : Nat) (ao4 : Option Addr) (cap4 : Nat), v = (.tuple #[(.agg #[(.int .i64 r.1.kind), (.slice ao3 r.1.step.strokes.length cap3), (.int .i64 r.1.step.wait), (.int .i64 r.1.count), (mkS r.1.name), (.slice ao4 r.1.nodes.length cap4)]), (.int .i64 r.2)]) ∧ SL H' encStroke ao3 r.1.step.strokes ∧ r.1.step.strokes.length ≤ cap3 ∧ SL H' encNode ao4 r.1.nodes ∧ r.1.nodes.length ≤ cap4) := by
 unfold program_Normal at hm
 refine con_of hH func36 rfl 15 ntmps36 rfl ?_
 refine WP.seq (WP.region ?_)
 refine ws rfl (os_box (cs := [(.int .i64 p_n.kind), (.slice ao1 p_n.step.strokes.length cap1), (.int .i64 p_n.step.wait), (.int .i64 p_n.count), (mkS p_n.name), (.slice ao2 p_n.nodes.length cap2)]) rfl rfl rfl (fun b1 => ?_))
 refine ws rfl (os_alloc (cs := [(.int .i64 0), (.slice none 0 0), (.int .i64 0), (.int .i64 0), (mkS []), (.slice none 0 0)]) zeroValue28 rfl rfl (fun b2 => ?_))
 refine Va rfl (WL.nil (tn (WP.seq (WP.seq (WP.region (V rfl (ov_load_whole (i := 1) isAgg28 sizeOf28 rfl rfl rfl rfl) ?_))))))
 obtain ⟨r1, e1, hm⟩ := bind_some hm
 refine wo rfl (oq_con (r := (.int .i64 r1)) call31 rfl rfl (fun w' s => ⟨_, (program_Check_con p_n ao1 cap1 ao2 cap2  w' H s.hold h1 hc1 h2 hc2 hG r1 e1)⟩)) ?_
 refine Va rfl (WL.nil (tn (WP.seq (WP.region (Vm rfl (V rfl (ov_neq rfl rfl rfl) (WL.nil (tn ?_))))))))
 refine WP.cond rfl (fun hc5 => ?_) (fun hc5 => ?_)
 ·
  replace hm := ite_t hc5 hm
  refine WP.seq (WP.region (V rfl (ov_build (r := (.agg #[(.int .i64 0), (.slice none 0 0), (.int .i64 0), (.int .i64 0), (mkS []), (.slice none 0 0)])) rfl rfl (fun _ => by kernel_rfl)) (Vm rfl ?_)))
  refine ws0 rfl (os_store (i := 0) (vs := [(.int .i64 0), (.slice none 0 0), (.int .i64 0), (.int .i64 0), (mkS []), (.slice none 0 0)]) (cs' := [(.int .i64 0), (.slice none 0 0), (.int .i64 0), (.int .i64 0), (mkS []), (.slice none 0 0)]) sizeOf28 rfl rfl rfl rfl rfl rfl rfl rfl rfl ?_)
  refine Va rfl (WL.nil (tn (WP.ret (then_ret ?_))))
  obtain rfl := Option.some.inj hm
  refine retQ_ret results36 (Res.cell rfl (box_loads (i := 0) isAgg28 sizeOf28 rfl rfl) (Res.tmp rfl Res.nil)) rfl (fun w' s => ⟨s.below, ?_⟩)
  exact ⟨none, 0, none, 0, rfl, SL.nil _ _ _, Nat.le_refl _, SL.nil _ _ _, Nat.le_refl _⟩
 replace hm := ite_f hc5 hm
 refine WP.skip (tn (WP.seq (WP.region (V rfl (ov_load_whole (i := 1) isAgg28 sizeOf28 rfl rfl rfl rfl) ?_))))
 obtain ⟨r2, e2, hm⟩ := bind_some hm
 refine ws rfl (os_con call53 rfl rfl (fun w' s => (program_of_con 600 p_n ao1 cap1 ao2 cap2  w' H s.hold h1 hc1 h2 hc2 hG r2 e2)) (fun rr1 H1 hle1 hR1 => ?_))
 replace hG := hG.mono hle1
 obtain ⟨t1, c1, rfl, h5⟩ := hR1
 obtain ⟨r3, e3, hm⟩ := bind_some hm
 refine ws rfl (os_con call75 rfl rfl (fun w' s => (program_normal_con 600 r2 t1 c1  w' H1 s.hold h5  hG r3 e3)) (fun rr2 H2 hle2 hR2 => ?_))
 replace hG := hG.mono hle2
 obtain ⟨t2, c2, rfl, h6⟩ := hR2
 obtain ⟨r4, e4, hm⟩ := bind_some hm
 refine ws rfl (os_con call74 rfl rfl (fun w' s => (program_node_con 600 r3 t2 c2  w' H2 s.hold h6  hG r4 e4)) (fun rr3 H3 hle3 hR3 => ?_))
 obtain ⟨ao5, cap5, ao6, cap6, rfl, h7, hc6, h8, hc7⟩ := hR3
 refine ws0 rfl (os_store (i := 0) (vs := [(.int .i64 r4.kind), (.slice ao5 r4.step.strokes.length cap5), (.int .i64 r4.step.wait), (.int .i64 r4.count), (mkS r4.name), (.slice ao6 r4.nodes.length cap6)]) (cs' := [(.int .i64 r4.kind), (.slice ao5 r4.step.strokes.length cap5), (.int .i64 r4.step.wait), (.int .i64 r4.count), (mkS r4.name), (.slice ao6 r4.nodes.length cap6)]) sizeOf28 rfl rfl rfl rfl rfl rfl rfl rfl rfl ?_)
 refine Va rfl (WL.nil (tn (WP.ret ?_)))
 obtain rfl := Option.some.inj hm
 refine retQ_ret results36 (Res.cell rfl (box_loads (i := 0) isAgg28 sizeOf28 rfl rfl) (Res.tmp rfl Res.nil)) rfl (fun w' s => ⟨s.below, ?_⟩)
 exact ⟨ao5, cap5, ao6, cap6, rfl, h7.mono s.le_newer, hc6, h8.mono s.le_newer, hc7⟩
theorem law15_nodes_body_con (self : Node → Option Int) (hself : ∀ (p_x : Node) (ao1 : Option Addr) (cap1 : Nat) (ao2 : Option Addr) (cap2 : Nat) (w : World) (H : Heap) (hH : Le H (hp w)) (h1 : SL H encStroke ao1 p_x.step.strokes) (hc1 : p_x.step.strokes.length ≤ cap1) (h2 : SL H encNode ao2 p_x.nodes) (hc2 : p_x.nodes.length ≤ cap2) (hG : Glob H) (r : Int) (hm : self p_x = some r), Con prog 39 [(.agg #[(.int .i64 p_x.kind), (.slice ao1 p_x.step.strokes.length cap1), (.int .i64 p_x.step.wait), (.int .i64 p_x.count), (mkS p_x.name), (.slice ao2 p_x.nodes.length cap2)])] w H (fun v _ => v = (.int .i64 r))) (p_x : Node) (ao1 : Option Addr) (cap1 : Nat) (ao2 : Option Addr) (cap2 : Nat) (w : World) (H : Heap) (hH : Le H (hp w)) (h1 : SL H encStroke ao1 p_x.step.strokes) (hc1 : p_x.step.strokes.length ≤ cap1) (h2 : SL H encNode ao2 p_x.nodes) (hc2 : p_x.nodes.length ≤ cap2) (hG : Glob H) (r : Int) (hm : law15_nodes_body self p_x = some r) :
  Con prog 39 [(.agg #[(.int .i64 p_x.kind), (.slice ao1 p_x.step.strokes.length cap1), (.int .i64 p_x.step.wait), (.int .i64 p_x.count), (mkS p_x.name), (.slice ao2 p_x.nodes.length cap2)])] w H (fun v _ => v = (.int .i64 r)) := by
 unfold law15_nodes_body at hm
 refine con_of hH func39 rfl 19 ntmps39 rfl ?_
 refine WP.seq (WP.region ?_)
 refine ws rfl (os_box (cs := [(.int .i64 p_x.kind), (.slice ao1 p_x.step.strokes.length cap1), (.int .i64 p_x.step.wait), (.int .i64 p_x.count), (mkS p_x.name), (.slice ao2 p_x.nodes.length cap2)]) rfl rfl rfl (fun b1 => ?_))
 refine Va rfl (WL.nil (tn (WP.seq (WP.region (Va rfl (WL.nil (tn ?_)))))))
 obtain ⟨k1, hk1, hm⟩ := joinK_some hm
 refine WP.seq_join (fun g' S' => ∃ (i3 : Int), Sub [(3, (.int .i64 i3)), (1000000007, (.bool false))] g' ∧ (∀ w', S' w' → St w H [] H w') ∧ k1 i3 = some r) ?_ ?_
 ·
  refine WP.seq (WP.region (V rfl (ov_fieldAddr underlying28 rfl rfl rfl sizeOf26 rfl rfl) (Vl 0 isAgg26 rfl (V rfl (ov_len_slice underlying26 rfl rfl) (Vm rfl (WL.nil (tn (WP.block ?_))))))))
  refine WP.loop (fun m1 g' S' => ∃ (i1 : Int) (i2 : Int), Sub [(3, (.int .i64 i1)), (7, (.slice ao2 p_x.nodes.length cap2)), (8, (.int .i64 (p_x.nodes.length : Int))), (9, (.int .i64 i2)), (1000000007, (.bool false))] g' ∧ (∀ w', S' w' → St w H [] H w') ∧ law15_nodes_loop1 p_x self k1 m1 i1 i2 = some r) ((Int.toNat ((p_x.nodes.length : Int) - 0) + 1)) ⟨1, 0, (Sub.all rfl), fun w' s => (s.select [] (by decide) rfl), hm⟩ ?_ ?_
  ·
   rintro g' S' ⟨_, _, _, _, hm⟩
   exact none_some hm
  rintro m1 g' S' ⟨i1, i2, hsub1, hS1, hm⟩
  refine WP.sub hsub1 (WP.weaken hS1 ?_)
  rw [law15_nodes_loop1] at hm
  refine WP.seq (WP.region (V rfl (ov_lss rfl rfl rfl) (WL.nil (tn (WP.seq ?_)))))
  refine WP.cond rfl (fun hc3 => ?_) (fun hc3 => ?_)
  ·
   replace hm := ite_t hc3 hm
   refine WP.skip (tn (WP.seq (WP.block (WP.seq (WP.region ?_)))))
   obtain ⟨x1, e1, hm⟩ := bind_some hm
   obtain ⟨h5, h6, h7, cs1, h8, h9⟩ := h2.get e1 (by decide)
   obtain ⟨ao3, cap3, ao4, cap4, rfl, h3, hc4, h4, hc5⟩ := (encNode_open h8)
   refine V rfl (ov_indexAddr underlying26 sizeOf28 rfl rfl rfl h5 h6 h7) (V rfl (ov_load_elems (vs := [(.int .i64 x1.kind), (.slice ao3 x1.step.strokes.length cap3), (.int .i64 x1.step.wait), (.int .i64 x1.count), (mkS x1.name), (.slice ao4 x1.nodes.length cap4)]) isAgg28 sizeOf28 rfl rfl rfl h9 h7) ?_)
   refine ws rfl (os_alloc (cs := [(.int .i64 0), (.slice none 0 0), (.int .i64 0), (.int .i64 0), (mkS []), (.slice none 0 0)]) zeroValue28 rfl rfl (fun b2 => ?_))
   refine ws0 rfl (os_store (i := 0) (vs := [(.int .i64 x1.kind), (.slice ao3 x1.step.strokes.length cap3), (.int .i64 x1.step.wait), (.int .i64 x1.count), (mkS x1.name), (.slice ao4 x1.nodes.length cap4)]) (cs' := [(.int .i64 x1.kind), (.slice ao3 x1.step.strokes.length cap3), (.int .i64 x1.step.wait), (.int .i64 x1.count), (mkS x1.name), (.slice ao4 x1.nodes.length cap4)]) sizeOf28 rfl rfl rfl rfl rfl rfl rfl rfl rfl ?_)
   refine WL.nil (tn (WP.region (Vm rfl (V rfl (ov_load_whole (i := 0) isAgg28 sizeOf28 rfl rfl rfl rfl) ?_))))
   obtain ⟨r1, e2, hm⟩ := bind_some hm
   refine wo rfl (oq_con (r := (.int .i64 r1)) call39 rfl rfl (fun w' s => ⟨_, (hself x1 ao3 cap3 ao4 cap4  w' H s.hold h3 hc4 h4 hc5 hG r1 e2)⟩)) ?_
   refine V rfl (ov_add rfl rfl rfl) (Va rfl (WL.nil (bn (tn (WP.region (V rfl (ov_add rfl rfl rfl) (Vm rfl (WL.nil (tn ?_)))))))))
   exact ⟨(IntKind.wrap .i64 (i1 + r1)), (IntKind.wrap .i64 (i2 + 1)), (Sub.all rfl), fun w' s => (s.select [] (by decide) rfl), hm⟩
  replace hm := ite_f hc3 hm
  refine WP.exit (then_exit (then_exit (block_here (tn ?_))))
  exact ⟨i1, (Sub.all rfl), fun w' s => s, hm⟩
 rintro g' S' ⟨i3, hsub2, hS2, hm⟩
 refine WP.sub hsub2 (WP.weaken hS2 ?_)
 replace hm := (congrFun hk1 i3).symm.trans hm
 refine WP.seq (WP.region (Vm rfl (Va rfl (WL.nil (tn (WP.ret ?_))))))
 obtain rfl := Option.some.inj hm
 refine retQ_ret results39 (Res.tmp rfl Res.nil) rfl (fun w' s => ⟨s.below, ?_⟩)
 exact rfl
theorem law15_nodes_con (n : Nat) : ∀ (p_x : Node) (ao1 : Option Addr) (cap1 : Nat) (ao2 : Option Addr) (cap2 : Nat) (w : World) (H : Heap) (hH : Le H (hp w)) (h1 : SL H encStroke ao1 p_x.step.strokes) (hc1 : p_x.step.strokes.length ≤ cap1) (h2 : SL H encNode ao2 p_x.nodes) (hc2 : p_x.nodes.length ≤ cap2) (hG : Glob H) (r : Int) (hm : law15_nodes n p_x = some r),
  Con prog 39 [(.agg #[(.int .i64 p_x.kind), (.slice ao1 p_x.step.strokes.length cap1), (.int .i64 p_x.step.wait), (.int .i64 p_x.count), (mkS p_x.name), (.slice ao2 p_x.nodes.length cap2)])] w H (fun v _ => v = (.int .i64 r)) := by
 induction n with
 | zero => intro p_x ao1 cap1 ao2 cap2 w H hH h1 hc1 h2 hc2 hG r hm; exact (none_some hm).elim
 | succ n ih => intro p_x ao1 cap1 ao2 cap2 w H hH h1 hc1 h2 hc2 hG r hm; exact law15_nodes_body_con (law15_nodes n) ih p_x ao1 cap1 ao2 cap2 w H hH h1 hc1 h2 hc2 hG r hm
end Go.Proofs.YtgpfgnpdbmbknaaGreatDoor.W
