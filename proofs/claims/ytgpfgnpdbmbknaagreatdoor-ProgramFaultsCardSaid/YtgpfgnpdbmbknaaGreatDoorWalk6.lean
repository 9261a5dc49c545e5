import Derived.Test.YtgpfgnpdbmbknaaGreatDoorPlain
import Derived.Test.YtgpfgnpdbmbknaaGreatDoorEqs
import Derived.Test.YtgpfgnpdbmbknaaGreatDoorProg
import Derived.Test.YtgpfgnpdbmbknaaGreatDoorExt
import Derived.Test.YtgpfgnpdbmbknaaGreatDoorClone
import Derived.Test.YtgpfgnpdbmbknaaGreatDoorSort
import Derived.Test.YtgpfgnpdbmbknaaGreatDoorWalk5
set_option linter.unusedVariables false
set_option maxRecDepth 100000
set_option maxHeartbeats 4000000
namespace Go.Proofs.YtgpfgnpdbmbknaaGreatDoor.W
open Go Go.RowKit Go.Proofs.Tryz
theorem ref15_node_con (p_x : Node) (ao1 : Option Addr) (cap1 : Nat) (ao2 : Option Addr) (cap2 : Nat) (w : World) (H : Heap) (hH : Le H (hp w)) (h1 : SL H encStroke ao1 p_x.step.strokes) (hc1 : p_x.step.strokes.length ≤ cap1) (h2 : SL H encNode ao2 p_x.nodes) (hc2 : p_x.nodes.length ≤ cap2) (hG : Glob H) (r : Int) (hm : ref15_node p_x = some r) :
  Con prog 112 [(.agg #[(.int .i64 p_x.kind), (.slice ao1 p_x.step.strokes.length cap1), (.int .i64 p_x.step.wait), (.int .i64 p_x.count), (mkS p_x.name), (.slice ao2 p_x.nodes.length cap2)])] w H (fun v _ => v = (.int .i64 r)) := by
 unfold ref15_node at hm
 refine con_of hH func112 rfl 36 ntmps112 rfl ?_
 refine WP.seq (WP.region ?_)
 refine ws rfl (os_box (cs := [(.int .i64 p_x.kind), (.slice ao1 p_x.step.strokes.length cap1), (.int .i64 p_x.step.wait), (.int .i64 p_x.count), (mkS p_x.name), (.slice ao2 p_x.nodes.length cap2)]) rfl rfl rfl (fun b1 => ?_))
 refine Va rfl (WL.nil (tn (WP.seq (WP.seq (WP.region (V rfl (ov_fieldAddr underlying28 rfl rfl rfl sizeOf3 rfl rfl) (Vl 0 isAgg3 rfl (V rfl (ov_lss rfl rfl rfl) (Vm rfl ?_)))))))))
 refine WL.cut_bool 4 10 (x := ((decide (p_x.kind < 0)) || (decide (p_x.kind > 3)))) ?_ ?_
 ·
  rcases Bool.eq_false_or_eq_true (decide (p_x.kind < 0)) with hc3 | hc3
  ·
   refine Vi rfl (Idle.no rfl rfl rfl hc3) (Vi rfl (Idle.no rfl rfl rfl hc3) (Vi rfl (Idle.no rfl rfl rfl hc3) (V rfl (ov_pick_true rfl (guard_eq rfl hc3) rfl) ?_)))
   exact WL.nil ⟨Sub.cons' rfl (congrArg Value.bool (orT hc3)) (Sub.dropn 4 rfl), fun _ s => s⟩
  refine wy hc3 rfl (ov_fieldAddr underlying28 rfl rfl rfl sizeOf3 rfl rfl) ?_
  refine wy hc3 rfl (ov_load_box (i := 0) isAgg3 rfl rfl rfl rfl) ?_
  refine wy hc3 rfl (ov_gtr rfl rfl rfl) ?_
  refine V rfl (ov_pick_false rfl (guard_eq rfl hc3) rfl) ?_
  exact WL.nil ⟨Sub.cons' rfl (congrArg Value.bool (orF hc3)) (Sub.dropn 4 rfl), fun _ s => s⟩
 refine WL.nil (tn ?_)
 refine WP.cond rfl (fun hc4 => ?_) (fun hc4 => ?_)
 ·
  replace hm := ite_t hc4 hm
  refine WP.seq (WP.region (Va rfl (WL.nil (tn (WP.ret (then_ret ?_))))))
  obtain rfl := Option.some.inj hm
  refine retQ_ret results112 (Res.tmp rfl Res.nil) rfl (fun w' s => ⟨s.below, ?_⟩)
  exact rfl
 replace hm := ite_f hc4 hm
 refine WP.skip (tn (WP.seq (WP.seq (WP.region (V rfl (ov_load_whole (i := 0) isAgg28 sizeOf28 rfl rfl rfl rfl) ?_)))))
 obtain ⟨r1, e1, hm⟩ := bind_some hm
 refine wo rfl (oq_con (r := (.bool r1)) call144 rfl rfl (fun w' s => ⟨_, (ref15_shape_con p_x ao1 cap1 ao2 cap2  w' H s.hold h1 hc1 h2 hc2 hG r1 e1)⟩)) ?_
 refine V rfl (ov_not rfl rfl) (WL.nil (tn ?_))
 refine WP.cond rfl (fun hc5 => ?_) (fun hc5 => ?_)
 ·
  replace hm := ite_t hc5 hm
  refine WP.seq (WP.region (Va rfl (WL.nil (tn (WP.ret (then_ret ?_))))))
  obtain rfl := Option.some.inj hm
  refine retQ_ret results112 (Res.tmp rfl Res.nil) rfl (fun w' s => ⟨s.below, ?_⟩)
  exact rfl
 replace hm := ite_f hc5 hm
 refine WP.skip (tn ?_)
 obtain ⟨k1, hk1, hm⟩ := joinK_some hm
 refine WP.seq_join (fun g' S' => Sub [(1000000007, (.bool false))] g' ∧ (∀ w', S' w' → St w H [] H w') ∧ k1 = some r) ?_ ?_
 ·
  refine WP.seq (WP.region (V rfl (ov_fieldAddr underlying28 rfl rfl rfl sizeOf3 rfl rfl) (Vl 0 isAgg3 rfl (WL.nil (tn (WP.block (WP.seq (WP.region (V rfl (ov_eql rfl rfl rfl) (Va rfl (WL.nil (tn ?_))))))))))))
  refine WP.cond rfl (fun hc6 => ?_) (fun hc6 => ?_)
  ·
   replace hm := ite_t hc6 hm
   refine WP.seq (WP.region (V rfl (ov_fieldAddr underlying28 rfl rfl rfl sizeOf25 rfl rfl) (V rfl (ov_load_boxes (i := 0) (vs := [(.slice ao1 p_x.step.strokes.length cap1), (.int .i64 p_x.step.wait)]) isAgg25 sizeOf25 rfl rfl rfl rfl (part_of rfl)) ?_)))
   obtain ⟨r2, e2, hm⟩ := bind_some hm
   refine wo rfl (oq_con (r := (.int .i64 r2)) call132 rfl rfl (fun w' s => ⟨_, (ref13_CheckStep_con p_x.step ao1 cap1  w' H s.hold h1 hc1 hG r2 e2)⟩)) ?_
   refine Va rfl (WL.nil (tn (WP.ret (block_ret (then_ret ?_)))))
   obtain rfl := Option.some.inj hm
   refine retQ_ret results112 (Res.tmp rfl Res.nil) rfl (fun w' s => ⟨s.below, ?_⟩)
   exact rfl
  replace hm := ite_f hc6 hm
  refine WP.seq (WP.region (V rfl (ov_eql rfl rfl rfl) (Va rfl (WL.nil (tn ?_)))))
  refine WP.cond rfl (fun hc7 => ?_) (fun hc7 => ?_)
  ·
   replace hm := ite_t hc7 hm
   refine WP.seq (WP.region (V rfl (ov_fieldAddr underlying28 rfl rfl rfl sizeOf3 rfl rfl) (Vl 0 isAgg3 rfl (V rfl (ov_lss rfl rfl rfl) (Vm rfl ?_)))))
   refine WL.cut_bool 4 30 (x := ((decide (p_x.count < 1)) || (decide (p_x.count > 64)))) ?_ ?_
   ·
    rcases Bool.eq_false_or_eq_true (decide (p_x.count < 1)) with hc8 | hc8
    ·
     refine Vi rfl (Idle.no rfl rfl rfl hc8) (Vi rfl (Idle.no rfl rfl rfl hc8) (Vi rfl (Idle.no rfl rfl rfl hc8) (V rfl (ov_pick_true rfl (guard_eq rfl hc8) rfl) ?_)))
     exact WL.nil ⟨Sub.cons' rfl (congrArg Value.bool (orT hc8)) (Sub.dropn 4 rfl), fun _ s => s⟩
    refine wy hc8 rfl (ov_fieldAddr underlying28 rfl rfl rfl sizeOf3 rfl rfl) ?_
    refine wy hc8 rfl (ov_load_box (i := 0) isAgg3 rfl rfl rfl rfl) ?_
    refine wy hc8 rfl (ov_gtr rfl rfl rfl) ?_
    refine V rfl (ov_pick_false rfl (guard_eq rfl hc8) rfl) ?_
    exact WL.nil ⟨Sub.cons' rfl (congrArg Value.bool (orF hc8)) (Sub.dropn 4 rfl), fun _ s => s⟩
   refine WL.nil (tn ?_)
   refine WP.cond rfl (fun hc9 => ?_) (fun hc9 => ?_)
   ·
    replace hm := ite_t hc9 hm
    refine WP.seq (WP.region (Va rfl (WL.nil (tn (WP.ret (block_ret (then_ret ?_)))))))
    obtain rfl := Option.some.inj hm
    refine retQ_ret results112 (Res.tmp rfl Res.nil) rfl (fun w' s => ⟨s.below, ?_⟩)
    exact rfl
   replace hm := ite_f hc9 hm
   refine WP.skip (bn (tn ?_))
   exact ⟨(Sub.all rfl), fun w' s => (s.select [] (by decide) rfl), hm⟩
  replace hm := ite_f hc7 hm
  refine WP.seq (WP.region (V rfl (ov_eql rfl rfl rfl) (Va rfl (WL.nil (tn ?_)))))
  refine WP.cond rfl (fun hc10 => ?_) (fun hc10 => ?_)
  ·
   replace hm := ite_t hc10 hm
   refine WP.seq (WP.region (V rfl (ov_fieldAddr underlying28 rfl rfl rfl sizeOf9 rfl rfl) (Vl 0 isAgg9 rfl ?_)))
   obtain ⟨r3, e3, hm⟩ := bind_some hm
   refine wo rfl (oq_con (r := (.int .i64 r3)) call127 rfl rfl (fun w' s => ⟨_, (ref12_Word_con p_x.name  w' H s.hold hG r3 e3)⟩)) ?_
   refine Va rfl (WL.nil (tn (WP.ret (block_ret (then_ret ?_)))))
   obtain rfl := Option.some.inj hm
   refine retQ_ret results112 (Res.tmp rfl Res.nil) rfl (fun w' s => ⟨s.below, ?_⟩)
   exact rfl
  replace hm := ite_f hc10 hm
  refine WP.skip (bn (tn ?_))
  exact ⟨(Sub.all rfl), fun w' s => (s.select [] (by decide) rfl), hm⟩
 rintro g' S' ⟨hsub1, hS1, hm⟩
 refine WP.sub hsub1 (WP.weaken hS1 ?_)
 replace hm := hk1.symm.trans hm
 refine WP.seq (WP.region (Va rfl (WL.nil (tn (WP.ret ?_)))))
 obtain rfl := Option.some.inj hm
 refine retQ_ret results112 (Res.tmp rfl Res.nil) rfl (fun w' s => ⟨s.below, ?_⟩)
 exact rfl
theorem ref15_nodes_body_con (self : Node → Option Int) (hself : ∀ (p_x : Node) (ao1 : Option Addr) (cap1 : Nat) (ao2 : Option Addr) (cap2 : Nat) (w : World) (H : Heap) (hH : Le H (hp w)) (h1 : SL H encStroke ao1 p_x.step.strokes) (hc1 : p_x.step.strokes.length ≤ cap1) (h2 : SL H encNode ao2 p_x.nodes) (hc2 : p_x.nodes.length ≤ cap2) (hG : Glob H) (r : Int) (hm : self p_x = some r), Con prog 71 [(.agg #[(.int .i64 p_x.kind), (.slice ao1 p_x.step.strokes.length cap1), (.int .i64 p_x.step.wait), (.int .i64 p_x.count), (mkS p_x.name), (.slice ao2 p_x.nodes.length cap2)])] w H (fun v _ => v = (.int .i64 r))) (p_x : Node) (ao1 : Option Addr) (cap1 : Nat) (ao2 : Option Addr) (cap2 : Nat) (w : World) (H : Heap) (hH : Le H (hp w)) (h1 : SL H encStroke ao1 p_x.step.strokes) (hc1 : p_x.step.strokes.length ≤ cap1) (h2 : SL H encNode ao2 p_x.nodes) (hc2 : p_x.nodes.length ≤ cap2) (hG : Glob H) (r : Int) (hm : ref15_nodes_body self p_x = some r) :
  Con prog 71 [(.agg #[(.int .i64 p_x.kind), (.slice ao1 p_x.step.strokes.length cap1), (.int .i64 p_x.step.wait), (.int .i64 p_x.count), (mkS p_x.name), (.slice ao2 p_x.nodes.length cap2)])] w H (fun v _ => v = (.int .i64 r)) := by
 unfold ref15_nodes_body at hm
 refine con_of hH func71 rfl 27 ntmps71 rfl ?_
 refine WP.seq (WP.region ?_)
 refine ws rfl (os_box (cs := [(.int .i64 p_x.kind), (.slice ao1 p_x.step.strokes.length cap1), (.int .i64 p_x.step.wait), (.int .i64 p_x.count), (mkS p_x.name), (.slice ao2 p_x.nodes.length cap2)]) rfl rfl rfl (fun b1 => ?_))
 refine Va rfl (WL.nil (tn (WP.seq (WP.seq (WP.region (V rfl (ov_load_whole (i := 0) isAgg28 sizeOf28 rfl rfl rfl rfl) ?_))))))
 obtain ⟨r1, e1, hm⟩ := bind_some hm
 refine wo rfl (oq_con (r := (.int .i64 r1)) call112 rfl rfl (fun w' s => ⟨_, (ref15_node_con p_x ao1 cap1 ao2 cap2  w' H s.hold h1 hc1 h2 hc2 hG r1 e1)⟩)) ?_
 refine Va rfl (WL.nil (tn (WP.seq (WP.region (Vm rfl (V rfl (ov_neq rfl rfl rfl) (WL.nil (tn ?_))))))))
 refine WP.cond rfl (fun hc3 => ?_) (fun hc3 => ?_)
 ·
  replace hm := ite_t hc3 hm
  refine WP.seq (WP.region (Vm rfl (Va rfl (WL.nil (tn (WP.ret (then_ret ?_)))))))
  obtain rfl := Option.some.inj hm
  refine retQ_ret results71 (Res.tmp rfl Res.nil) rfl (fun w' s => ⟨s.below, ?_⟩)
  exact rfl
 replace hm := ite_f hc3 hm
 refine WP.skip (tn ?_)
 obtain ⟨k1, hk1, hm⟩ := joinK_some hm
 refine WP.seq_join (fun g' S' => Sub [(1000000007, (.bool false))] g' ∧ (∀ w', S' w' → St w H [] H w') ∧ k1 = some r) ?_ ?_
 ·
  refine WP.seq (WP.region (Va rfl (WL.nil (tn (WP.block ?_)))))
  refine WP.loop (fun m1 g' S' => ∃ (i1 : Int), Sub [(1, (pB b1 0)), (4, (.int .i64 i1)), (1000000007, (.bool false))] g' ∧ (∀ w', S' w' → St w H [.blk b1 28 [(.int .i64 p_x.kind), (.slice ao1 p_x.step.strokes.length cap1), (.int .i64 p_x.step.wait), (.int .i64 p_x.count), (mkS p_x.name), (.slice ao2 p_x.nodes.length cap2)]] H w') ∧ ref15_nodes_loop1 p_x self k1 m1 i1 = some r) ((Int.toNat ((p_x.nodes.length : Int) - 0) + 1)) ⟨0, (Sub.all rfl), fun w' s => s, hm⟩ ?_ ?_
  ·
   rintro g' S' ⟨_, _, _, hm⟩
   exact none_some hm
  rintro m1 g' S' ⟨i1, hsub1, hS1, hm⟩
  refine WP.sub hsub1 (WP.weaken hS1 ?_)
  rw [ref15_nodes_loop1] at hm
  refine WP.seq (WP.seq (WP.region (Vm rfl (V rfl (ov_fieldAddr underlying28 rfl rfl rfl sizeOf26 rfl rfl) (Vl 0 isAgg26 rfl (V rfl (ov_len_slice underlying26 rfl rfl) (V rfl (ov_lss rfl rfl rfl) (WL.nil (tn ?_)))))))))
  refine WP.cond rfl (fun hc4 => ?_) (fun hc4 => ?_)
  ·
   replace hm := ite_t hc4 hm
   refine WP.skip (tn (WP.seq (WP.block (WP.seq (WP.region (V rfl (ov_fieldAddr underlying28 rfl rfl rfl sizeOf26 rfl rfl) (Vl 0 isAgg26 rfl (Vm rfl ?_))))))))
   obtain ⟨x1, e2, hm⟩ := bind_some hm
   obtain ⟨h5, h6, h7, cs1, h8, h9⟩ := h2.get e2 (by decide)
   obtain ⟨ao3, cap3, ao4, cap4, rfl, h3, hc5, h4, hc6⟩ := (encNode_open h8)
   refine V rfl (ov_indexAddr underlying26 sizeOf28 rfl rfl rfl h5 h6 h7) (V rfl (ov_load_elems (vs := [(.int .i64 x1.kind), (.slice ao3 x1.step.strokes.length cap3), (.int .i64 x1.step.wait), (.int .i64 x1.count), (mkS x1.name), (.slice ao4 x1.nodes.length cap4)]) isAgg28 sizeOf28 rfl rfl rfl h9 h7) ?_)
   obtain ⟨r2, e3, hm⟩ := bind_some hm
   refine wo rfl (oq_con (r := (.int .i64 r2)) call71 rfl rfl (fun w' s => ⟨_, (hself x1 ao3 cap3 ao4 cap4  w' H s.hold h3 hc5 h4 hc6 hG r2 e3)⟩)) ?_
   refine Va rfl (WL.nil (tn (WP.seq (WP.region (Vm rfl (V rfl (ov_neq rfl rfl rfl) (WL.nil (tn ?_))))))))
   refine WP.cond rfl (fun hc7 => ?_) (fun hc7 => ?_)
   ·
    replace hm := ite_t hc7 hm
    refine WP.seq (WP.region (Vm rfl (Va rfl (WL.nil (tn (WP.ret (block_ret (then_ret (then_ret (block_ret (then_ret ?_)))))))))))
    obtain rfl := Option.some.inj hm
    refine retQ_ret results71 (Res.tmp rfl Res.nil) rfl (fun w' s => ⟨s.below, ?_⟩)
    exact rfl
   replace hm := ite_f hc7 hm
   refine WP.skip (bn (tn (WP.region (Vm rfl (V rfl (ov_add rfl rfl rfl) (Va rfl (WL.nil (tn ?_))))))))
   exact ⟨(IntKind.wrap .i64 (i1 + 1)), (Sub.all rfl), fun w' s => s, hm⟩
  replace hm := ite_f hc4 hm
  refine WP.exit (then_exit (then_exit (block_here (tn ?_))))
  exact ⟨(Sub.all rfl), fun w' s => (s.select [] (by decide) rfl), hm⟩
 rintro g' S' ⟨hsub2, hS2, hm⟩
 refine WP.sub hsub2 (WP.weaken hS2 ?_)
 replace hm := hk1.symm.trans hm
 refine WP.seq (WP.region (Va rfl (WL.nil (tn (WP.ret ?_)))))
 obtain rfl := Option.some.inj hm
 refine retQ_ret results71 (Res.tmp rfl Res.nil) rfl (fun w' s => ⟨s.below, ?_⟩)
 exact rfl
theorem ref15_nodes_con (n : Nat) : ∀ (p_x : Node) (ao1 : Option Addr) (cap1 : Nat) (ao2 : Option Addr) (cap2 : Nat) (w : World) (H : Heap) (hH : Le H (hp w)) (h1 : SL H encStroke ao1 p_x.step.strokes) (hc1 : p_x.step.strokes.length ≤ cap1) (h2 : SL H encNode ao2 p_x.nodes) (hc2 : p_x.nodes.length ≤ cap2) (hG : Glob H) (r : Int) (hm : ref15_nodes n p_x = some r),
  Con prog 71 [(.agg #[(.int .i64 p_x.kind), (.slice ao1 p_x.step.strokes.length cap1), (.int .i64 p_x.step.wait), (.int .i64 p_x.count), (mkS p_x.name), (.slice ao2 p_x.nodes.length cap2)])] w H (fun v _ => v = (.int .i64 r)) := by
 induction n with
 | zero => intro p_x ao1 cap1 ao2 cap2 w H hH h1 hc1 h2 hc2 hG r hm; exact (none_some hm).elim
 | succ n ih => intro p_x ao1 cap1 ao2 cap2 w H hH h1 hc1 h2 hc2 hG r hm; exact ref15_nodes_body_con (ref15_nodes n) ih p_x ao1 cap1 ao2 cap2 w H hH h1 hc1 h2 hc2 hG r hm
theorem ref15_Check_con (p_x : Node) (ao1 : Option Addr) (cap1 : Nat) (ao2 : Option Addr) (cap2 : Nat) (w : World) (H : Heap) (hH : Le H (hp w)) (h1 : SL H encStroke ao1 p_x.step.strokes) (hc1 : p_x.step.strokes.length ≤ cap1) (h2 : SL H encNode ao2 p_x.nodes) (hc2 : p_x.nodes.length ≤ cap2) (hG : Glob H) (r : Int) (hm : ref15_Check p_x = some r) :
  Con prog 32 [(.agg #[(.int .i64 p_x.kind), (.slice ao1 p_x.step.strokes.length cap1), (.int .i64 p_x.step.wait), (.int .i64 p_x.count), (mkS p_x.name), (.slice ao2 p_x.nodes.length cap2)])] w H (fun v _ => v = (.int .i64 r)) := by
 unfold ref15_Check at hm
 refine con_of hH func32 rfl 8 ntmps32 rfl ?_
 refine WP.seq (WP.region ?_)
 refine ws rfl (os_box (cs := [(.int .i64 p_x.kind), (.slice ao1 p_x.step.strokes.length cap1), (.int .i64 p_x.step.wait), (.int .i64 p_x.count), (mkS p_x.name), (.slice ao2 p_x.nodes.length cap2)]) rfl rfl rfl (fun b1 => ?_))
 refine Va rfl (WL.nil (tn (WP.seq (WP.seq (WP.region (V rfl (ov_load_whole (i := 0) isAgg28 sizeOf28 rfl rfl rfl rfl) ?_))))))
 obtain ⟨r1, e1, hm⟩ := bind_some hm
 refine wo rfl (oq_con (r := (.bool r1)) call38 rfl rfl (fun w' s => ⟨_, (ref15_Light_con p_x ao1 cap1 ao2 cap2  w' H s.hold h1 hc1 h2 hc2 hG r1 e1)⟩)) ?_
 refine V rfl (ov_not rfl rfl) (WL.nil (tn ?_))
 refine WP.cond rfl (fun hc3 => ?_) (fun hc3 => ?_)
 ·
  replace hm := ite_t hc3 hm
  refine WP.seq (WP.region (Va rfl (WL.nil (tn (WP.ret (then_ret ?_))))))
  obtain rfl := Option.some.inj hm
  refine retQ_ret results32 (Res.tmp rfl Res.nil) rfl (fun w' s => ⟨s.below, ?_⟩)
  exact rfl
 replace hm := ite_f hc3 hm
 refine WP.skip (tn (WP.seq (WP.region (V rfl (ov_load_whole (i := 0) isAgg28 sizeOf28 rfl rfl rfl rfl) ?_))))
 obtain ⟨r2, e2, hm⟩ := bind_some hm
 refine wo rfl (oq_con (r := (.int .i64 r2)) call71 rfl rfl (fun w' s => ⟨_, (ref15_nodes_con 600 p_x ao1 cap1 ao2 cap2  w' H s.hold h1 hc1 h2 hc2 hG r2 e2)⟩)) ?_
 refine Va rfl (WL.nil (tn (WP.ret ?_)))
 obtain rfl := Option.some.inj hm
 refine retQ_ret results32 (Res.tmp rfl Res.nil) rfl (fun w' s => ⟨s.below, ?_⟩)
 exact rfl
theorem ref13_SameStrokes_con (p_a : (List Stroke)) (p_b : (List Stroke)) (ao1 : Option Addr) (cap1 : Nat) (ao2 : Option Addr) (cap2 : Nat) (w : World) (H : Heap) (hH : Le H (hp w)) (h1 : SL H encStroke ao1 p_a) (hc1 : p_a.length ≤ cap1) (h2 : SL H encStroke ao2 p_b) (hc2 : p_b.length ≤ cap2) (hG : Glob H) (r : Bool) (hm : ref13_SameStrokes p_a p_b = some r) :
  Con prog 99 [(.slice ao1 p_a.length cap1), (.slice ao2 p_b.length cap2)] w H (fun v _ => v = (.bool r)) := by
 unfold ref13_SameStrokes at hm
 refine con_of hH func99 rfl 26 ntmps99 rfl ?_
 refine WP.seq (WP.region (Va rfl (WL.nil (tn (WP.seq (WP.seq (WP.region (Vm rfl (V rfl (ov_len_slice underlying23 rfl rfl) (Vm rfl (V rfl (ov_len_slice underlying23 rfl rfl) (V rfl (ov_neq rfl rfl rfl) (WL.nil ?_)))))))))))))
 refine tn ?_
 refine WP.cond rfl (fun hc3 => ?_) (fun hc3 => ?_)
 ·
  replace hm := ite_t hc3 hm
  refine WP.seq (WP.region (Va rfl (WL.nil (tn (WP.ret (then_ret ?_))))))
  obtain rfl := Option.some.inj hm
  refine retQ_ret results99 (Res.tmp rfl Res.nil) rfl (fun w' s => ⟨s.below, ?_⟩)
  exact rfl
 replace hm := ite_f hc3 hm
 refine WP.skip (tn ?_)
 obtain ⟨k1, hk1, hm⟩ := joinK_some hm
 refine WP.seq_join (fun g' S' => Sub [(1000000007, (.bool false))] g' ∧ (∀ w', S' w' → St w H [] H w') ∧ k1 = some r) ?_ ?_
 ·
  refine WP.seq (WP.region (Va rfl (WL.nil (tn (WP.block ?_)))))
  refine WP.loop (fun m1 g' S' => ∃ (i1 : Int), Sub [(0, (.slice ao1 p_a.length cap1)), (1, (.slice ao2 p_b.length cap2)), (5, (.int .i64 i1)), (1000000007, (.bool false))] g' ∧ (∀ w', S' w' → St w H [] H w') ∧ ref13_SameStrokes_loop1 p_a p_b k1 m1 i1 = some r) ((Int.toNat ((p_a.length : Int) - 0) + 1)) ⟨0, (Sub.all rfl), fun w' s => s, hm⟩ ?_ ?_
  ·
   rintro g' S' ⟨_, _, _, hm⟩
   exact none_some hm
  rintro m1 g' S' ⟨i1, hsub1, hS1, hm⟩
  refine WP.sub hsub1 (WP.weaken hS1 ?_)
  rw [ref13_SameStrokes_loop1] at hm
  refine WP.seq (WP.seq (WP.region (Vm rfl (Vm rfl (V rfl (ov_len_slice underlying23 rfl rfl) (V rfl (ov_lss rfl rfl rfl) (WL.nil (tn ?_))))))))
  refine WP.cond rfl (fun hc4 => ?_) (fun hc4 => ?_)
  ·
   replace hm := ite_t hc4 hm
   refine WP.skip (tn (WP.seq (WP.block (WP.seq ?_))))
   refine WP.region_draws (by kernel_rfl) (by kernel_rfl) (fun _ s => s.drew) ?_
   refine qf rfl (ov_move rfl rfl) ?_
   refine qf rfl (ov_move rfl rfl) ?_
   obtain ⟨x1, e1, hm⟩ := bind_some hm
   obtain ⟨h3, h4, h5, cs1, h6, h7⟩ := h1.get e1 (by decide)
   obtain rfl : cs1 = [(.int .i64 x1.actuator), (.bool x1.out)] := h6
   refine qf rfl (ov_indexAddr underlying23 sizeOf112 rfl rfl rfl h3 h4 h5) ?_
   refine qf rfl (ov_load_elems (vs := [(.int .i64 x1.actuator), (.bool x1.out)]) isAgg112 sizeOf112 rfl rfl rfl h7 h5) ?_
   refine qf rfl (ov_move rfl rfl) ?_
   refine qf rfl (ov_move rfl rfl) ?_
   obtain ⟨x2, e2, hm⟩ := bind_some hm
   obtain ⟨h8, h9, h10, cs2, h11, h12⟩ := h2.get e2 (by decide)
   obtain rfl : cs2 = [(.int .i64 x2.actuator), (.bool x2.out)] := h11
   refine qf rfl (ov_indexAddr underlying23 sizeOf112 rfl rfl rfl h8 h9 h10) ?_
   refine qf rfl (ov_load_elems (vs := [(.int .i64 x2.actuator), (.bool x2.out)]) isAgg112 sizeOf112 rfl rfl rfl h12 h10) ?_
   refine qf rfl (neq_struct112 (a := x1) (b := x2) rfl rfl rfl) ?_
   refine QL.nil ?_
   refine tn ?_
   refine WP.cond rfl (fun hc5 => ?_) (fun hc5 => ?_)
   ·
    replace hm := ite_t hc5 hm
    refine WP.seq (WP.region (Va rfl (WL.nil (tn (WP.ret (block_ret (then_ret (then_ret (block_ret (then_ret ?_))))))))))
    obtain rfl := Option.some.inj hm
    refine retQ_ret results99 (Res.tmp rfl Res.nil) rfl (fun w' s => ⟨s.below, ?_⟩)
    exact rfl
   replace hm := ite_f hc5 hm
   refine WP.skip (bn (tn (WP.region (Vm rfl (V rfl (ov_add rfl rfl rfl) (Va rfl (WL.nil (tn ?_))))))))
   exact ⟨(IntKind.wrap .i64 (i1 + 1)), (Sub.all rfl), fun w' s => s, hm⟩
  replace hm := ite_f hc4 hm
  refine WP.exit (then_exit (then_exit (block_here (tn ?_))))
  exact ⟨(Sub.all rfl), fun w' s => s, hm⟩
 rintro g' S' ⟨hsub2, hS2, hm⟩
 refine WP.sub hsub2 (WP.weaken hS2 ?_)
 replace hm := hk1.symm.trans hm
 refine WP.seq (WP.region (Va rfl (WL.nil (tn (WP.ret ?_)))))
 obtain rfl := Option.some.inj hm
 refine retQ_ret results99 (Res.tmp rfl Res.nil) rfl (fun w' s => ⟨s.below, ?_⟩)
 exact rfl
theorem ref13_Same_con (p_a : Step) (p_b : Step) (ao1 : Option Addr) (cap1 : Nat) (ao2 : Option Addr) (cap2 : Nat) (w : World) (H : Heap) (hH : Le H (hp w)) (h1 : SL H encStroke ao1 p_a.strokes) (hc1 : p_a.strokes.length ≤ cap1) (h2 : SL H encStroke ao2 p_b.strokes) (hc2 : p_b.strokes.length ≤ cap2) (hG : Glob H) (r : Bool) (hm : ref13_Same p_a p_b = some r) :
  Con prog 60 [(.agg #[(.slice ao1 p_a.strokes.length cap1), (.int .i64 p_a.wait)]), (.agg #[(.slice ao2 p_b.strokes.length cap2), (.int .i64 p_b.wait)])] w H (fun v _ => v = (.bool r)) := by
 unfold ref13_Same at hm
 refine con_of hH func60 rfl 17 ntmps60 rfl ?_
 refine WP.seq (WP.region ?_)
 refine ws rfl (os_box (cs := [(.slice ao1 p_a.strokes.length cap1), (.int .i64 p_a.wait)]) rfl rfl rfl (fun b1 => ?_))
 refine ws rfl (os_box (cs := [(.slice ao2 p_b.strokes.length cap2), (.int .i64 p_b.wait)]) rfl rfl rfl (fun b2 => ?_))
 refine Va rfl (WL.nil (tn (WP.seq (WP.region (V rfl (ov_fieldAddr underlying25 rfl rfl rfl sizeOf3 rfl rfl) (Vl 1 isAgg3 rfl (V rfl (ov_fieldAddr underlying25 rfl rfl rfl sizeOf3 rfl rfl) (Vl 0 isAgg3 rfl (V rfl (ov_eql rfl rfl rfl) (Vm rfl ?_))))))))))
 obtain ⟨c1, e1, hm⟩ := bind_some hm
 refine WL.cut_bool 6 16 (x := c1) ?_ ?_
 ·
  rcases Bool.eq_false_or_eq_true (p_a.wait == p_b.wait) with hc3 | hc3
  ·
   replace hm := ite_t hc3 e1
   refine wy hc3 rfl (ov_fieldAddr underlying25 rfl rfl rfl sizeOf23 rfl rfl) ?_
   refine wy hc3 rfl (ov_load_box (i := 1) isAgg23 rfl rfl rfl rfl) ?_
   refine wy hc3 rfl (ov_fieldAddr underlying25 rfl rfl rfl sizeOf23 rfl rfl) ?_
   refine wy hc3 rfl (ov_load_box (i := 0) isAgg23 rfl rfl rfl rfl) ?_
   obtain ⟨r1, e2, hm⟩ := bind_some hm
   refine WL.quiet (Runs.yes rfl rfl rfl hc3) rfl rfl (oq_con (r := (.bool r1)) call99 rfl rfl (fun w' s => ⟨_, (ref13_SameStrokes_con p_a.strokes p_b.strokes ao1 cap1 ao2 cap2  w' H s.hold h1 hc1 h2 hc2 hG r1 e2)⟩)) ?_
   refine V rfl (ov_pick_true rfl (guard_eq rfl hc3) rfl) ?_
   exact WL.nil ⟨Sub.cons' rfl (congrArg Value.bool (Option.some.inj hm)) (Sub.dropn 6 rfl), fun _ s => s⟩
  replace hm := ite_f hc3 e1
  refine Vi rfl (Idle.no rfl rfl rfl hc3) (Vi rfl (Idle.no rfl rfl rfl hc3) (Vi rfl (Idle.no rfl rfl rfl hc3) (Vi rfl (Idle.no rfl rfl rfl hc3) (Vi rfl (Idle.no rfl rfl rfl hc3) (V rfl (ov_pick_false rfl (guard_eq rfl hc3) rfl) ?_)))))
  exact WL.nil ⟨Sub.cons' rfl (congrArg Value.bool (Option.some.inj hm)) (Sub.dropn 6 rfl), fun _ s => s⟩
 refine Va rfl (WL.nil (tn (WP.ret ?_)))
 obtain rfl := Option.some.inj hm
 refine retQ_ret results60 (Res.tmp rfl Res.nil) rfl (fun w' s => ⟨s.below, ?_⟩)
 exact rfl
theorem ref15_equal_body_con (self : Node → Node → Option Bool) (hself : ∀ (p_a : Node) (p_b : Node) (ao1 : Option Addr) (cap1 : Nat) (ao2 : Option Addr) (cap2 : Nat) (ao3 : Option Addr) (cap3 : Nat) (ao4 : Option Addr) (cap4 : Nat) (w : World) (H : Heap) (hH : Le H (hp w)) (h1 : SL H encStroke ao1 p_a.step.strokes) (hc1 : p_a.step.strokes.length ≤ cap1) (h2 : SL H encNode ao2 p_a.nodes) (hc2 : p_a.nodes.length ≤ cap2) (h3 : SL H encStroke ao3 p_b.step.strokes) (hc3 : p_b.step.strokes.length ≤ cap3) (h4 : SL H encNode ao4 p_b.nodes) (hc4 : p_b.nodes.length ≤ cap4) (hG : Glob H) (r : Bool) (hm : self p_a p_b = some r), Con prog 49 [(.agg #[(.int .i64 p_a.kind), (.slice ao1 p_a.step.strokes.length cap1), (.int .i64 p_a.step.wait), (.int .i64 p_a.count), (mkS p_a.name), (.slice ao2 p_a.nodes.length cap2)]), (.agg #[(.int .i64 p_b.kind), (.slice ao3 p_b.step.strokes.length cap3), (.int .i64 p_b.step.wait), (.int .i64 p_b.count), (mkS p_b.name), (.slice ao4 p_b.nodes.length cap4)])] w H (fun v _ => v = (.bool r))) (p_a : Node) (p_b : Node) (ao1 : Option Addr) (cap1 : Nat) (ao2 : Option Addr) (cap2 : Nat) (ao3 : Option Addr) (cap3 : Nat) (ao4 : Option Addr) (cap4 : Nat) (w : World) (H : Heap) (hH : Le H (hp w)) (h1 : SL H encStroke ao1 p_a.step.strokes) (hc1 : p_a.step.strokes.length ≤ cap1) (h2 : SL H encNode ao2 p_a.nodes) (hc2 : p_a.nodes.length ≤ cap2) (h3 : SL H encStroke ao3 p_b.step.strokes) (hc3 : p_b.step.strokes.length ≤ cap3) (h4 : SL H encNode ao4 p_b.nodes) (hc4 : p_b.nodes.length ≤ cap4) (hG : Glob H) (r : Bool) (hm : ref15_equal_body self p_a p_b = some r) :
  Con prog 49 [(.agg #[(.int .i64 p_a.kind), (.slice ao1 p_a.step.strokes.length cap1), (.int .i64 p_a.step.wait), (.int .i64 p_a.count), (mkS p_a.name), (.slice ao2 p_a.nodes.length cap2)]), (.agg #[(.int .i64 p_b.kind), (.slice ao3 p_b.step.strokes.length cap3), (.int .i64 p_b.step.wait), (.int .i64 p_b.count), (mkS p_b.name), (.slice ao4 p_b.nodes.length cap4)])] w H (fun v _ => v = (.bool r)) := by
 unfold ref15_equal_body at hm
 refine con_of hH func49 rfl 61 ntmps49 rfl ?_
 refine WP.seq (WP.region ?_)
 refine ws rfl (os_box (cs := [(.int .i64 p_a.kind), (.slice ao1 p_a.step.strokes.length cap1), (.int .i64 p_a.step.wait), (.int .i64 p_a.count), (mkS p_a.name), (.slice ao2 p_a.nodes.length cap2)]) rfl rfl rfl (fun b1 => ?_))
 refine ws rfl (os_box (cs := [(.int .i64 p_b.kind), (.slice ao3 p_b.step.strokes.length cap3), (.int .i64 p_b.step.wait), (.int .i64 p_b.count), (mkS p_b.name), (.slice ao4 p_b.nodes.length cap4)]) rfl rfl rfl (fun b2 => ?_))
 refine Va rfl (WL.nil (tn (WP.seq (WP.seq (WP.region (V rfl (ov_fieldAddr underlying28 rfl rfl rfl sizeOf3 rfl rfl) (Vl 1 isAgg3 rfl (V rfl (ov_fieldAddr underlying28 rfl rfl rfl sizeOf3 rfl rfl) (Vl 0 isAgg3 rfl (V rfl (ov_neq rfl rfl rfl) (Vm rfl ?_)))))))))))
 refine WL.cut_bool 6 17 (x := ((p_a.kind != p_b.kind) || (p_a.count != p_b.count))) ?_ ?_
 ·
  rcases Bool.eq_false_or_eq_true (p_a.kind != p_b.kind) with hc5 | hc5
  ·
   refine Vi rfl (Idle.no rfl rfl rfl hc5) (Vi rfl (Idle.no rfl rfl rfl hc5) (Vi rfl (Idle.no rfl rfl rfl hc5) (Vi rfl (Idle.no rfl rfl rfl hc5) (Vi rfl (Idle.no rfl rfl rfl hc5) (V rfl (ov_pick_true rfl (guard_eq rfl hc5) rfl) ?_)))))
   exact WL.nil ⟨Sub.cons' rfl (congrArg Value.bool (orT hc5)) (Sub.dropn 6 rfl), fun _ s => s⟩
  refine wy hc5 rfl (ov_fieldAddr underlying28 rfl rfl rfl sizeOf3 rfl rfl) ?_
  refine wy hc5 rfl (ov_load_box (i := 1) isAgg3 rfl rfl rfl rfl) ?_
  refine wy hc5 rfl (ov_fieldAddr underlying28 rfl rfl rfl sizeOf3 rfl rfl) ?_
  refine wy hc5 rfl (ov_load_box (i := 0) isAgg3 rfl rfl rfl rfl) ?_
  refine wy hc5 rfl (ov_neq rfl rfl rfl) ?_
  refine V rfl (ov_pick_false rfl (guard_eq rfl hc5) rfl) ?_
  exact WL.nil ⟨Sub.cons' rfl (congrArg Value.bool (orF hc5)) (Sub.dropn 6 rfl), fun _ s => s⟩
 refine Vm rfl ?_
 refine WL.cut_bool 6 24 (x := (((p_a.kind != p_b.kind) || (p_a.count != p_b.count)) || (!(p_a.name == p_b.name)))) ?_ ?_
 ·
  rcases Bool.eq_false_or_eq_true ((p_a.kind != p_b.kind) || (p_a.count != p_b.count)) with hc6 | hc6
  ·
   refine Vi rfl (Idle.no rfl rfl rfl hc6) (Vi rfl (Idle.no rfl rfl rfl hc6) (Vi rfl (Idle.no rfl rfl rfl hc6) (Vi rfl (Idle.no rfl rfl rfl hc6) (Vi rfl (Idle.no rfl rfl rfl hc6) (V rfl (ov_pick_true rfl (guard_eq rfl hc6) rfl) ?_)))))
   exact WL.nil ⟨Sub.cons' rfl (congrArg Value.bool (orT hc6)) (Sub.dropn 6 rfl), fun _ s => s⟩
  refine wy hc6 rfl (ov_fieldAddr underlying28 rfl rfl rfl sizeOf9 rfl rfl) ?_
  refine wy hc6 rfl (ov_load_box (i := 1) isAgg9 rfl rfl rfl rfl) ?_
  refine wy hc6 rfl (ov_fieldAddr underlying28 rfl rfl rfl sizeOf9 rfl rfl) ?_
  refine wy hc6 rfl (ov_load_box (i := 0) isAgg9 rfl rfl rfl rfl) ?_
  refine wy hc6 rfl (ov_sneq rfl rfl rfl) ?_
  refine V rfl (ov_pick_false rfl (guard_eq rfl hc6) rfl) ?_
  exact WL.nil ⟨Sub.cons' rfl (congrArg Value.bool (orF hc6)) (Sub.dropn 6 rfl), fun _ s => s⟩
 refine Vm rfl ?_
 refine WL.cut_bool 8 33 (x := ((((p_a.kind != p_b.kind) || (p_a.count != p_b.count)) || (!(p_a.name == p_b.name))) || ((p_a.nodes.length : Int) != (p_b.nodes.length : Int)))) ?_ ?_
 ·
  rcases Bool.eq_false_or_eq_true (((p_a.kind != p_b.kind) || (p_a.count != p_b.count)) || (!(p_a.name == p_b.name))) with hc7 | hc7
  ·
   refine Vi rfl (Idle.no rfl rfl rfl hc7) (Vi rfl (Idle.no rfl rfl rfl hc7) (Vi rfl (Idle.no rfl rfl rfl hc7) (Vi rfl (Idle.no rfl rfl rfl hc7) (Vi rfl (Idle.no rfl rfl rfl hc7) (Vi rfl (Idle.no rfl rfl rfl hc7) (Vi rfl (Idle.no rfl rfl rfl hc7) (V rfl (ov_pick_true rfl (guard_eq rfl hc7) rfl) ?_)))))))
   exact WL.nil ⟨Sub.cons' rfl (congrArg Value.bool (orT hc7)) (Sub.dropn 8 rfl), fun _ s => s⟩
  refine wy hc7 rfl (ov_fieldAddr underlying28 rfl rfl rfl sizeOf26 rfl rfl) ?_
  refine wy hc7 rfl (ov_load_box (i := 1) isAgg26 rfl rfl rfl rfl) ?_
  refine wy hc7 rfl (ov_len_slice underlying26 rfl rfl) ?_
  refine wy hc7 rfl (ov_fieldAddr underlying28 rfl rfl rfl sizeOf26 rfl rfl) ?_
  refine wy hc7 rfl (ov_load_box (i := 0) isAgg26 rfl rfl rfl rfl) ?_
  refine wy hc7 rfl (ov_len_slice underlying26 rfl rfl) ?_
  refine wy hc7 rfl (ov_neq rfl rfl rfl) ?_
  refine V rfl (ov_pick_false rfl (guard_eq rfl hc7) rfl) ?_
  exact WL.nil ⟨Sub.cons' rfl (congrArg Value.bool (orF hc7)) (Sub.dropn 8 rfl), fun _ s => s⟩
 refine Vm rfl ?_
 obtain ⟨c1, e1, hm⟩ := bind_some hm
 refine WL.cut_bool 7 41 (x := c1) ?_ ?_
 ·
  rcases Bool.eq_false_or_eq_true ((((p_a.kind != p_b.kind) || (p_a.count != p_b.count)) || (!(p_a.name == p_b.name))) || ((p_a.nodes.length : Int) != (p_b.nodes.length : Int))) with hc8 | hc8
  ·
   replace hm := ite_t hc8 e1
   refine Vi rfl (Idle.no rfl rfl rfl hc8) (Vi rfl (Idle.no rfl rfl rfl hc8) (Vi rfl (Idle.no rfl rfl rfl hc8) (Vi rfl (Idle.no rfl rfl rfl hc8) (Vi rfl (Idle.no rfl rfl rfl hc8) (Vi rfl (Idle.no rfl rfl rfl hc8) (V rfl (ov_pick_true rfl (guard_eq rfl hc8) rfl) ?_))))))
   exact WL.nil ⟨Sub.cons' rfl (congrArg Value.bool (Option.some.inj hm)) (Sub.dropn 7 rfl), fun _ s => s⟩
  replace hm := ite_f hc8 e1
  refine wy hc8 rfl (ov_fieldAddr underlying28 rfl rfl rfl sizeOf25 rfl rfl) ?_
  refine wy hc8 rfl (ov_load_boxes (i := 1) (vs := [(.slice ao1 p_a.step.strokes.length cap1), (.int .i64 p_a.step.wait)]) isAgg25 sizeOf25 rfl rfl rfl rfl (part_of rfl)) ?_
  refine wy hc8 rfl (ov_fieldAddr underlying28 rfl rfl rfl sizeOf25 rfl rfl) ?_
  refine wy hc8 rfl (ov_load_boxes (i := 0) (vs := [(.slice ao3 p_b.step.strokes.length cap3), (.int .i64 p_b.step.wait)]) isAgg25 sizeOf25 rfl rfl rfl rfl (part_of rfl)) ?_
  obtain ⟨r1, e2, hm⟩ := bind_some hm
  refine WL.quiet (Runs.yes rfl rfl rfl hc8) rfl rfl (oq_con (r := (.bool r1)) call60 rfl rfl (fun w' s => ⟨_, (ref13_Same_con p_a.step p_b.step ao1 cap1 ao3 cap3  w' H s.hold h1 hc1 h3 hc3 hG r1 e2)⟩)) ?_
  refine wy hc8 rfl (ov_not rfl rfl) ?_
  refine V rfl (ov_pick_false rfl (guard_eq rfl hc8) rfl) ?_
  exact WL.nil ⟨Sub.cons' rfl (congrArg Value.bool (Option.some.inj hm)) (Sub.dropn 7 rfl), fun _ s => s⟩
 refine WL.nil (tn ?_)
 refine WP.cond rfl (fun hc9 => ?_) (fun hc9 => ?_)
 ·
  replace hm := ite_t hc9 hm
  refine WP.seq (WP.region (Va rfl (WL.nil (tn (WP.ret (then_ret ?_))))))
  obtain rfl := Option.some.inj hm
  refine retQ_ret results49 (Res.tmp rfl Res.nil) rfl (fun w' s => ⟨s.below, ?_⟩)
  exact rfl
 replace hm := ite_f hc9 hm
 refine WP.skip (tn ?_)
 obtain ⟨k1, hk1, hm⟩ := joinK_some hm
 refine WP.seq_join (fun g' S' => Sub [(1000000007, (.bool false))] g' ∧ (∀ w', S' w' → St w H [] H w') ∧ k1 = some r) ?_ ?_
 ·
  refine WP.seq (WP.region (Va rfl (WL.nil (tn (WP.block ?_)))))
  refine WP.loop (fun m1 g' S' => ∃ (i1 : Int), Sub [(2, (pB b1 0)), (3, (pB b2 0)), (5, (.int .i64 i1)), (1000000007, (.bool false))] g' ∧ (∀ w', S' w' → St w H [.blk b2 28 [(.int .i64 p_b.kind), (.slice ao3 p_b.step.strokes.length cap3), (.int .i64 p_b.step.wait), (.int .i64 p_b.count), (mkS p_b.name), (.slice ao4 p_b.nodes.length cap4)], .blk b1 28 [(.int .i64 p_a.kind), (.slice ao1 p_a.step.strokes.length cap1), (.int .i64 p_a.step.wait), (.int .i64 p_a.count), (mkS p_a.name), (.slice ao2 p_a.nodes.length cap2)]] H w') ∧ ref15_equal_loop1 p_a p_b self k1 m1 i1 = some r) ((Int.toNat ((p_a.nodes.length : Int) - 0) + 1)) ⟨0, (Sub.all rfl), fun w' s => s, hm⟩ ?_ ?_
  ·
   rintro g' S' ⟨_, _, _, hm⟩
   exact none_some hm
  rintro m1 g' S' ⟨i1, hsub1, hS1, hm⟩
  refine WP.sub hsub1 (WP.weaken hS1 ?_)
  rw [ref15_equal_loop1] at hm
  refine WP.seq (WP.seq (WP.region (Vm rfl (V rfl (ov_fieldAddr underlying28 rfl rfl rfl sizeOf26 rfl rfl) (Vl 1 isAgg26 rfl (V rfl (ov_len_slice underlying26 rfl rfl) (V rfl (ov_lss rfl rfl rfl) (WL.nil (tn ?_)))))))))
  refine WP.cond rfl (fun hc10 => ?_) (fun hc10 => ?_)
  ·
   replace hm := ite_t hc10 hm
   refine WP.skip (tn (WP.seq (WP.block (WP.seq ?_))))
   refine WP.region_draws (by kernel_rfl) (by kernel_rfl) (fun _ s => s.drew) ?_
   refine qf rfl (ov_fieldAddr underlying28 rfl rfl rfl sizeOf26 rfl rfl) ?_
   refine qf rfl (ov_load_box (i := 1) isAgg26 rfl rfl rfl rfl) ?_
   refine qf rfl (ov_move rfl rfl) ?_
   obtain ⟨x1, e3, hm⟩ := bind_some hm
   obtain ⟨h7, h8, h9, cs1, h10, h11⟩ := h2.get e3 (by decide)
   obtain ⟨ao5, cap5, ao6, cap6, rfl, h5, hc11, h6, hc12⟩ := (encNode_open h10)
   refine qf rfl (ov_indexAddr underlying26 sizeOf28 rfl rfl rfl h7 h8 h9) ?_
   refine qf rfl (ov_load_elems (vs := [(.int .i64 x1.kind), (.slice ao5 x1.step.strokes.length cap5), (.int .i64 x1.step.wait), (.int .i64 x1.count), (mkS x1.name), (.slice ao6 x1.nodes.length cap6)]) isAgg28 sizeOf28 rfl rfl rfl h11 h9) ?_
   refine qf rfl (ov_fieldAddr underlying28 rfl rfl rfl sizeOf26 rfl rfl) ?_
   refine qf rfl (ov_load_box (i := 0) isAgg26 rfl rfl rfl rfl) ?_
   refine qf rfl (ov_move rfl rfl) ?_
   obtain ⟨x2, e4, hm⟩ := bind_some hm
   obtain ⟨h14, h15, h16, cs2, h17, h18⟩ := h4.get e4 (by decide)
   obtain ⟨ao7, cap7, ao8, cap8, rfl, h12, hc13, h13, hc14⟩ := (encNode_open h17)
   refine qf rfl (ov_indexAddr underlying26 sizeOf28 rfl rfl rfl h14 h15 h16) ?_
   refine qf rfl (ov_load_elems (vs := [(.int .i64 x2.kind), (.slice ao7 x2.step.strokes.length cap7), (.int .i64 x2.step.wait), (.int .i64 x2.count), (mkS x2.name), (.slice ao8 x2.nodes.length cap8)]) isAgg28 sizeOf28 rfl rfl rfl h18 h16) ?_
   obtain ⟨r2, e5, hm⟩ := bind_some hm
   refine QL.quiet (Runs.free rfl) rfl rfl (oq_con (r := (.bool r2)) call49 rfl rfl (fun w' s => ⟨_, (hself x1 x2 ao5 cap5 ao6 cap6 ao7 cap7 ao8 cap8  w' H s.hold h5 hc11 h6 hc12 h12 hc13 h13 hc14 hG r2 e5)⟩)) ?_
   refine qf rfl (ov_not rfl rfl) ?_
   refine QL.nil ?_
   refine tn ?_
   refine WP.cond rfl (fun hc15 => ?_) (fun hc15 => ?_)
   ·
    replace hm := ite_t hc15 hm
    refine WP.seq (WP.region (Va rfl (WL.nil (tn (WP.ret (block_ret (then_ret (then_ret (block_ret (then_ret ?_))))))))))
    obtain rfl := Option.some.inj hm
    refine retQ_ret results49 (Res.tmp rfl Res.nil) rfl (fun w' s => ⟨s.below, ?_⟩)
    exact rfl
   replace hm := ite_f hc15 hm
   refine WP.skip (bn (tn (WP.region (Vm rfl (V rfl (ov_add rfl rfl rfl) (Va rfl (WL.nil (tn ?_))))))))
   exact ⟨(IntKind.wrap .i64 (i1 + 1)), (Sub.all rfl), fun w' s => s, hm⟩
  replace hm := ite_f hc10 hm
  refine WP.exit (then_exit (then_exit (block_here (tn ?_))))
  exact ⟨(Sub.all rfl), fun w' s => (s.select [] (by decide) rfl), hm⟩
 rintro g' S' ⟨hsub2, hS2, hm⟩
 refine WP.sub hsub2 (WP.weaken hS2 ?_)
 replace hm := hk1.symm.trans hm
 refine WP.seq (WP.region (Va rfl (WL.nil (tn (WP.ret ?_)))))
 obtain rfl := Option.some.inj hm
 refine retQ_ret results49 (Res.tmp rfl Res.nil) rfl (fun w' s => ⟨s.below, ?_⟩)
 exact rfl
theorem ref15_equal_con (n : Nat) : ∀ (p_a : Node) (p_b : Node) (ao1 : Option Addr) (cap1 : Nat) (ao2 : Option Addr) (cap2 : Nat) (ao3 : Option Addr) (cap3 : Nat) (ao4 : Option Addr) (cap4 : Nat) (w : World) (H : Heap) (hH : Le H (hp w)) (h1 : SL H encStroke ao1 p_a.step.strokes) (hc1 : p_a.step.strokes.length ≤ cap1) (h2 : SL H encNode ao2 p_a.nodes) (hc2 : p_a.nodes.length ≤ cap2) (h3 : SL H encStroke ao3 p_b.step.strokes) (hc3 : p_b.step.strokes.length ≤ cap3) (h4 : SL H encNode ao4 p_b.nodes) (hc4 : p_b.nodes.length ≤ cap4) (hG : Glob H) (r : Bool) (hm : ref15_equal n p_a p_b = some r),
  Con prog 49 [(.agg #[(.int .i64 p_a.kind), (.slice ao1 p_a.step.strokes.length cap1), (.int .i64 p_a.step.wait), (.int .i64 p_a.count), (mkS p_a.name), (.slice ao2 p_a.nodes.length cap2)]), (.agg #[(.int .i64 p_b.kind), (.slice ao3 p_b.step.strokes.length cap3), (.int .i64 p_b.step.wait), (.int .i64 p_b.count), (mkS p_b.name), (.slice ao4 p_b.nodes.length cap4)])] w H (fun v _ => v = (.bool r)) := by
 induction n with
 | zero => intro p_a p_b ao1 cap1 ao2 cap2 ao3 cap3 ao4 cap4 w H hH h1 hc1 h2 hc2 h3 hc3 h4 hc4 hG r hm; exact (none_some hm).elim
 | succ n ih => intro p_a p_b ao1 cap1 ao2 cap2 ao3 cap3 ao4 cap4 w H hH h1 hc1 h2 hc2 h3 hc3 h4 hc4 hG r hm; exact ref15_equal_body_con (ref15_equal n) ih p_a p_b ao1 cap1 ao2 cap2 ao3 cap3 ao4 cap4 w H hH h1 hc1 h2 hc2 h3 hc3 h4 hc4 hG r hm
theorem ref15_Same_con (p_a : Node) (p_b : Node) (ao1 : Option Addr) (cap1 : Nat) (ao2 : Option Addr) (cap2 : Nat) (ao3 : Option Addr) (cap3 : Nat) (ao4 : Option Addr) (cap4 : Nat) (w : World) (H : Heap) (hH : Le H (hp w)) (h1 : SL H encStroke ao1 p_a.step.strokes) (hc1 : p_a.step.strokes.length ≤ cap1) (h2 : SL H encNode ao2 p_a.nodes) (hc2 : p_a.nodes.length ≤ cap2) (h3 : SL H encStroke ao3 p_b.step.strokes) (hc3 : p_b.step.strokes.length ≤ cap3) (h4 : SL H encNode ao4 p_b.nodes) (hc4 : p_b.nodes.length ≤ cap4) (hG : Glob H) (r : Bool) (hm : ref15_Same p_a p_b = some r) :
  Con prog 14 [(.agg #[(.int .i64 p_a.kind), (.slice ao1 p_a.step.strokes.length cap1), (.int .i64 p_a.step.wait), (.int .i64 p_a.count), (mkS p_a.name), (.slice ao2 p_a.nodes.length cap2)]), (.agg #[(.int .i64 p_b.kind), (.slice ao3 p_b.step.strokes.length cap3), (.int .i64 p_b.step.wait), (.int .i64 p_b.count), (mkS p_b.name), (.slice ao4 p_b.nodes.length cap4)])] w H (fun v _ => v = (.bool r)) := by
 unfold ref15_Same at hm
 refine con_of hH func14 rfl 16 ntmps14 rfl ?_
 refine WP.seq (WP.region ?_)
 refine ws rfl (os_box (cs := [(.int .i64 p_a.kind), (.slice ao1 p_a.step.strokes.length cap1), (.int .i64 p_a.step.wait), (.int .i64 p_a.count), (mkS p_a.name), (.slice ao2 p_a.nodes.length cap2)]) rfl rfl rfl (fun b1 => ?_))
 refine ws rfl (os_box (cs := [(.int .i64 p_b.kind), (.slice ao3 p_b.step.strokes.length cap3), (.int .i64 p_b.step.wait), (.int .i64 p_b.count), (mkS p_b.name), (.slice ao4 p_b.nodes.length cap4)]) rfl rfl rfl (fun b2 => ?_))
 refine Va rfl (WL.nil (tn (WP.seq (WP.region (V rfl (ov_load_whole (i := 1) isAgg28 sizeOf28 rfl rfl rfl rfl) ?_)))))
 obtain ⟨r1, e1, hm⟩ := bind_some hm
 refine wo rfl (oq_con (r := (.bool r1)) call38 rfl rfl (fun w' s => ⟨_, (ref15_Light_con p_a ao1 cap1 ao2 cap2  w' H s.hold h1 hc1 h2 hc2 hG r1 e1)⟩)) ?_
 refine Vm rfl ?_
 obtain ⟨c1, e2, hm⟩ := bind_some hm
 refine WL.cut_bool 3 10 (x := c1) ?_ ?_
 ·
  rcases Bool.eq_false_or_eq_true r1 with hc5 | hc5
  ·
   replace hm := ite_t hc5 e2
   refine wy hc5 rfl (ov_load_whole (i := 0) isAgg28 sizeOf28 rfl rfl rfl rfl) ?_
   obtain ⟨r2, e3, hm⟩ := bind_some hm
   refine WL.quiet (Runs.yes rfl rfl rfl hc5) rfl rfl (oq_con (r := (.bool r2)) call38 rfl rfl (fun w' s => ⟨_, (ref15_Light_con p_b ao3 cap3 ao4 cap4  w' H s.hold h3 hc3 h4 hc4 hG r2 e3)⟩)) ?_
   refine V rfl (ov_pick_true rfl (guard_eq rfl hc5) rfl) ?_
   exact WL.nil ⟨Sub.cons' rfl (congrArg Value.bool (Option.some.inj hm)) (Sub.dropn 3 rfl), fun _ s => s⟩
  replace hm := ite_f hc5 e2
  refine Vi rfl (Idle.no rfl rfl rfl hc5) (Vi rfl (Idle.no rfl rfl rfl hc5) (V rfl (ov_pick_false rfl (guard_eq rfl hc5) rfl) ?_))
  exact WL.nil ⟨Sub.cons' rfl (congrArg Value.bool (Option.some.inj hm)) (Sub.dropn 3 rfl), fun _ s => s⟩
 refine Vm rfl ?_
 obtain ⟨c2, e4, hm⟩ := bind_some hm
 refine WL.cut_bool 4 15 (x := c2) ?_ ?_
 ·
  rcases Bool.eq_false_or_eq_true c1 with hc6 | hc6
  ·
   replace hm := ite_t hc6 e4
   refine wy hc6 rfl (ov_load_whole (i := 1) isAgg28 sizeOf28 rfl rfl rfl rfl) ?_
   refine wy hc6 rfl (ov_load_whole (i := 0) isAgg28 sizeOf28 rfl rfl rfl rfl) ?_
   obtain ⟨r3, e5, hm⟩ := bind_some hm
   refine WL.quiet (Runs.yes rfl rfl rfl hc6) rfl rfl (oq_con (r := (.bool r3)) call49 rfl rfl (fun w' s => ⟨_, (ref15_equal_con 600 p_a p_b ao1 cap1 ao2 cap2 ao3 cap3 ao4 cap4  w' H s.hold h1 hc1 h2 hc2 h3 hc3 h4 hc4 hG r3 e5)⟩)) ?_
   refine V rfl (ov_pick_true rfl (guard_eq rfl hc6) rfl) ?_
   exact WL.nil ⟨Sub.cons' rfl (congrArg Value.bool (Option.some.inj hm)) (Sub.dropn 4 rfl), fun _ s => s⟩
  replace hm := ite_f hc6 e4
  refine Vi rfl (Idle.no rfl rfl rfl hc6) (Vi rfl (Idle.no rfl rfl rfl hc6) (Vi rfl (Idle.no rfl rfl rfl hc6) (V rfl (ov_pick_false rfl (guard_eq rfl hc6) rfl) ?_)))
  exact WL.nil ⟨Sub.cons' rfl (congrArg Value.bool (Option.some.inj hm)) (Sub.dropn 4 rfl), fun _ s => s⟩
 refine Va rfl (WL.nil (tn (WP.ret ?_)))
 obtain rfl := Option.some.inj hm
 refine retQ_ret results14 (Res.tmp rfl Res.nil) rfl (fun w' s => ⟨s.below, ?_⟩)
 exact rfl
theorem ref15_short_body_con (self : Node → Option Bool) (hself : ∀ (p_x : Node) (ao1 : Option Addr) (cap1 : Nat) (ao2 : Option Addr) (cap2 : Nat) (w : World) (H : Heap) (hH : Le H (hp w)) (h1 : SL H encStroke ao1 p_x.step.strokes) (hc1 : p_x.step.strokes.length ≤ cap1) (h2 : SL H encNode ao2 p_x.nodes) (hc2 : p_x.nodes.length ≤ cap2) (hG : Glob H) (r : Bool) (hm : self p_x = some r), Con prog 93 [(.agg #[(.int .i64 p_x.kind), (.slice ao1 p_x.step.strokes.length cap1), (.int .i64 p_x.step.wait), (.int .i64 p_x.count), (mkS p_x.name), (.slice ao2 p_x.nodes.length cap2)])] w H (fun v _ => v = (.bool r))) (p_x : Node) (ao1 : Option Addr) (cap1 : Nat) (ao2 : Option Addr) (cap2 : Nat) (w : World) (H : Heap) (hH : Le H (hp w)) (h1 : SL H encStroke ao1 p_x.step.strokes) (hc1 : p_x.step.strokes.length ≤ cap1) (h2 : SL H encNode ao2 p_x.nodes) (hc2 : p_x.nodes.length ≤ cap2) (hG : Glob H) (r : Bool) (hm : ref15_short_body self p_x = some r) :
  Con prog 93 [(.agg #[(.int .i64 p_x.kind), (.slice ao1 p_x.step.strokes.length cap1), (.int .i64 p_x.step.wait), (.int .i64 p_x.count), (mkS p_x.name), (.slice ao2 p_x.nodes.length cap2)])] w H (fun v _ => v = (.bool r)) := by
 unfold ref15_short_body at hm
 refine con_of hH func93 rfl 29 ntmps93 rfl ?_
 refine WP.seq (WP.region ?_)
 refine ws rfl (os_box (cs := [(.int .i64 p_x.kind), (.slice ao1 p_x.step.strokes.length cap1), (.int .i64 p_x.step.wait), (.int .i64 p_x.count), (mkS p_x.name), (.slice ao2 p_x.nodes.length cap2)]) rfl rfl rfl (fun b1 => ?_))
 refine Va rfl (WL.nil (tn (WP.seq (WP.seq (WP.region (V rfl (ov_fieldAddr underlying28 rfl rfl rfl sizeOf25 rfl rfl) (V rfl (ov_fieldAddr underlying25 rfl rfl rfl sizeOf23 rfl rfl) (Vl 0 isAgg23 rfl (V rfl (ov_len_slice underlying23 rfl rfl) (V rfl (ov_gtr rfl rfl rfl) (Vm rfl ?_)))))))))))
 refine WL.cut_bool 5 14 (x := ((decide ((p_x.step.strokes.length : Int) > 40)) || (decide ((p_x.name.length : Int) > 60)))) ?_ ?_
 ·
  rcases Bool.eq_false_or_eq_true (decide ((p_x.step.strokes.length : Int) > 40)) with hc3 | hc3
  ·
   refine Vi rfl (Idle.no rfl rfl rfl hc3) (Vi rfl (Idle.no rfl rfl rfl hc3) (Vi rfl (Idle.no rfl rfl rfl hc3) (Vi rfl (Idle.no rfl rfl rfl hc3) (V rfl (ov_pick_true rfl (guard_eq rfl hc3) rfl) ?_))))
   exact WL.nil ⟨Sub.cons' rfl (congrArg Value.bool (orT hc3)) (Sub.dropn 5 rfl), fun _ s => s⟩
  refine wy hc3 rfl (ov_fieldAddr underlying28 rfl rfl rfl sizeOf9 rfl rfl) ?_
  refine wy hc3 rfl (ov_load_box (i := 0) isAgg9 rfl rfl rfl rfl) ?_
  refine wy hc3 rfl (ov_len_string underlying9 rfl rfl) ?_
  refine wy hc3 rfl (ov_gtr rfl rfl rfl) ?_
  refine V rfl (ov_pick_false rfl (guard_eq rfl hc3) rfl) ?_
  exact WL.nil ⟨Sub.cons' rfl (congrArg Value.bool (orF hc3)) (Sub.dropn 5 rfl), fun _ s => s⟩
 refine WL.nil (tn ?_)
 refine WP.cond rfl (fun hc4 => ?_) (fun hc4 => ?_)
 ·
  replace hm := ite_t hc4 hm
  refine WP.seq (WP.region (Va rfl (WL.nil (tn (WP.ret (then_ret ?_))))))
  obtain rfl := Option.some.inj hm
  refine retQ_ret results93 (Res.tmp rfl Res.nil) rfl (fun w' s => ⟨s.below, ?_⟩)
  exact rfl
 replace hm := ite_f hc4 hm
 refine WP.skip (tn ?_)
 obtain ⟨k1, hk1, hm⟩ := joinK_some hm
 refine WP.seq_join (fun g' S' => Sub [(1000000007, (.bool false))] g' ∧ (∀ w', S' w' → St w H [] H w') ∧ k1 = some r) ?_ ?_
 ·
  refine WP.seq (WP.region (Va rfl (WL.nil (tn (WP.block ?_)))))
  refine WP.loop (fun m1 g' S' => ∃ (i1 : Int), Sub [(1, (pB b1 0)), (3, (.int .i64 i1)), (1000000007, (.bool false))] g' ∧ (∀ w', S' w' → St w H [.blk b1 28 [(.int .i64 p_x.kind), (.slice ao1 p_x.step.strokes.length cap1), (.int .i64 p_x.step.wait), (.int .i64 p_x.count), (mkS p_x.name), (.slice ao2 p_x.nodes.length cap2)]] H w') ∧ ref15_short_loop1 p_x self k1 m1 i1 = some r) ((Int.toNat ((p_x.nodes.length : Int) - 0) + 1)) ⟨0, (Sub.all rfl), fun w' s => s, hm⟩ ?_ ?_
  ·
   rintro g' S' ⟨_, _, _, hm⟩
   exact none_some hm
  rintro m1 g' S' ⟨i1, hsub1, hS1, hm⟩
  refine WP.sub hsub1 (WP.weaken hS1 ?_)
  rw [ref15_short_loop1] at hm
  refine WP.seq (WP.seq (WP.region (Vm rfl (V rfl (ov_fieldAddr underlying28 rfl rfl rfl sizeOf26 rfl rfl) (Vl 0 isAgg26 rfl (V rfl (ov_len_slice underlying26 rfl rfl) (V rfl (ov_lss rfl rfl rfl) (WL.nil (tn ?_)))))))))
  refine WP.cond rfl (fun hc5 => ?_) (fun hc5 => ?_)
  ·
   replace hm := ite_t hc5 hm
   refine WP.skip (tn (WP.seq (WP.block (WP.seq (WP.region (V rfl (ov_fieldAddr underlying28 rfl rfl rfl sizeOf26 rfl rfl) (Vl 0 isAgg26 rfl (Vm rfl ?_))))))))
   obtain ⟨x1, e1, hm⟩ := bind_some hm
   obtain ⟨h5, h6, h7, cs1, h8, h9⟩ := h2.get e1 (by decide)
   obtain ⟨ao3, cap3, ao4, cap4, rfl, h3, hc6, h4, hc7⟩ := (encNode_open h8)
   refine V rfl (ov_indexAddr underlying26 sizeOf28 rfl rfl rfl h5 h6 h7) (V rfl (ov_load_elems (vs := [(.int .i64 x1.kind), (.slice ao3 x1.step.strokes.length cap3), (.int .i64 x1.step.wait), (.int .i64 x1.count), (mkS x1.name), (.slice ao4 x1.nodes.length cap4)]) isAgg28 sizeOf28 rfl rfl rfl h9 h7) ?_)
   obtain ⟨r1, e2, hm⟩ := bind_some hm
   refine wo rfl (oq_con (r := (.bool r1)) call93 rfl rfl (fun w' s => ⟨_, (hself x1 ao3 cap3 ao4 cap4  w' H s.hold h3 hc6 h4 hc7 hG r1 e2)⟩)) ?_
   refine V rfl (ov_not rfl rfl) (WL.nil (tn ?_))
   refine WP.cond rfl (fun hc8 => ?_) (fun hc8 => ?_)
   ·
    replace hm := ite_t hc8 hm
    refine WP.seq (WP.region (Va rfl (WL.nil (tn (WP.ret (block_ret (then_ret (then_ret (block_ret (then_ret ?_))))))))))
    obtain rfl := Option.some.inj hm
    refine retQ_ret results93 (Res.tmp rfl Res.nil) rfl (fun w' s => ⟨s.below, ?_⟩)
    exact rfl
   replace hm := ite_f hc8 hm
   refine WP.skip (bn (tn (WP.region (Vm rfl (V rfl (ov_add rfl rfl rfl) (Va rfl (WL.nil (tn ?_))))))))
   exact ⟨(IntKind.wrap .i64 (i1 + 1)), (Sub.all rfl), fun w' s => s, hm⟩
  replace hm := ite_f hc5 hm
  refine WP.exit (then_exit (then_exit (block_here (tn ?_))))
  exact ⟨(Sub.all rfl), fun w' s => (s.select [] (by decide) rfl), hm⟩
 rintro g' S' ⟨hsub2, hS2, hm⟩
 refine WP.sub hsub2 (WP.weaken hS2 ?_)
 replace hm := hk1.symm.trans hm
 refine WP.seq (WP.region (Va rfl (WL.nil (tn (WP.ret ?_)))))
 obtain rfl := Option.some.inj hm
 refine retQ_ret results93 (Res.tmp rfl Res.nil) rfl (fun w' s => ⟨s.below, ?_⟩)
 exact rfl
theorem ref15_short_con (n : Nat) : ∀ (p_x : Node) (ao1 : Option Addr) (cap1 : Nat) (ao2 : Option Addr) (cap2 : Nat) (w : World) (H : Heap) (hH : Le H (hp w)) (h1 : SL H encStroke ao1 p_x.step.strokes) (hc1 : p_x.step.strokes.length ≤ cap1) (h2 : SL H encNode ao2 p_x.nodes) (hc2 : p_x.nodes.length ≤ cap2) (hG : Glob H) (r : Bool) (hm : ref15_short n p_x = some r),
  Con prog 93 [(.agg #[(.int .i64 p_x.kind), (.slice ao1 p_x.step.strokes.length cap1), (.int .i64 p_x.step.wait), (.int .i64 p_x.count), (mkS p_x.name), (.slice ao2 p_x.nodes.length cap2)])] w H (fun v _ => v = (.bool r)) := by
 induction n with
 | zero => intro p_x ao1 cap1 ao2 cap2 w H hH h1 hc1 h2 hc2 hG r hm; exact (none_some hm).elim
 | succ n ih => intro p_x ao1 cap1 ao2 cap2 w H hH h1 hc1 h2 hc2 hG r hm; exact ref15_short_body_con (ref15_short n) ih p_x ao1 cap1 ao2 cap2 w H hH h1 hc1 h2 hc2 hG r hm
theorem ref15_Few_con (p_x : Node) (ao1 : Option Addr) (cap1 : Nat) (ao2 : Option Addr) (cap2 : Nat) (w : World) (H : Heap) (hH : Le H (hp w)) (h1 : SL H encStroke ao1 p_x.step.strokes) (hc1 : p_x.step.strokes.length ≤ cap1) (h2 : SL H encNode ao2 p_x.nodes) (hc2 : p_x.nodes.length ≤ cap2) (hG : Glob H) (r : Bool) (hm : ref15_Few p_x = some r) :
  Con prog 50 [(.agg #[(.int .i64 p_x.kind), (.slice ao1 p_x.step.strokes.length cap1), (.int .i64 p_x.step.wait), (.int .i64 p_x.count), (mkS p_x.name), (.slice ao2 p_x.nodes.length cap2)])] w H (fun v _ => v = (.bool r)) := by
 unfold ref15_Few at hm
 refine con_of hH func50 rfl 27 ntmps50 rfl ?_
 refine WP.seq (WP.region ?_)
 refine ws rfl (os_box (cs := [(.int .i64 p_x.kind), (.slice ao1 p_x.step.strokes.length cap1), (.int .i64 p_x.step.wait), (.int .i64 p_x.count), (mkS p_x.name), (.slice ao2 p_x.nodes.length cap2)]) rfl rfl rfl (fun b1 => ?_))
 refine Va rfl (WL.nil (tn (WP.seq (WP.region (V rfl (ov_load_whole (i := 0) isAgg28 sizeOf28 rfl rfl rfl rfl) ?_)))))
 obtain ⟨r1, e1, hm⟩ := bind_some hm
 refine wo rfl (oq_con (r := (.int .i64 r1)) call77 rfl rfl (fun w' s => ⟨_, (ref15_count_con 600 p_x 512 ao1 cap1 ao2 cap2  w' H s.hold h1 hc1 h2 hc2 hG r1 e1)⟩)) ?_
 refine Va rfl (WL.nil (tn (WP.seq (WP.seq (WP.region (Vm rfl (V rfl (ov_gtr rfl rfl rfl) (Vm rfl ?_))))))))
 refine WL.cut_bool 3 11 (x := ((decide (r1 > 30)) && (decide (r1 ≤ 256)))) ?_ ?_
 ·
  rcases Bool.eq_false_or_eq_true (decide (r1 > 30)) with hc3 | hc3
  ·
   refine wy hc3 rfl (ov_move rfl rfl) ?_
   refine wy hc3 rfl (ov_leq rfl rfl rfl) ?_
   refine V rfl (ov_pick_true rfl (guard_eq rfl hc3) rfl) ?_
   exact WL.nil ⟨Sub.cons' rfl (congrArg Value.bool (andT hc3)) (Sub.dropn 3 rfl), fun _ s => s⟩
  refine Vi rfl (Idle.no rfl rfl rfl hc3) (Vi rfl (Idle.no rfl rfl rfl hc3) (V rfl (ov_pick_false rfl (guard_eq rfl hc3) rfl) ?_))
  exact WL.nil ⟨Sub.cons' rfl (congrArg Value.bool (andF hc3)) (Sub.dropn 3 rfl), fun _ s => s⟩
 refine Vm rfl ?_
 refine WL.cut_bool 3 15 (x := (((decide (r1 > 30)) && (decide (r1 ≤ 256))) || (decide (r1 > 512)))) ?_ ?_
 ·
  rcases Bool.eq_false_or_eq_true ((decide (r1 > 30)) && (decide (r1 ≤ 256))) with hc4 | hc4
  ·
   refine Vi rfl (Idle.no rfl rfl rfl hc4) (Vi rfl (Idle.no rfl rfl rfl hc4) (V rfl (ov_pick_true rfl (guard_eq rfl hc4) rfl) ?_))
   exact WL.nil ⟨Sub.cons' rfl (congrArg Value.bool (orT hc4)) (Sub.dropn 3 rfl), fun _ s => s⟩
  refine wy hc4 rfl (ov_move rfl rfl) ?_
  refine wy hc4 rfl (ov_gtr rfl rfl rfl) ?_
  refine V rfl (ov_pick_false rfl (guard_eq rfl hc4) rfl) ?_
  exact WL.nil ⟨Sub.cons' rfl (congrArg Value.bool (orF hc4)) (Sub.dropn 3 rfl), fun _ s => s⟩
 refine Vm rfl ?_
 obtain ⟨c1, e2, hm⟩ := bind_some hm
 refine WL.cut_bool 4 20 (x := c1) ?_ ?_
 ·
  rcases Bool.eq_false_or_eq_true (((decide (r1 > 30)) && (decide (r1 ≤ 256))) || (decide (r1 > 512))) with hc5 | hc5
  ·
   replace hm := ite_t hc5 e2
   refine Vi rfl (Idle.no rfl rfl rfl hc5) (Vi rfl (Idle.no rfl rfl rfl hc5) (Vi rfl (Idle.no rfl rfl rfl hc5) (V rfl (ov_pick_true rfl (guard_eq rfl hc5) rfl) ?_)))
   exact WL.nil ⟨Sub.cons' rfl (congrArg Value.bool (Option.some.inj hm)) (Sub.dropn 4 rfl), fun _ s => s⟩
  replace hm := ite_f hc5 e2
  refine wy hc5 rfl (ov_load_whole (i := 0) isAgg28 sizeOf28 rfl rfl rfl rfl) ?_
  obtain ⟨r2, e3, hm⟩ := bind_some hm
  refine WL.quiet (Runs.yes rfl rfl rfl hc5) rfl rfl (oq_con (r := (.bool r2)) call78 rfl rfl (fun w' s => ⟨_, (ref15_deep_con 600 p_x 40 ao1 cap1 ao2 cap2  w' H s.hold h1 hc1 h2 hc2 hG r2 e3)⟩)) ?_
  refine wy hc5 rfl (ov_not rfl rfl) ?_
  refine V rfl (ov_pick_false rfl (guard_eq rfl hc5) rfl) ?_
  exact WL.nil ⟨Sub.cons' rfl (congrArg Value.bool (Option.some.inj hm)) (Sub.dropn 4 rfl), fun _ s => s⟩
 refine WL.nil (tn ?_)
 refine WP.cond rfl (fun hc6 => ?_) (fun hc6 => ?_)
 ·
  replace hm := ite_t hc6 hm
  refine WP.seq (WP.region (Va rfl (WL.nil (tn (WP.ret (then_ret ?_))))))
  obtain rfl := Option.some.inj hm
  refine retQ_ret results50 (Res.tmp rfl Res.nil) rfl (fun w' s => ⟨s.below, ?_⟩)
  exact rfl
 replace hm := ite_f hc6 hm
 refine WP.skip (tn (WP.seq (WP.region (Vm rfl (V rfl (ov_gtr rfl rfl rfl) (Vm rfl ?_))))))
 obtain ⟨c2, e4, hm⟩ := bind_some hm
 refine WL.cut_bool 3 26 (x := c2) ?_ ?_
 ·
  rcases Bool.eq_false_or_eq_true (decide (r1 > 256)) with hc7 | hc7
  ·
   replace hm := ite_t hc7 e4
   refine Vi rfl (Idle.no rfl rfl rfl hc7) (Vi rfl (Idle.no rfl rfl rfl hc7) (V rfl (ov_pick_true rfl (guard_eq rfl hc7) rfl) ?_))
   exact WL.nil ⟨Sub.cons' rfl (congrArg Value.bool (Option.some.inj hm)) (Sub.dropn 3 rfl), fun _ s => s⟩
  replace hm := ite_f hc7 e4
  refine wy hc7 rfl (ov_load_whole (i := 0) isAgg28 sizeOf28 rfl rfl rfl rfl) ?_
  obtain ⟨r3, e5, hm⟩ := bind_some hm
  refine WL.quiet (Runs.yes rfl rfl rfl hc7) rfl rfl (oq_con (r := (.bool r3)) call93 rfl rfl (fun w' s => ⟨_, (ref15_short_con 600 p_x ao1 cap1 ao2 cap2  w' H s.hold h1 hc1 h2 hc2 hG r3 e5)⟩)) ?_
  refine V rfl (ov_pick_false rfl (guard_eq rfl hc7) rfl) ?_
  exact WL.nil ⟨Sub.cons' rfl (congrArg Value.bool (Option.some.inj hm)) (Sub.dropn 3 rfl), fun _ s => s⟩
 refine Va rfl (WL.nil (tn (WP.ret ?_)))
 obtain rfl := Option.some.inj hm
 refine retQ_ret results50 (Res.tmp rfl Res.nil) rfl (fun w' s => ⟨s.below, ?_⟩)
 exact rfl
theorem ref15_FewNames_con (p_l : (List (List UInt8))) (ao1 : Option Addr) (cap1 : Nat) (w : World) (H : Heap) (hH : Le H (hp w)) (h1 : SL H encStr ao1 p_l) (hc1 : p_l.length ≤ cap1) (hG : Glob H) (r : Bool) (hm : ref15_FewNames p_l = some r) :
  Con prog 51 [(.slice ao1 p_l.length cap1)] w H (fun v _ => v = (.bool r)) := by
 unfold ref15_FewNames at hm
 refine con_of hH func51 rfl 23 ntmps51 rfl ?_
 refine WP.seq (WP.region (Va rfl (WL.nil (tn ?_))))
 obtain ⟨k1, hk1, hm⟩ := joinK_some hm
 refine WP.seq_join (fun g' S' => Sub [(0, (.slice ao1 p_l.length cap1)), (1000000007, (.bool false))] g' ∧ (∀ w', S' w' → St w H [] H w') ∧ k1 = some r) ?_ ?_
 ·
  refine WP.seq (WP.region (Va rfl (WL.nil (tn (WP.block ?_)))))
  refine WP.loop (fun m1 g' S' => ∃ (i1 : Int), Sub [(0, (.slice ao1 p_l.length cap1)), (3, (.int .i64 i1)), (1000000007, (.bool false))] g' ∧ (∀ w', S' w' → St w H [] H w') ∧ ref15_FewNames_loop1 p_l k1 m1 i1 = some r) ((p_l.length + 1)) ⟨0, (Sub.all rfl), fun w' s => s, hm⟩ ?_ ?_
  ·
   rintro g' S' ⟨_, _, _, hm⟩
   exact none_some hm
  rintro m1 g' S' ⟨i1, hsub1, hS1, hm⟩
  refine WP.sub hsub1 (WP.weaken hS1 ?_)
  rw [ref15_FewNames_loop1] at hm
  refine WP.seq (WP.seq (WP.region (Vm rfl (Vm rfl (V rfl (ov_len_slice underlying36 rfl rfl) (V rfl (ov_lss rfl rfl rfl) (Vm rfl ?_)))))))
  refine WL.cut_bool 3 11 (x := ((decide (i1 < (p_l.length : Int))) && (decide (i1 < 20)))) ?_ ?_
  ·
   rcases Bool.eq_false_or_eq_true (decide (i1 < (p_l.length : Int))) with hc2 | hc2
   ·
    refine wy hc2 rfl (ov_move rfl rfl) ?_
    refine wy hc2 rfl (ov_lss rfl rfl rfl) ?_
    refine V rfl (ov_pick_true rfl (guard_eq rfl hc2) rfl) ?_
    exact WL.nil ⟨Sub.cons' rfl (congrArg Value.bool (andT hc2)) (Sub.dropn 3 rfl), fun _ s => s⟩
   refine Vi rfl (Idle.no rfl rfl rfl hc2) (Vi rfl (Idle.no rfl rfl rfl hc2) (V rfl (ov_pick_false rfl (guard_eq rfl hc2) rfl) ?_))
   exact WL.nil ⟨Sub.cons' rfl (congrArg Value.bool (andF hc2)) (Sub.dropn 3 rfl), fun _ s => s⟩
  refine WL.nil (tn ?_)
  refine WP.cond rfl (fun hc3 => ?_) (fun hc3 => ?_)
  ·
   replace hm := ite_t hc3 hm
   refine WP.skip (tn (WP.seq (WP.block (WP.seq (WP.region (Vm rfl (Vm rfl ?_)))))))
   obtain ⟨x1, e1, hm⟩ := bind_some hm
   obtain ⟨h2, h3, h4, cs1, h5, h6⟩ := h1.get e1 (by decide)
   obtain rfl : cs1 = [(mkS x1)] := h5
   refine V rfl (ov_indexAddr underlying36 sizeOf9 rfl rfl rfl h2 h3 h4) (V rfl (ov_load_elem (v := (mkS x1)) isAgg9 rfl rfl h6) (V rfl (ov_len_string underlying9 rfl rfl) (V rfl (ov_gtr rfl rfl rfl) (WL.nil (tn ?_)))))
   refine WP.cond rfl (fun hc4 => ?_) (fun hc4 => ?_)
   ·
    replace hm := ite_t hc4 hm
    refine WP.seq (WP.region (Va rfl (WL.nil (tn (WP.ret (block_ret (then_ret (then_ret (block_ret (then_ret ?_))))))))))
    obtain rfl := Option.some.inj hm
    refine retQ_ret results51 (Res.tmp rfl Res.nil) rfl (fun w' s => ⟨s.below, ?_⟩)
    exact rfl
   replace hm := ite_f hc4 hm
   refine WP.skip (bn (tn (WP.region (Vm rfl (V rfl (ov_add rfl rfl rfl) (Va rfl (WL.nil (tn ?_))))))))
   exact ⟨(IntKind.wrap .i64 (i1 + 1)), (Sub.all rfl), fun w' s => s, hm⟩
  replace hm := ite_f hc3 hm
  refine WP.exit (then_exit (then_exit (block_here (tn ?_))))
  exact ⟨(Sub.all rfl), fun w' s => s, hm⟩
 rintro g' S' ⟨hsub2, hS2, hm⟩
 refine WP.sub hsub2 (WP.weaken hS2 ?_)
 replace hm := hk1.symm.trans hm
 refine WP.seq (WP.region (Vm rfl (V rfl (ov_len_slice underlying36 rfl rfl) (V rfl (ov_leq rfl rfl rfl) (Va rfl (WL.nil (tn (WP.ret ?_))))))))
 obtain rfl := Option.some.inj hm
 refine retQ_ret results51 (Res.tmp rfl Res.nil) rfl (fun w' s => ⟨s.below, ?_⟩)
 exact rfl
theorem law15_few_con (p_x : Node) (p_names : (List (List UInt8))) (ao1 : Option Addr) (cap1 : Nat) (ao2 : Option Addr) (cap2 : Nat) (ao3 : Option Addr) (cap3 : Nat) (w : World) (H : Heap) (hH : Le H (hp w)) (h1 : SL H encStroke ao1 p_x.step.strokes) (hc1 : p_x.step.strokes.length ≤ cap1) (h2 : SL H encNode ao2 p_x.nodes) (hc2 : p_x.nodes.length ≤ cap2) (h3 : SL H encStr ao3 p_names) (hc3 : p_names.length ≤ cap3) (hG : Glob H) (r : Bool) (hm : law15_few p_x p_names = some r) :
  Con prog 15 [(.agg #[(.int .i64 p_x.kind), (.slice ao1 p_x.step.strokes.length cap1), (.int .i64 p_x.step.wait), (.int .i64 p_x.count), (mkS p_x.name), (.slice ao2 p_x.nodes.length cap2)]), (.slice ao3 p_names.length cap3)] w H (fun v _ => v = (.bool r)) := by
 unfold law15_few at hm
 refine con_of hH func15 rfl 11 ntmps15 rfl ?_
 refine WP.seq (WP.region ?_)
 refine ws rfl (os_box (cs := [(.int .i64 p_x.kind), (.slice ao1 p_x.step.strokes.length cap1), (.int .i64 p_x.step.wait), (.int .i64 p_x.count), (mkS p_x.name), (.slice ao2 p_x.nodes.length cap2)]) rfl rfl rfl (fun b1 => ?_))
 refine Va rfl (WL.nil (tn (WP.seq (WP.region (V rfl (ov_load_whole (i := 0) isAgg28 sizeOf28 rfl rfl rfl rfl) ?_)))))
 obtain ⟨r1, e1, hm⟩ := bind_some hm
 refine wo rfl (oq_con (r := (.bool r1)) call50 rfl rfl (fun w' s => ⟨_, (ref15_Few_con p_x ao1 cap1 ao2 cap2  w' H s.hold h1 hc1 h2 hc2 hG r1 e1)⟩)) ?_
 refine Vm rfl ?_
 obtain ⟨c1, e2, hm⟩ := bind_some hm
 refine WL.cut_bool 3 10 (x := c1) ?_ ?_
 ·
  rcases Bool.eq_false_or_eq_true r1 with hc4 | hc4
  ·
   replace hm := ite_t hc4 e2
   refine wy hc4 rfl (ov_move rfl rfl) ?_
   obtain ⟨r2, e3, hm⟩ := bind_some hm
   refine WL.quiet (Runs.yes rfl rfl rfl hc4) rfl rfl (oq_con (r := (.bool r2)) call51 rfl rfl (fun w' s => ⟨_, (ref15_FewNames_con p_names ao3 cap3  w' H s.hold h3 hc3 hG r2 e3)⟩)) ?_
   refine V rfl (ov_pick_true rfl (guard_eq rfl hc4) rfl) ?_
   exact WL.nil ⟨Sub.cons' rfl (congrArg Value.bool (Option.some.inj hm)) (Sub.dropn 3 rfl), fun _ s => s⟩
  replace hm := ite_f hc4 e2
  refine Vi rfl (Idle.no rfl rfl rfl hc4) (Vi rfl (Idle.no rfl rfl rfl hc4) (V rfl (ov_pick_false rfl (guard_eq rfl hc4) rfl) ?_))
  exact WL.nil ⟨Sub.cons' rfl (congrArg Value.bool (Option.some.inj hm)) (Sub.dropn 3 rfl), fun _ s => s⟩
 refine Va rfl (WL.nil (tn (WP.ret ?_)))
 obtain rfl := Option.some.inj hm
 refine retQ_ret results15 (Res.tmp rfl Res.nil) rfl (fun w' s => ⟨s.below, ?_⟩)
 exact rfl
theorem ref15_Has_con (p_l : (List (List UInt8))) (p_s : (List UInt8)) (ao1 : Option Addr) (cap1 : Nat) (w : World) (H : Heap) (hH : Le H (hp w)) (h1 : SL H encStr ao1 p_l) (hc1 : p_l.length ≤ cap1) (hG : Glob H) (r : Bool) (hm : ref15_Has p_l p_s = some r) :
  Con prog 95 [(.slice ao1 p_l.length cap1), (mkS p_s)] w H (fun v _ => v = (.bool r)) := by
 unfold ref15_Has at hm
 refine con_of hH func95 rfl 18 ntmps95 rfl ?_
 refine WP.seq (WP.region (Va rfl (WL.nil (tn ?_))))
 obtain ⟨k1, hk1, hm⟩ := joinK_some hm
 refine WP.seq_join (fun g' S' => Sub [(1000000007, (.bool false))] g' ∧ (∀ w', S' w' → St w H [] H w') ∧ k1 = some r) ?_ ?_
 ·
  refine WP.seq (WP.region (Va rfl (WL.nil (tn (WP.block ?_)))))
  refine WP.loop (fun m1 g' S' => ∃ (i1 : Int), Sub [(0, (.slice ao1 p_l.length cap1)), (1, (mkS p_s)), (5, (.int .i64 i1)), (1000000007, (.bool false))] g' ∧ (∀ w', S' w' → St w H [] H w') ∧ ref15_Has_loop1 p_l p_s k1 m1 i1 = some r) ((Int.toNat ((p_l.length : Int) - 0) + 1)) ⟨0, (Sub.all rfl), fun w' s => s, hm⟩ ?_ ?_
  ·
   rintro g' S' ⟨_, _, _, hm⟩
   exact none_some hm
  rintro m1 g' S' ⟨i1, hsub1, hS1, hm⟩
  refine WP.sub hsub1 (WP.weaken hS1 ?_)
  rw [ref15_Has_loop1] at hm
  refine WP.seq (WP.seq (WP.region (Vm rfl (Vm rfl (V rfl (ov_len_slice underlying36 rfl rfl) (V rfl (ov_lss rfl rfl rfl) (WL.nil (tn ?_))))))))
  refine WP.cond rfl (fun hc2 => ?_) (fun hc2 => ?_)
  ·
   replace hm := ite_t hc2 hm
   refine WP.skip (tn (WP.seq (WP.block (WP.seq (WP.region (Vm rfl (Vm rfl ?_)))))))
   obtain ⟨x1, e1, hm⟩ := bind_some hm
   obtain ⟨h2, h3, h4, cs1, h5, h6⟩ := h1.get e1 (by decide)
   obtain rfl : cs1 = [(mkS x1)] := h5
   refine V rfl (ov_indexAddr underlying36 sizeOf9 rfl rfl rfl h2 h3 h4) (V rfl (ov_load_elem (v := (mkS x1)) isAgg9 rfl rfl h6) (Vm rfl (V rfl (ov_seql rfl rfl rfl) (WL.nil (tn ?_)))))
   refine WP.cond rfl (fun hc3 => ?_) (fun hc3 => ?_)
   ·
    replace hm := ite_t hc3 hm
    refine WP.seq (WP.region (Va rfl (WL.nil (tn (WP.ret (block_ret (then_ret (then_ret (block_ret (then_ret ?_))))))))))
    obtain rfl := Option.some.inj hm
    refine retQ_ret results95 (Res.tmp rfl Res.nil) rfl (fun w' s => ⟨s.below, ?_⟩)
    exact rfl
   replace hm := ite_f hc3 hm
   refine WP.skip (bn (tn (WP.region (Vm rfl (V rfl (ov_add rfl rfl rfl) (Va rfl (WL.nil (tn ?_))))))))
   exact ⟨(IntKind.wrap .i64 (i1 + 1)), (Sub.all rfl), fun w' s => s, hm⟩
  replace hm := ite_f hc2 hm
  refine WP.exit (then_exit (then_exit (block_here (tn ?_))))
  exact ⟨(Sub.all rfl), fun w' s => s, hm⟩
 rintro g' S' ⟨hsub2, hS2, hm⟩
 refine WP.sub hsub2 (WP.weaken hS2 ?_)
 replace hm := hk1.symm.trans hm
 refine WP.seq (WP.region (Va rfl (WL.nil (tn (WP.ret ?_)))))
 obtain rfl := Option.some.inj hm
 refine retQ_ret results95 (Res.tmp rfl Res.nil) rfl (fun w' s => ⟨s.below, ?_⟩)
 exact rfl
theorem ref15_Long_body_con (self : Node → (List (List UInt8)) → Option Int) (hself : ∀ (p_x : Node) (p_on : (List (List UInt8))) (ao1 : Option Addr) (cap1 : Nat) (ao2 : Option Addr) (cap2 : Nat) (ao3 : Option Addr) (cap3 : Nat) (w : World) (H : Heap) (hH : Le H (hp w)) (h1 : SL H encStroke ao1 p_x.step.strokes) (hc1 : p_x.step.strokes.length ≤ cap1) (h2 : SL H encNode ao2 p_x.nodes) (hc2 : p_x.nodes.length ≤ cap2) (h3 : SL H encStr ao3 p_on) (hc3 : p_on.length ≤ cap3) (hG : Glob H) (r : Int) (hm : self p_x p_on = some r), Con prog 54 [(.agg #[(.int .i64 p_x.kind), (.slice ao1 p_x.step.strokes.length cap1), (.int .i64 p_x.step.wait), (.int .i64 p_x.count), (mkS p_x.name), (.slice ao2 p_x.nodes.length cap2)]), (.slice ao3 p_on.length cap3)] w H (fun v _ => v = (.int .i64 r))) (p_x : Node) (p_on : (List (List UInt8))) (ao1 : Option Addr) (cap1 : Nat) (ao2 : Option Addr) (cap2 : Nat) (ao3 : Option Addr) (cap3 : Nat) (w : World) (H : Heap) (hH : Le H (hp w)) (h1 : SL H encStroke ao1 p_x.step.strokes) (hc1 : p_x.step.strokes.length ≤ cap1) (h2 : SL H encNode ao2 p_x.nodes) (hc2 : p_x.nodes.length ≤ cap2) (h3 : SL H encStr ao3 p_on) (hc3 : p_on.length ≤ cap3) (hG : Glob H) (r : Int) (hm : ref15_Long_body self p_x p_on = some r) :
  Con prog 54 [(.agg #[(.int .i64 p_x.kind), (.slice ao1 p_x.step.strokes.length cap1), (.int .i64 p_x.step.wait), (.int .i64 p_x.count), (mkS p_x.name), (.slice ao2 p_x.nodes.length cap2)]), (.slice ao3 p_on.length cap3)] w H (fun v _ => v = (.int .i64 r)) := by
 unfold ref15_Long_body at hm
 refine con_of hH func54 rfl 57 ntmps54 rfl ?_
 refine WP.seq (WP.region ?_)
 refine ws rfl (os_box (cs := [(.int .i64 p_x.kind), (.slice ao1 p_x.step.strokes.length cap1), (.int .i64 p_x.step.wait), (.int .i64 p_x.count), (mkS p_x.name), (.slice ao2 p_x.nodes.length cap2)]) rfl rfl rfl (fun b1 => ?_))
 refine Va rfl (WL.nil (tn (WP.seq (WP.region (Va rfl (WL.nil (tn ?_)))))))
 obtain ⟨k1, hk1, hm⟩ := joinK_some hm
 refine WP.seq_join (fun g' S' => ∃ (i4 : Int), Sub [(5, (.int .i64 i4)), (1000000007, (.bool false))] g' ∧ (∀ w', S' w' → St w H [] H w') ∧ k1 i4 = some r) ?_ ?_
 ·
  refine WP.seq (WP.region (V rfl (ov_fieldAddr underlying28 rfl rfl rfl sizeOf3 rfl rfl) (Vl 0 isAgg3 rfl (WL.nil (tn (WP.block (WP.seq (WP.region (V rfl (ov_eql rfl rfl rfl) (Va rfl (WL.nil (tn ?_))))))))))))
  refine WP.cond rfl (fun hc4 => ?_) (fun hc4 => ?_)
  ·
   replace hm := ite_t hc4 hm
   refine WP.region (Va rfl (WL.nil (bn (tn ?_))))
   exact ⟨1, (Sub.all rfl), fun w' s => (s.select [] (by decide) rfl), hm⟩
  replace hm := ite_f hc4 hm
  refine WP.seq (WP.region (V rfl (ov_eql rfl rfl rfl) (Va rfl (WL.nil (tn ?_)))))
  refine WP.cond rfl (fun hc5 => ?_) (fun hc5 => ?_)
  ·
   replace hm := ite_t hc5 hm
   refine WP.seq (WP.region (Va rfl (WL.nil (tn (WP.block ?_)))))
   refine WP.loop (fun m1 g' S' => ∃ (i1 : Int) (i2 : Int), Sub [(1, (.slice ao3 p_on.length cap3)), (2, (pB b1 0)), (5, (.int .i64 i1)), (6, (.int .i64 i2)), (1000000007, (.bool false))] g' ∧ (∀ w', S' w' → St w H [.blk b1 28 [(.int .i64 p_x.kind), (.slice ao1 p_x.step.strokes.length cap1), (.int .i64 p_x.step.wait), (.int .i64 p_x.count), (mkS p_x.name), (.slice ao2 p_x.nodes.length cap2)]] H w') ∧ ref15_Long_loop1 p_x p_on self k1 m1 i1 i2 = some r) ((Int.toNat ((p_x.nodes.length : Int) - 0) + 1)) ⟨0, 0, (Sub.all rfl), fun w' s => s, hm⟩ ?_ ?_
   ·
    rintro g' S' ⟨_, _, _, _, hm⟩
    exact none_some hm
   rintro m1 g' S' ⟨i1, i2, hsub1, hS1, hm⟩
   refine WP.sub hsub1 (WP.weaken hS1 ?_)
   rw [ref15_Long_loop1] at hm
   refine WP.seq (WP.seq (WP.region (Vm rfl (V rfl (ov_fieldAddr underlying28 rfl rfl rfl sizeOf26 rfl rfl) (Vl 0 isAgg26 rfl (V rfl (ov_len_slice underlying26 rfl rfl) (V rfl (ov_lss rfl rfl rfl) (WL.nil (tn ?_)))))))))
   refine WP.cond rfl (fun hc6 => ?_) (fun hc6 => ?_)
   ·
    replace hm := ite_t hc6 hm
    refine WP.skip (tn (WP.seq (WP.block (WP.region (Vm rfl (V rfl (ov_fieldAddr underlying28 rfl rfl rfl sizeOf26 rfl rfl) (Vl 0 isAgg26 rfl (Vm rfl ?_))))))))
    obtain ⟨x1, e1, hm⟩ := bind_some hm
    obtain ⟨h6, h7, h8, cs1, h9, h10⟩ := h2.get e1 (by decide)
    obtain ⟨ao4, cap4, ao5, cap5, rfl, h4, hc7, h5, hc8⟩ := (encNode_open h9)
    refine V rfl (ov_indexAddr underlying26 sizeOf28 rfl rfl rfl h6 h7 h8) (V rfl (ov_load_elems (vs := [(.int .i64 x1.kind), (.slice ao4 x1.step.strokes.length cap4), (.int .i64 x1.step.wait), (.int .i64 x1.count), (mkS x1.name), (.slice ao5 x1.nodes.length cap5)]) isAgg28 sizeOf28 rfl rfl rfl h10 h8) (Vm rfl ?_))
    obtain ⟨r1, e2, hm⟩ := bind_some hm
    refine wo rfl (oq_con (r := (.int .i64 r1)) call54 rfl rfl (fun w' s => ⟨_, (hself x1 p_on ao4 cap4 ao5 cap5 ao3 cap3  w' H s.hold h4 hc7 h5 hc8 h3 hc3 hG r1 e2)⟩)) ?_
    refine V rfl (ov_add rfl rfl rfl) (V rfl (ov_min rfl rfl rfl) (Va rfl (WL.nil (bn (tn (WP.region (Vm rfl (V rfl (ov_add rfl rfl rfl) (Va rfl (WL.nil (tn ?_)))))))))))
    exact ⟨(if (1048577 : Int) < (IntKind.wrap .i64 (i1 + r1)) then 1048577 else (IntKind.wrap .i64 (i1 + r1))), (IntKind.wrap .i64 (i2 + 1)), (Sub.all rfl), fun w' s => s, hm⟩
   replace hm := ite_f hc6 hm
   refine WP.exit (then_exit (then_exit (block_here (bn (tn ?_)))))
   exact ⟨i1, (Sub.all rfl), fun w' s => (s.select [] (by decide) rfl), hm⟩
  replace hm := ite_f hc5 hm
  refine WP.seq (WP.region (V rfl (ov_eql rfl rfl rfl) (Va rfl (WL.nil (tn ?_)))))
  refine WP.cond rfl (fun hc9 => ?_) (fun hc9 => ?_)
  ·
   replace hm := ite_t hc9 hm
   refine WP.region_draws (by kernel_rfl) (by kernel_rfl) (fun _ s => s.drew) ?_
   refine qf rfl (ov_fieldAddr underlying28 rfl rfl rfl sizeOf3 rfl rfl) ?_
   refine qf rfl (ov_load_box (i := 0) isAgg3 rfl rfl rfl rfl) ?_
   refine qf rfl (ov_fieldAddr underlying28 rfl rfl rfl sizeOf26 rfl rfl) ?_
   refine qf rfl (ov_load_box (i := 0) isAgg26 rfl rfl rfl rfl) ?_
   obtain ⟨x2, e3, hm⟩ := bind_some hm
   obtain ⟨h13, h14, h15, cs2, h16, h17⟩ := h2.get e3 (by decide)
   obtain ⟨ao6, cap6, ao7, cap7, rfl, h11, hc10, h12, hc11⟩ := (encNode_open h16)
   refine qf rfl (ov_indexAddr underlying26 sizeOf28 rfl rfl rfl h13 h14 h15) ?_
   refine qf rfl (ov_load_elems (vs := [(.int .i64 x2.kind), (.slice ao6 x2.step.strokes.length cap6), (.int .i64 x2.step.wait), (.int .i64 x2.count), (mkS x2.name), (.slice ao7 x2.nodes.length cap7)]) isAgg28 sizeOf28 rfl rfl rfl h17 h15) ?_
   refine qf rfl (ov_move rfl rfl) ?_
   obtain ⟨r2, e4, hm⟩ := bind_some hm
   refine QL.quiet (Runs.free rfl) rfl rfl (oq_con (r := (.int .i64 r2)) call54 rfl rfl (fun w' s => ⟨_, (hself x2 p_on ao6 cap6 ao7 cap7 ao3 cap3  w' H s.hold h11 hc10 h12 hc11 h3 hc3 hG r2 e4)⟩)) ?_
   refine qf rfl (ov_mul rfl rfl rfl) ?_
   refine qf rfl (ov_assign rfl rfl) ?_
   refine QL.nil ?_
   refine bn (tn ?_)
   exact ⟨(IntKind.wrap .i64 (p_x.count * r2)), (Sub.all rfl), fun w' s => (s.select [] (by decide) rfl), hm⟩
  replace hm := ite_f hc9 hm
  refine WP.seq (WP.region (V rfl (ov_eql rfl rfl rfl) (Va rfl (WL.nil (tn ?_)))))
  refine WP.cond rfl (fun hc12 => ?_) (fun hc12 => ?_)
  ·
   replace hm := ite_t hc12 hm
   refine WP.seq (WP.region (Va rfl (WL.nil (tn ?_))))
   obtain ⟨k2, hk2, hm⟩ := joinK_some hm
   refine WP.seq_join (fun g' S' => ∃ (i3 : Int), Sub [(1, (.slice ao3 p_on.length cap3)), (2, (pB b1 0)), (7, (.int .i64 i3)), (1000000007, (.bool false))] g' ∧ (∀ w', S' w' → St w H [.blk b1 28 [(.int .i64 p_x.kind), (.slice ao1 p_x.step.strokes.length cap1), (.int .i64 p_x.step.wait), (.int .i64 p_x.count), (mkS p_x.name), (.slice ao2 p_x.nodes.length cap2)]] H w') ∧ k2 i3 = some r) ?_ ?_
   ·
    refine WP.seq (WP.region (Vm rfl (V rfl (ov_fieldAddr underlying28 rfl rfl rfl sizeOf9 rfl rfl) (Vl 0 isAgg9 rfl ?_))))
    obtain ⟨r3, e5, hm⟩ := bind_some hm
    refine wo rfl (oq_con (r := (.bool r3)) call95 rfl rfl (fun w' s => ⟨_, (ref15_Has_con p_on p_x.name ao3 cap3  w' H s.hold h3 hc3 hG r3 e5)⟩)) ?_
    refine WL.nil (tn ?_)
    refine WP.cond rfl (fun hc13 => ?_) (fun hc13 => ?_)
    ·
     replace hm := ite_t hc13 hm
     refine WP.region (Va rfl (WL.nil (tn ?_)))
     exact ⟨0, (Sub.all rfl), fun w' s => s, hm⟩
    replace hm := ite_f hc13 hm
    refine WP.skip (tn ?_)
    exact ⟨1, (Sub.all rfl), fun w' s => s, hm⟩
   rintro g' S' ⟨i3, hsub2, hS2, hm⟩
   refine WP.sub hsub2 (WP.weaken hS2 ?_)
   replace hm := (congrFun hk2 i3).symm.trans hm
   refine WP.region (V rfl (ov_fieldAddr underlying28 rfl rfl rfl sizeOf26 rfl rfl) (Vl 0 isAgg26 rfl (Vm rfl ?_)))
   obtain ⟨x3, e6, hm⟩ := bind_some hm
   obtain ⟨h20, h21, h22, cs3, h23, h24⟩ := h2.get e6 (by decide)
   obtain ⟨ao8, cap8, ao9, cap9, rfl, h18, hc14, h19, hc15⟩ := (encNode_open h23)
   refine V rfl (ov_indexAddr underlying26 sizeOf28 rfl rfl rfl h20 h21 h22) (V rfl (ov_load_elems (vs := [(.int .i64 x3.kind), (.slice ao8 x3.step.strokes.length cap8), (.int .i64 x3.step.wait), (.int .i64 x3.count), (mkS x3.name), (.slice ao9 x3.nodes.length cap9)]) isAgg28 sizeOf28 rfl rfl rfl h24 h22) (Vm rfl ?_))
   obtain ⟨r4, e7, hm⟩ := bind_some hm
   refine wo rfl (oq_con (r := (.int .i64 r4)) call54 rfl rfl (fun w' s => ⟨_, (hself x3 p_on ao8 cap8 ao9 cap9 ao3 cap3  w' H s.hold h18 hc14 h19 hc15 h3 hc3 hG r4 e7)⟩)) ?_
   refine Va rfl (WL.nil (bn (tn ?_)))
   exact ⟨r4, (Sub.all rfl), fun w' s => (s.select [] (by decide) rfl), hm⟩
  replace hm := ite_f hc12 hm
  refine WP.skip (bn (tn ?_))
  exact ⟨0, (Sub.all rfl), fun w' s => (s.select [] (by decide) rfl), hm⟩
 rintro g' S' ⟨i4, hsub3, hS3, hm⟩
 refine WP.sub hsub3 (WP.weaken hS3 ?_)
 replace hm := (congrFun hk1 i4).symm.trans hm
 refine WP.seq (WP.region (Vm rfl (V rfl (ov_min rfl rfl rfl) (Va rfl (WL.nil (tn (WP.ret ?_)))))))
 obtain rfl := Option.some.inj hm
 refine retQ_ret results54 (Res.tmp rfl Res.nil) rfl (fun w' s => ⟨s.below, ?_⟩)
 exact rfl
theorem ref15_Long_con (n : Nat) : ∀ (p_x : Node) (p_on : (List (List UInt8))) (ao1 : Option Addr) (cap1 : Nat) (ao2 : Option Addr) (cap2 : Nat) (ao3 : Option Addr) (cap3 : Nat) (w : World) (H : Heap) (hH : Le H (hp w)) (h1 : SL H encStroke ao1 p_x.step.strokes) (hc1 : p_x.step.strokes.length ≤ cap1) (h2 : SL H encNode ao2 p_x.nodes) (hc2 : p_x.nodes.length ≤ cap2) (h3 : SL H encStr ao3 p_on) (hc3 : p_on.length ≤ cap3) (hG : Glob H) (r : Int) (hm : ref15_Long n p_x p_on = some r),
  Con prog 54 [(.agg #[(.int .i64 p_x.kind), (.slice ao1 p_x.step.strokes.length cap1), (.int .i64 p_x.step.wait), (.int .i64 p_x.count), (mkS p_x.name), (.slice ao2 p_x.nodes.length cap2)]), (.slice ao3 p_on.length cap3)] w H (fun v _ => v = (.int .i64 r)) := by
 induction n with
 | zero => intro p_x p_on ao1 cap1 ao2 cap2 ao3 cap3 w H hH h1 hc1 h2 hc2 h3 hc3 hG r hm; exact (none_some hm).elim
 | succ n ih => intro p_x p_on ao1 cap1 ao2 cap2 ao3 cap3 w H hH h1 hc1 h2 hc2 h3 hc3 hG r hm; exact ref15_Long_body_con (ref15_Long n) ih p_x p_on ao1 cap1 ao2 cap2 ao3 cap3 w H hH h1 hc1 h2 hc2 h3 hc3 hG r hm
theorem ref15_Done_body_con (self : Node → (List (List UInt8)) → Option (List Step)) (hself : ∀ (p_x : Node) (p_on : (List (List UInt8))) (ao1 : Option Addr) (cap1 : Nat) (ao2 : Option Addr) (cap2 : Nat) (ao3 : Option Addr) (cap3 : Nat) (w : World) (H : Heap) (hH : Le H (hp w)) (h1 : SL H encStroke ao1 p_x.step.strokes) (hc1 : p_x.step.strokes.length ≤ cap1) (h2 : SL H encNode ao2 p_x.nodes) (hc2 : p_x.nodes.length ≤ cap2) (h3 : SL H encStr ao3 p_on) (hc3 : p_on.length ≤ cap3) (hG : Glob H) (r : (List Step)) (hm : self p_x p_on = some r), Con prog 56 [(.agg #[(.int .i64 p_x.kind), (.slice ao1 p_x.step.strokes.length cap1), (.int .i64 p_x.step.wait), (.int .i64 p_x.count), (mkS p_x.name), (.slice ao2 p_x.nodes.length cap2)]), (.slice ao3 p_on.length cap3)] w H (fun v H' => ∃ (ao4 : Option Addr) (cap4 : Nat), v = (.slice ao4 r.length cap4) ∧ SL H' encStep ao4 r ∧ r.length ≤ cap4)) (p_x : Node) (p_on : (List (List UInt8))) (ao1 : Option Addr) (cap1 : Nat) (ao2 : Option Addr) (cap2 : Nat) (ao3 : Option Addr) (cap3 : Nat) (w : World) (H : Heap) (hH : Le H (hp w)) (h1 : SL H encStroke ao1 p_x.step.strokes) (hc1 : p_x.step.strokes.length ≤ cap1) (h2 : SL H encNode ao2 p_x.nodes) (hc2 : p_x.nodes.length ≤ cap2) (h3 : SL H encStr ao3 p_on) (hc3 : p_on.length ≤ cap3) (hG : Glob H) (r : (List Step)) (hm : ref15_Done_body self p_x p_on = some r) :
  Con prog 56 [(.agg #[(.int .i64 p_x.kind), (.slice ao1 p_x.step.strokes.length cap1), (.int .i64 p_x.step.wait), (.int .i64 p_x.count), (mkS p_x.name), (.slice ao2 p_x.nodes.length cap2)]), (.slice ao3 p_on.length cap3)] w H (fun v H' => ∃ (ao4 : Option Addr) (cap4 : Nat), v = (.slice ao4 r.length cap4) ∧ SL H' encStep ao4 r ∧ r.length ≤ cap4) := by
 unfold ref15_Done_body at hm
 refine con_of hH func56 rfl 61 ntmps56 rfl ?_
 refine WP.seq (WP.region ?_)
 refine ws rfl (os_box (cs := [(.int .i64 p_x.kind), (.slice ao1 p_x.step.strokes.length cap1), (.int .i64 p_x.step.wait), (.int .i64 p_x.count), (mkS p_x.name), (.slice ao2 p_x.nodes.length cap2)]) rfl rfl rfl (fun b1 => ?_))
 refine Va rfl (WL.nil (tn (WP.seq (WP.seq (WP.region (V rfl (ov_fieldAddr underlying28 rfl rfl rfl sizeOf3 rfl rfl) (Vl 0 isAgg3 rfl (WL.nil (tn (WP.block (WP.seq (WP.region (V rfl (ov_eql rfl rfl rfl) ?_)))))))))))))
 refine Va rfl (WL.nil (tn ?_))
 refine WP.cond rfl (fun hc5 => ?_) (fun hc5 => ?_)
 ·
  replace hm := ite_t hc5 hm
  refine WP.seq (WP.region (V rfl (ov_fieldAddr underlying28 rfl rfl rfl sizeOf25 rfl rfl) (V rfl (ov_load_boxes (i := 0) (vs := [(.slice ao1 p_x.step.strokes.length cap1), (.int .i64 p_x.step.wait)]) isAgg25 sizeOf25 rfl rfl rfl rfl (part_of rfl)) ?_)))
  have rl1 : RL H encStep ([p_x.step] : List Step) [(.slice ao1 p_x.step.strokes.length cap1), (.int .i64 p_x.step.wait)] := RL.cons (cs := [(.slice ao1 p_x.step.strokes.length cap1), (.int .i64 p_x.step.wait)]) (xs := []) ⟨ao1, cap1, rfl, h1, hc1⟩ (RL.nil _ _)
  refine ws rfl (os_buildSlice (cs := [(.slice ao1 p_x.step.strokes.length cap1), (.int .i64 p_x.step.wait)]) (E := 25) (sz := 2) rfl rfl (fun _ => by kernel_rfl) rfl (by decide) (fun b2 => ?_))
  refine WL.held rl1 (fun H1 hc6 hle1 h5 => ?_)
  replace h2 := h2.mono hle1
  replace h3 := h3.mono hle1
  replace hG := hG.mono hle1
  refine Va rfl (WL.nil (tn (WP.ret (block_ret (then_ret ?_)))))
  obtain rfl := Option.some.inj hm
  refine retQ_ret results56 (Res.tmp rfl Res.nil) rfl (fun w' s => ⟨s.below, ?_⟩)
  exact ⟨(some ⟨b2, 0, none⟩), 1, rfl, h5.mono s.le_newer, hc6⟩
 replace hm := ite_f hc5 hm
 refine WP.seq (WP.region (V rfl (ov_eql rfl rfl rfl) (Va rfl (WL.nil (tn ?_)))))
 refine WP.cond rfl (fun hc7 => ?_) (fun hc7 => ?_)
 ·
  replace hm := ite_t hc7 hm
  refine WP.seq (WP.seq (WP.region (Vm rfl (V rfl (ov_fieldAddr underlying28 rfl rfl rfl sizeOf9 rfl rfl) (Vl 0 isAgg9 rfl ?_)))))
  obtain ⟨r1, e1, hm⟩ := bind_some hm
  refine wo rfl (oq_con (r := (.bool r1)) call95 rfl rfl (fun w' s => ⟨_, (ref15_Has_con p_on p_x.name ao3 cap3  w' H s.hold h3 hc3 hG r1 e1)⟩)) ?_
  refine WL.nil (tn ?_)
  refine WP.cond rfl (fun hc8 => ?_) (fun hc8 => ?_)
  ·
   replace hm := ite_t hc8 hm
   refine WP.seq (WP.region (V rfl (ov_fieldAddr underlying28 rfl rfl rfl sizeOf26 rfl rfl) (Vl 0 isAgg26 rfl ?_)))
   obtain ⟨x1, e2, hm⟩ := bind_some hm
   obtain ⟨h8, h9, h10, cs1, h11, h12⟩ := h2.get e2 (by decide)
   obtain ⟨ao5, cap5, ao6, cap6, rfl, h6, hc9, h7, hc10⟩ := (encNode_open h11)
   refine V rfl (ov_indexAddr underlying26 sizeOf28 rfl rfl rfl h8 h9 h10) (V rfl (ov_load_elems (vs := [(.int .i64 x1.kind), (.slice ao5 x1.step.strokes.length cap5), (.int .i64 x1.step.wait), (.int .i64 x1.count), (mkS x1.name), (.slice ao6 x1.nodes.length cap6)]) isAgg28 sizeOf28 rfl rfl rfl h12 h10) (Vm rfl ?_))
   obtain ⟨r2, e3, hm⟩ := bind_some hm
   refine ws rfl (os_con call56 rfl rfl (fun w' s => (hself x1 p_on ao5 cap5 ao6 cap6 ao3 cap3  w' H s.hold h6 hc9 h7 hc10 h3 hc3 hG r2 e3)) (fun rr1 H2 hle2 hR1 => ?_))
   replace h2 := h2.mono hle2
   replace h3 := h3.mono hle2
   replace hG := hG.mono hle2
   obtain ⟨ao7, cap7, rfl, h13, hc11⟩ := hR1
   refine Va rfl (WL.nil (tn (WP.ret (then_ret (block_ret (then_ret ?_))))))
   obtain rfl := Option.some.inj hm
   refine retQ_ret results56 (Res.tmp rfl Res.nil) rfl (fun w' s => ⟨s.below, ?_⟩)
   exact ⟨ao7, cap7, rfl, h13.mono s.le_newer, hc11⟩
  replace hm := ite_f hc8 hm
  refine WP.skip (tn (WP.seq (WP.region (V rfl (ov_fieldAddr underlying28 rfl rfl rfl sizeOf26 rfl rfl) (Vl 0 isAgg26 rfl ?_)))))
  obtain ⟨x2, e4, hm⟩ := bind_some hm
  obtain ⟨h16, h17, h18, cs2, h19, h20⟩ := h2.get e4 (by decide)
  obtain ⟨ao8, cap8, ao9, cap9, rfl, h14, hc12, h15, hc13⟩ := (encNode_open h19)
  refine V rfl (ov_indexAddr underlying26 sizeOf28 rfl rfl rfl h16 h17 h18) (V rfl (ov_load_elems (vs := [(.int .i64 x2.kind), (.slice ao8 x2.step.strokes.length cap8), (.int .i64 x2.step.wait), (.int .i64 x2.count), (mkS x2.name), (.slice ao9 x2.nodes.length cap9)]) isAgg28 sizeOf28 rfl rfl rfl h20 h18) (Vm rfl ?_))
  obtain ⟨r3, e5, hm⟩ := bind_some hm
  refine ws rfl (os_con call56 rfl rfl (fun w' s => (hself x2 p_on ao8 cap8 ao9 cap9 ao3 cap3  w' H s.hold h14 hc12 h15 hc13 h3 hc3 hG r3 e5)) (fun rr2 H3 hle3 hR2 => ?_))
  replace h2 := h2.mono hle3
  replace h3 := h3.mono hle3
  replace hG := hG.mono hle3
  obtain ⟨ao10, cap10, rfl, h21, hc14⟩ := hR2
  refine Va rfl (WL.nil (tn (WP.ret (block_ret (then_ret ?_)))))
  obtain rfl := Option.some.inj hm
  refine retQ_ret results56 (Res.tmp rfl Res.nil) rfl (fun w' s => ⟨s.below, ?_⟩)
  exact ⟨ao10, cap10, rfl, h21.mono s.le_newer, hc14⟩
 replace hm := ite_f hc7 hm
 refine WP.skip (bn (tn (WP.seq (WP.region (Va rfl (WL.nil (tn ?_)))))))
 obtain ⟨k1, hk1, hm⟩ := joinK_some hm
 refine WP.seq_join (fun g' S' => ∃ (H7 : Heap) (l6 : (List Step)) (ao19 : Option Addr) (cap19 : Nat) (xs4 : List Value), Le H H7 ∧ RL H7 encStep l6 xs4 ∧ Sub [(5, (.slice ao19 l6.length cap19)), (1000000007, (.bool false))] g' ∧ (∀ w', S' w' → St w H [.row 25 (encStep).size l6.length (.slice ao19 l6.length cap19) xs4] H7 w') ∧ k1 l6 = some r) ?_ ?_
 ·
  refine WP.seq (WP.region (Va rfl (WL.nil (tn (WP.block ?_)))))
  have rl2 := RL.nil (α := Step) H encStep
  refine WP.weaken (fun _ s => s.nilrow 25 (encStep).size) ?_
  refine WP.loop (fun m1 g' S' => ∃ (H4 : Heap) (i1 : Int) (l1 : (List Step)) (ao11 : Option Addr) (cap11 : Nat) (xs1 : List Value), Le H H4 ∧ RL H4 encStep l1 xs1 ∧ Sub [(1, (.slice ao3 p_on.length cap3)), (2, (pB b1 0)), (5, (.slice ao11 l1.length cap11)), (6, (.int .i64 i1)), (1000000007, (.bool false))] g' ∧ (∀ w', S' w' → St w H [.row 25 (encStep).size l1.length (.slice ao11 l1.length cap11) xs1, .blk b1 28 [(.int .i64 p_x.kind), (.slice ao1 p_x.step.strokes.length cap1), (.int .i64 p_x.step.wait), (.int .i64 p_x.count), (mkS p_x.name), (.slice ao2 p_x.nodes.length cap2)]] H4 w') ∧ ref15_Done_loop1 p_x p_on self k1 m1 i1 l1 = some r) ((Int.toNat ((p_x.nodes.length : Int) - 0) + 1)) ⟨H, 0, ([] : List Step), none, 0, [], (Le.refl _), rl2, (Sub.all rfl), fun w' s => s, hm⟩ ?_ ?_
  ·
   rintro g' S' ⟨_, _, _, _, _, _, _, _, _, _, hm⟩
   exact none_some hm
  rintro m1 g' S' ⟨H4, i1, l1, ao11, cap11, xs1, hle4, rl3, hsub1, hS1, hm⟩
  refine WP.sub hsub1 (WP.weaken hS1 ?_)
  rw [ref15_Done_loop1] at hm
  replace h3 := h3.mono hle4
  replace h2 := h2.mono hle4
  replace hG := hG.mono hle4
  refine WP.seq (WP.seq (WP.region (Vm rfl (V rfl (ov_fieldAddr underlying28 rfl rfl rfl sizeOf26 rfl rfl) (Vl 1 isAgg26 rfl (V rfl (ov_len_slice underlying26 rfl rfl) (V rfl (ov_lss rfl rfl rfl) (WL.nil (tn ?_)))))))))
  refine WP.cond rfl (fun hc15 => ?_) (fun hc15 => ?_)
  ·
   replace hm := ite_t hc15 hm
   refine WP.skip (tn ?_)
   obtain ⟨k2, hk2, hm⟩ := joinK_some hm
   refine WP.seq_join (fun g' S' => ∃ (H6 : Heap) (l5 : (List Step)) (ao18 : Option Addr) (cap18 : Nat) (xs3 : List Value), Le H4 H6 ∧ RL H6 encStep l5 xs3 ∧ Sub [(1, (.slice ao3 p_on.length cap3)), (2, (pB b1 0)), (5, (.slice ao18 l5.length cap18)), (6, (.int .i64 i1)), (1000000007, (.bool false))] g' ∧ (∀ w', S' w' → St w H [.row 25 (encStep).size l5.length (.slice ao18 l5.length cap18) xs3, .blk b1 28 [(.int .i64 p_x.kind), (.slice ao1 p_x.step.strokes.length cap1), (.int .i64 p_x.step.wait), (.int .i64 p_x.count), (mkS p_x.name), (.slice ao2 p_x.nodes.length cap2)]] H6 w') ∧ k2 l5 = some r) ?_ ?_
   ·
    refine WP.block (WP.seq (WP.region (V rfl (ov_fieldAddr underlying28 rfl rfl rfl sizeOf26 rfl rfl) (Vl 1 isAgg26 rfl (Vm rfl ?_)))))
    obtain ⟨x3, e6, hm⟩ := bind_some hm
    obtain ⟨h24, h25, h26, cs3, h27, h28⟩ := h2.get e6 (by decide)
    obtain ⟨ao12, cap12, ao13, cap13, rfl, h22, hc16, h23, hc17⟩ := (encNode_open h27)
    refine V rfl (ov_indexAddr underlying26 sizeOf28 rfl rfl rfl h24 h25 h26) (V rfl (ov_load_elems (vs := [(.int .i64 x3.kind), (.slice ao12 x3.step.strokes.length cap12), (.int .i64 x3.step.wait), (.int .i64 x3.count), (mkS x3.name), (.slice ao13 x3.nodes.length cap13)]) isAgg28 sizeOf28 rfl rfl rfl h28 h26) (Vm rfl ?_))
    obtain ⟨r4, e7, hm⟩ := bind_some hm
    refine ws rfl (os_con call56 rfl rfl (fun w' s => (hself x3 p_on ao12 cap12 ao13 cap13 ao3 cap3  w' H4 s.hold h22 hc16 h23 hc17 h3 hc3 hG r4 e7)) (fun rr3 H5 hle5 hR3 => ?_))
    replace rl3 := rl3.mono hle5
    obtain ⟨ao14, cap14, rfl, h29, hc18⟩ := hR3
    refine Va rfl (WL.nil (tn (WP.seq (WP.region (Vm rfl (Vm rfl ?_))))))
    obtain ⟨l2, e8, hm⟩ := bind_some hm
    refine ws rfl (os_app_sl (i := 0) (En := encStep) (xs := xs1) underlying42 (by kernel_rfl : (prog.info? 25).map (fun i => (i.zero, i.size, i.bytes)) = some (some (.agg #[(.slice none 0 0), (.int .i64 0)]), (encStep).size, 32)) rfl (by decide) one_encStep rfl rfl rfl rfl h29 hc18 rl3 e8 (fun ao15 cap15 ys1 rl4 => ?_))
    refine Va rfl (WL.nil (tn (WP.seq (WP.region (Va rfl (WL.nil (tn (WP.block ?_))))))))
    refine WP.loop (fun m2 g' S' => ∃ (i2 : Int) (l3 : (List Step)) (ao16 : Option Addr) (cap16 : Nat) (xs2 : List Value), RL H5 encStep l3 xs2 ∧ Sub [(1, (.slice ao3 p_on.length cap3)), (2, (pB b1 0)), (5, (.slice ao16 l3.length cap16)), (6, (.int .i64 i1)), (7, (.slice ao14 r4.length cap14)), (8, (.int .i64 i2)), (1000000007, (.bool false))] g' ∧ (∀ w', S' w' → St w H [.row 25 (encStep).size l3.length (.slice ao16 l3.length cap16) xs2, .blk b1 28 [(.int .i64 p_x.kind), (.slice ao1 p_x.step.strokes.length cap1), (.int .i64 p_x.step.wait), (.int .i64 p_x.count), (mkS p_x.name), (.slice ao2 p_x.nodes.length cap2)]] H5 w') ∧ ref15_Done_loop2 p_x k2 r4 m2 i2 l3 = some r) ((Int.toNat (p_x.count - 1) + 1)) ⟨1, (l1 ++ r4), ao15, cap15, (xs1 ++ ys1), rl4, (Sub.all rfl), fun w' s => s, hm⟩ ?_ ?_
    ·
     rintro g' S' ⟨_, _, _, _, _, _, _, _, hm⟩
     exact none_some hm
    rintro m2 g' S' ⟨i2, l3, ao16, cap16, xs2, rl5, hsub2, hS2, hm⟩
    refine WP.sub hsub2 (WP.weaken hS2 ?_)
    rw [ref15_Done_loop2] at hm
    refine WP.seq (WP.seq (WP.region (Vm rfl (V rfl (ov_fieldAddr underlying28 rfl rfl rfl sizeOf3 rfl rfl) (Vl 1 isAgg3 rfl (V rfl (ov_lss rfl rfl rfl) (WL.nil (tn ?_))))))))
    refine WP.cond rfl (fun hc19 => ?_) (fun hc19 => ?_)
    ·
     replace hm := ite_t hc19 hm
     refine WP.skip (tn (WP.seq (WP.block (WP.region (Vm rfl (Vm rfl ?_))))))
     obtain ⟨l4, e9, hm⟩ := bind_some hm
     refine ws rfl (os_app_sl (i := 0) (En := encStep) (xs := xs2) underlying42 (by kernel_rfl : (prog.info? 25).map (fun i => (i.zero, i.size, i.bytes)) = some (some (.agg #[(.slice none 0 0), (.int .i64 0)]), (encStep).size, 32)) rfl (by decide) one_encStep rfl rfl rfl rfl h29 hc18 rl5 e9 (fun ao17 cap17 ys2 rl6 => ?_))
     refine Va rfl (WL.nil (bn (tn (WP.region (Vm rfl (V rfl (ov_add rfl rfl rfl) (Va rfl (WL.nil (tn ?_)))))))))
     exact ⟨(IntKind.wrap .i64 (i2 + 1)), (l3 ++ r4), ao17, cap17, (xs2 ++ ys2), rl6, (Sub.all rfl), fun w' s => s, hm⟩
    replace hm := ite_f hc19 hm
    refine WP.exit (then_exit (then_exit (block_here (bn (tn ?_)))))
    exact ⟨H5, l3, ao16, cap16, xs2, hle5, rl5, (Sub.all rfl), fun w' s => s, hm⟩
   rintro g' S' ⟨H6, l5, ao18, cap18, xs3, hle6, rl7, hsub3, hS3, hm⟩
   refine WP.sub hsub3 (WP.weaken hS3 ?_)
   replace hm := (congrFun hk2 l5).symm.trans hm
   refine WP.region (Vm rfl (V rfl (ov_add rfl rfl rfl) (Va rfl (WL.nil (tn ?_)))))
   exact ⟨H6, (IntKind.wrap .i64 (i1 + 1)), l5, ao18, cap18, xs3, (hle4.trans hle6), rl7, (Sub.all rfl), fun w' s => s, hm⟩
  replace hm := ite_f hc15 hm
  refine WP.exit (then_exit (then_exit (block_here (tn ?_))))
  exact ⟨H4, l1, ao11, cap11, xs1, hle4, rl3, (Sub.all rfl), fun w' s => (s.select [0] (by decide) rfl), hm⟩
 rintro g' S' ⟨H7, l6, ao19, cap19, xs4, hle7, rl8, hsub4, hS4, hm⟩
 refine WP.sub hsub4 (WP.weaken hS4 ?_)
 replace hm := (congrFun hk1 l6).symm.trans hm
 refine WP.seq (WP.region (Vm rfl (Va rfl (WL.nil (tn (WP.ret ?_))))))
 obtain rfl := Option.some.inj hm
 refine retQ_ret results56 (Res.tmp rfl Res.nil) rfl (fun w' s => ⟨s.below, ?_⟩)
 obtain ⟨h30, hc20⟩ := s.ret_row (i := 0) rfl rl8
 exact ⟨ao19, cap19, rfl, h30, hc20⟩
theorem ref15_Done_con (n : Nat) : ∀ (p_x : Node) (p_on : (List (List UInt8))) (ao1 : Option Addr) (cap1 : Nat) (ao2 : Option Addr) (cap2 : Nat) (ao3 : Option Addr) (cap3 : Nat) (w : World) (H : Heap) (hH : Le H (hp w)) (h1 : SL H encStroke ao1 p_x.step.strokes) (hc1 : p_x.step.strokes.length ≤ cap1) (h2 : SL H encNode ao2 p_x.nodes) (hc2 : p_x.nodes.length ≤ cap2) (h3 : SL H encStr ao3 p_on) (hc3 : p_on.length ≤ cap3) (hG : Glob H) (r : (List Step)) (hm : ref15_Done n p_x p_on = some r),
  Con prog 56 [(.agg #[(.int .i64 p_x.kind), (.slice ao1 p_x.step.strokes.length cap1), (.int .i64 p_x.step.wait), (.int .i64 p_x.count), (mkS p_x.name), (.slice ao2 p_x.nodes.length cap2)]), (.slice ao3 p_on.length cap3)] w H (fun v H' => ∃ (ao4 : Option Addr) (cap4 : Nat), v = (.slice ao4 r.length cap4) ∧ SL H' encStep ao4 r ∧ r.length ≤ cap4) := by
 induction n with
 | zero => intro p_x p_on ao1 cap1 ao2 cap2 ao3 cap3 w H hH h1 hc1 h2 hc2 h3 hc3 hG r hm; exact (none_some hm).elim
 | succ n ih => intro p_x p_on ao1 cap1 ao2 cap2 ao3 cap3 w H hH h1 hc1 h2 hc2 h3 hc3 hG r hm; exact ref15_Done_body_con (ref15_Done n) ih p_x p_on ao1 cap1 ao2 cap2 ao3 cap3 w H hH h1 hc1 h2 hc2 h3 hc3 hG r hm
theorem ref15_Unfold_con (p_x : Node) (p_on : (List (List UInt8))) (ao1 : Option Addr) (cap1 : Nat) (ao2 : Option Addr) (cap2 : Nat) (ao3 : Option Addr) (cap3 : Nat) (w : World) (H : Heap) (hH : Le H (hp w)) (h1 : SL H encStroke ao1 p_x.step.strokes) (hc1 : p_x.step.strokes.length ≤ cap1) (h2 : SL H encNode ao2 p_x.nodes) (hc2 : p_x.nodes.length ≤ cap2) (h3 : SL H encStr ao3 p_on) (hc3 : p_on.length ≤ cap3) (hG : Glob H) (r : ((List Step) × Int)) (hm : ref15_Unfold p_x p_on = some r) :
  Con prog 19 [(.agg #[(.int .i64 p_x.kind), (.slice ao1 p_x.step.strokes.length cap1), (.int .i64 p_x.step.wait), (.int .i64 p_x.count), (mkS p_x.name), (.slice ao2 p_x.nodes.length cap2)]), (.slice ao3 p_on.length cap3)] w H (fun v H' => ∃ (ao4 : Option Addr) (cap4 : Nat), v = (.tuple #[(.slice ao4 r.1.length cap4), (.int .i64 r.2)]) ∧ SL H' encStep ao4 r.1 ∧ r.1.length ≤ cap4) := by
 unfold ref15_Unfold at hm
 refine con_of hH func19 rfl 19 ntmps19 rfl ?_
 refine WP.seq (WP.region ?_)
 refine ws rfl (os_box (cs := [(.int .i64 p_x.kind), (.slice ao1 p_x.step.strokes.length cap1), (.int .i64 p_x.step.wait), (.int .i64 p_x.count), (mkS p_x.name), (.slice ao2 p_x.nodes.length cap2)]) rfl rfl rfl (fun b1 => ?_))
 refine Va rfl (Va rfl (WL.nil (tn (WP.seq (WP.seq (WP.region (V rfl (ov_load_whole (i := 0) isAgg28 sizeOf28 rfl rfl rfl rfl) ?_)))))))
 obtain ⟨r1, e1, hm⟩ := bind_some hm
 refine wo rfl (oq_con (r := (.int .i64 r1)) call32 rfl rfl (fun w' s => ⟨_, (ref15_Check_con p_x ao1 cap1 ao2 cap2  w' H s.hold h1 hc1 h2 hc2 hG r1 e1)⟩)) ?_
 refine Va rfl (WL.nil (tn (WP.seq (WP.region (Vm rfl (V rfl (ov_neq rfl rfl rfl) (WL.nil (tn ?_))))))))
 refine WP.cond rfl (fun hc5 => ?_) (fun hc5 => ?_)
 ·
  replace hm := ite_t hc5 hm
  refine WP.seq (WP.region (Vm rfl (Va rfl (Va rfl (WL.nil (tn (WP.ret (then_ret ?_))))))))
  obtain rfl := Option.some.inj hm
  refine retQ_ret results19 (Res.tmp rfl (Res.tmp rfl Res.nil)) rfl (fun w' s => ⟨s.below, ?_⟩)
  exact ⟨none, 0, rfl, SL.nil _ _ _, Nat.le_refl _⟩
 replace hm := ite_f hc5 hm
 refine WP.skip (tn (WP.seq (WP.seq (WP.region (V rfl (ov_load_whole (i := 0) isAgg28 sizeOf28 rfl rfl rfl rfl) (Vm rfl ?_))))))
 obtain ⟨r2, e2, hm⟩ := bind_some hm
 refine wo rfl (oq_con (r := (.int .i64 r2)) call54 rfl rfl (fun w' s => ⟨_, (ref15_Long_con 600 p_x p_on ao1 cap1 ao2 cap2 ao3 cap3  w' H s.hold h1 hc1 h2 hc2 h3 hc3 hG r2 e2)⟩)) ?_
 refine V rfl (ov_gtr rfl rfl rfl) (WL.nil (tn ?_))
 refine WP.cond rfl (fun hc6 => ?_) (fun hc6 => ?_)
 ·
  replace hm := ite_t hc6 hm
  refine WP.seq (WP.region (Va rfl (Va rfl (WL.nil (tn (WP.ret (then_ret ?_)))))))
  obtain rfl := Option.some.inj hm
  refine retQ_ret results19 (Res.tmp rfl (Res.tmp rfl Res.nil)) rfl (fun w' s => ⟨s.below, ?_⟩)
  exact ⟨none, 0, rfl, SL.nil _ _ _, Nat.le_refl _⟩
 replace hm := ite_f hc6 hm
 refine WP.skip (tn (WP.seq (WP.region (V rfl (ov_load_whole (i := 0) isAgg28 sizeOf28 rfl rfl rfl rfl) (Vm rfl ?_)))))
 obtain ⟨r3, e3, hm⟩ := bind_some hm
 refine ws rfl (os_con call56 rfl rfl (fun w' s => (ref15_Done_con 600 p_x p_on ao1 cap1 ao2 cap2 ao3 cap3  w' H s.hold h1 hc1 h2 hc2 h3 hc3 hG r3 e3)) (fun rr1 H1 hle1 hR1 => ?_))
 obtain ⟨ao5, cap5, rfl, h5, hc7⟩ := hR1
 refine Va rfl (Va rfl (WL.nil (tn (WP.ret ?_))))
 obtain rfl := Option.some.inj hm
 refine retQ_ret results19 (Res.tmp rfl (Res.tmp rfl Res.nil)) rfl (fun w' s => ⟨s.below, ?_⟩)
 exact ⟨ao5, cap5, rfl, h5.mono s.le_newer, hc7⟩
theorem ref14_Of_con (p_l : (List Step)) (ao1 : Option Addr) (cap1 : Nat) (w : World) (H : Heap) (hH : Le H (hp w)) (h1 : SL H encStep ao1 p_l) (hc1 : p_l.length ≤ cap1) (hG : Glob H) (r : Sequence) (hm : ref14_Of p_l = some r) :
  Con prog 58 [(.slice ao1 p_l.length cap1)] w H (fun v H' => ∃ (ao2 : Option Addr) (cap2 : Nat), v = (.agg #[(.int .i64 r.actuators), (.slice ao2 r.steps.length cap2)]) ∧ SL H' encStep ao2 r.steps ∧ r.steps.length ≤ cap2) := by
 unfold ref14_Of at hm
 refine con_of hH func58 rfl 39 ntmps58 rfl ?_
 refine WP.seq (WP.region ?_)
 refine ws rfl (os_alloc (cs := [(.int .i64 0), (.slice none 0 0)]) zeroValue48 rfl rfl (fun b1 => ?_))
 refine WL.nil (tn (WP.seq (WP.region (Vm rfl (V rfl (ov_build (r := (.agg #[(.int .i64 0), (.slice ao1 p_l.length cap1)])) rfl rfl (fun _ => by kernel_rfl)) ?_)))))
 refine ws rfl (os_alloc (cs := [(.int .i64 0), (.slice none 0 0)]) zeroValue48 rfl rfl (fun b2 => ?_))
 refine ws0 rfl (os_store (i := 0) (vs := [(.int .i64 0), (.slice ao1 p_l.length cap1)]) (cs' := [(.int .i64 0), (.slice ao1 p_l.length cap1)]) sizeOf48 rfl rfl rfl rfl rfl rfl rfl rfl rfl ?_)
 refine WL.nil (tn ?_)
 obtain ⟨k1, hk1, hm⟩ := joinK_some hm
 refine WP.seq_join (fun g' S' => ∃ (i6 : Int), Sub [(2, (pB b1 0)), (3, (pB b2 0)), (1000000007, (.bool false))] g' ∧ (∀ w', S' w' → St w H [.blk b2 48 [(.int .i64 i6), (.slice ao1 p_l.length cap1)], .blk b1 48 [(.int .i64 0), (.slice none 0 0)]] H w') ∧ k1 i6 = some r) ?_ ?_
 ·
  refine WP.seq (WP.region (Va rfl (WL.nil (tn (WP.block ?_)))))
  refine WP.loop (fun m1 g' S' => ∃ (i1 : Int) (i2 : Int), Sub [(0, (.slice ao1 p_l.length cap1)), (2, (pB b1 0)), (3, (pB b2 0)), (4, (.int .i64 i1)), (1000000007, (.bool false))] g' ∧ (∀ w', S' w' → St w H [.blk b2 48 [(.int .i64 i2), (.slice ao1 p_l.length cap1)], .blk b1 48 [(.int .i64 0), (.slice none 0 0)]] H w') ∧ ref14_Of_loop1 p_l k1 m1 i1 i2 = some r) ((Int.toNat ((p_l.length : Int) - 0) + 1)) ⟨0, 0, (Sub.all rfl), fun w' s => s, hm⟩ ?_ ?_
  ·
   rintro g' S' ⟨_, _, _, _, hm⟩
   exact none_some hm
  rintro m1 g' S' ⟨i1, i2, hsub1, hS1, hm⟩
  refine WP.sub hsub1 (WP.weaken hS1 ?_)
  rw [ref14_Of_loop1] at hm
  refine WP.seq (WP.seq (WP.region (Vm rfl (Vm rfl (V rfl (ov_len_slice underlying42 rfl rfl) (V rfl (ov_lss rfl rfl rfl) (WL.nil (tn ?_))))))))
  refine WP.cond rfl (fun hc3 => ?_) (fun hc3 => ?_)
  ·
   replace hm := ite_t hc3 hm
   refine WP.skip (tn ?_)
   obtain ⟨k2, hk2, hm⟩ := joinK_some hm
   refine WP.seq_join (fun g' S' => ∃ (i5 : Int), Sub [(0, (.slice ao1 p_l.length cap1)), (2, (pB b1 0)), (3, (pB b2 0)), (4, (.int .i64 i1)), (1000000007, (.bool false))] g' ∧ (∀ w', S' w' → St w H [.blk b2 48 [(.int .i64 i5), (.slice ao1 p_l.length cap1)], .blk b1 48 [(.int .i64 0), (.slice none 0 0)]] H w') ∧ k2 i5 = some r) ?_ ?_
   ·
    refine WP.block (WP.seq (WP.region (Va rfl (WL.nil (tn (WP.block ?_))))))
    refine WP.loop (fun m2 g' S' => ∃ (i3 : Int) (i4 : Int), Sub [(0, (.slice ao1 p_l.length cap1)), (2, (pB b1 0)), (3, (pB b2 0)), (4, (.int .i64 i1)), (5, (.int .i64 i3)), (1000000007, (.bool false))] g' ∧ (∀ w', S' w' → St w H [.blk b2 48 [(.int .i64 i4), (.slice ao1 p_l.length cap1)], .blk b1 48 [(.int .i64 0), (.slice none 0 0)]] H w') ∧ ref14_Of_loop2 p_l i1 k2 m2 i3 i4 = some r) (42) ⟨0, i2, (Sub.all rfl), fun w' s => s, hm⟩ ?_ ?_
    ·
     rintro g' S' ⟨_, _, _, _, hm⟩
     exact none_some hm
    rintro m2 g' S' ⟨i3, i4, hsub2, hS2, hm⟩
    refine WP.sub hsub2 (WP.weaken hS2 ?_)
    rw [ref14_Of_loop2] at hm
    refine WP.seq (WP.seq (WP.region (Vm rfl (Vm rfl (Vm rfl ?_)))))
    obtain ⟨x1, e1, hm⟩ := bind_some hm
    obtain ⟨h4, h5, h6, cs1, h7, h8⟩ := h1.get e1 (by decide)
    obtain ⟨ao3, cap3, rfl, h3, hc4⟩ := h7
    refine V rfl (ov_indexAddr underlying42 sizeOf25 rfl rfl rfl h4 h5 h6) (V rfl (ov_fieldAddrE underlying25 rfl rfl rfl sizeOf23 rfl rfl) ?_)
    refine V rfl (ov_load_elem (v := (.slice ao3 x1.strokes.length cap3)) isAgg23 rfl rfl (h8.one (off := 0) rfl)) (V rfl (ov_len_slice underlying23 rfl rfl) (V rfl (ov_lss rfl rfl rfl) (WL.nil (tn ?_))))
    refine WP.cond rfl (fun hc5 => ?_) (fun hc5 => ?_)
    ·
     replace hm := ite_t hc5 hm
     refine WP.skip (tn (WP.seq (WP.block ?_)))
     refine WP.region_any (S₀ := St w H [.blk b1 48 [(.int .i64 0), (.slice none 0 0)]] H) 15 rfl (by kernel_rfl) (fun w' s => (s.select [1] (by decide) rfl)) (fun _ s => s.drew) ?_
     refine TQ 0 (by kernel_rfl) rfl (ov_fieldAddr underlying48 rfl rfl rfl sizeOf3 rfl rfl) (TQ 2 (by kernel_rfl) rfl (ov_move rfl rfl) (TQ 3 (by kernel_rfl) rfl (ov_move rfl rfl) ?_))
     obtain ⟨x2, e2, hm⟩ := bind_some hm
     obtain ⟨h10, h11, h12, cs2, h13, h14⟩ := h1.get e2 (by decide)
     obtain ⟨ao4, cap4, rfl, h9, hc6⟩ := h13
     refine TQ 4 (by kernel_rfl) rfl (ov_indexAddr underlying42 sizeOf25 rfl rfl rfl h10 h11 h12) (TQ 5 (by kernel_rfl) rfl (ov_fieldAddrE underlying25 rfl rfl rfl sizeOf23 rfl rfl) ?_)
     refine TQ 6 (by kernel_rfl) rfl (ov_load_elem (v := (.slice ao4 x2.strokes.length cap4)) isAgg23 rfl rfl (h14.one (off := 0) rfl)) (TQ 7 (by kernel_rfl) rfl (ov_move rfl rfl) ?_)
     obtain ⟨x3, e3, hm⟩ := bind_some hm
     obtain ⟨h15, h16, h17, cs3, h18, h19⟩ := h9.get e3 (by decide)
     obtain rfl : cs3 = [(.int .i64 x3.actuator), (.bool x3.out)] := h18
     refine TQ 8 (by kernel_rfl) rfl (ov_indexAddr underlying23 sizeOf112 rfl rfl rfl h15 h16 h17) (TQ 9 (by kernel_rfl) rfl (ov_fieldAddrE underlying112 rfl rfl rfl sizeOf3 rfl rfl) ?_)
     refine TQ 10 (by kernel_rfl) rfl (ov_load_elem (v := (.int .i64 x3.actuator)) isAgg3 rfl rfl (h19.one (off := 0) rfl)) (TQ 11 (by kernel_rfl) rfl (ov_add rfl rfl rfl) ?_)
     refine AL.any (rs := [1]) (by kernel_rfl) (by decide) ?_
     refine ALs.cons (i := 1) rfl (Runs.free rfl) rfl rfl ?_ ?_
     ·
      refine OQ.step (OV.quiet (ov_load_box (i := 0) isAgg3 rfl rfl rfl rfl)) ?_
      refine ⟨fun w' s => (s.select [1] (by decide) rfl), ?_⟩
      refine TQ 12 (by kernel_rfl) rfl (ov_max rfl rfl rfl) (TQ 13 (by kernel_rfl) rfl (ov_fieldAddr underlying48 rfl rfl rfl sizeOf3 rfl rfl) ?_)
      refine AL.any (rs := [14]) (by kernel_rfl) (by decide) ?_
      refine ALs.cons0 (i := 14) rfl (Runs.free rfl) rfl ?_ ?_
      ·
       refine os_store (i := 0) (vs := [(.int .i64 (if (IntKind.wrap .i64 (x3.actuator + 1)) > i4 then (IntKind.wrap .i64 (x3.actuator + 1)) else i4))]) (cs' := [(.int .i64 (if (IntKind.wrap .i64 (x3.actuator + 1)) > i4 then (IntKind.wrap .i64 (x3.actuator + 1)) else i4)), (.slice ao1 p_l.length cap1)]) sizeOf3 rfl rfl rfl rfl rfl rfl rfl rfl rfl ?_
       refine ⟨fun w' s => (s.select [1] (by decide) rfl), ?_⟩
       refine AL.done (by kernel_rfl) ?_
       refine bn (tn (WP.region (Vm rfl (V rfl (ov_add rfl rfl rfl) (Va rfl (WL.nil (tn ?_)))))))
       exact ⟨(IntKind.wrap .i64 (i3 + 1)), (if (IntKind.wrap .i64 (x3.actuator + 1)) > i4 then (IntKind.wrap .i64 (x3.actuator + 1)) else i4), (Sub.all rfl), fun w' s => s, hm⟩
      exact ALs.nil
     exact ALs.nil
    replace hm := ite_f hc5 hm
    refine WP.exit (then_exit (then_exit (block_here (bn (tn ?_)))))
    exact ⟨i4, (Sub.all rfl), fun w' s => s, hm⟩
   rintro g' S' ⟨i5, hsub3, hS3, hm⟩
   refine WP.sub hsub3 (WP.weaken hS3 ?_)
   replace hm := (congrFun hk2 i5).symm.trans hm
   refine WP.region (Vm rfl (V rfl (ov_add rfl rfl rfl) (Va rfl (WL.nil (tn ?_)))))
   exact ⟨(IntKind.wrap .i64 (i1 + 1)), i5, (Sub.all rfl), fun w' s => s, hm⟩
  replace hm := ite_f hc3 hm
  refine WP.exit (then_exit (then_exit (block_here (tn ?_))))
  exact ⟨i2, (Sub.all rfl), fun w' s => s, hm⟩
 rintro g' S' ⟨i6, hsub4, hS4, hm⟩
 refine WP.sub hsub4 (WP.weaken hS4 ?_)
 replace hm := (congrFun hk1 i6).symm.trans hm
 refine WP.seq (WP.region (V rfl (ov_load_whole (i := 0) isAgg48 sizeOf48 rfl rfl rfl rfl) ?_))
 refine ws0 rfl (os_store (i := 1) (vs := [(.int .i64 i6), (.slice ao1 p_l.length cap1)]) (cs' := [(.int .i64 i6), (.slice ao1 p_l.length cap1)]) sizeOf48 rfl rfl rfl rfl rfl rfl rfl rfl rfl ?_)
 refine WL.nil (tn (WP.ret ?_))
 obtain rfl := Option.some.inj hm
 refine retQ_ret results58 (Res.cell rfl (box_loads (i := 1) isAgg48 sizeOf48 rfl rfl) Res.nil) rfl (fun w' s => ⟨s.below, ?_⟩)
 exact ⟨ao1, cap1, rfl, h1.mono s.le_newer, hc1⟩
theorem ref13_Suits_con (p_x : Step) (p_ends : (List Bool)) (ao1 : Option Addr) (cap1 : Nat) (ao2 : Option Addr) (cap2 : Nat) (w : World) (H : Heap) (hH : Le H (hp w)) (h1 : SL H encStroke ao1 p_x.strokes) (hc1 : p_x.strokes.length ≤ cap1) (h2 : SL H encBool ao2 p_ends) (hc2 : p_ends.length ≤ cap2) (hG : Glob H) (r : Bool) (hm : ref13_Suits p_x p_ends = some r) :
  Con prog 133 [(.agg #[(.slice ao1 p_x.strokes.length cap1), (.int .i64 p_x.wait)]), (.slice ao2 p_ends.length cap2)] w H (fun v _ => v = (.bool r)) := by
 unfold ref13_Suits at hm
 refine con_of hH func133 rfl 34 ntmps133 rfl ?_
 refine WP.seq (WP.region ?_)
 refine ws rfl (os_box (cs := [(.slice ao1 p_x.strokes.length cap1), (.int .i64 p_x.wait)]) rfl rfl rfl (fun b1 => ?_))
 refine Va rfl (WL.nil (tn ?_))
 obtain ⟨k1, hk1, hm⟩ := joinK_some hm
 refine WP.seq_join (fun g' S' => Sub [(1000000007, (.bool false))] g' ∧ (∀ w', S' w' → St w H [] H w') ∧ k1 = some r) ?_ ?_
 ·
  refine WP.seq (WP.region (Va rfl (WL.nil (tn (WP.block ?_)))))
  refine WP.loop (fun m1 g' S' => ∃ (i1 : Int), Sub [(1, (.slice ao2 p_ends.length cap2)), (2, (pB b1 0)), (5, (.int .i64 i1)), (1000000007, (.bool false))] g' ∧ (∀ w', S' w' → St w H [.blk b1 25 [(.slice ao1 p_x.strokes.length cap1), (.int .i64 p_x.wait)]] H w') ∧ ref13_Suits_loop1 p_x p_ends k1 m1 i1 = some r) ((Int.toNat ((p_x.strokes.length : Int) - 0) + 1)) ⟨0, (Sub.all rfl), fun w' s => s, hm⟩ ?_ ?_
  ·
   rintro g' S' ⟨_, _, _, hm⟩
   exact none_some hm
  rintro m1 g' S' ⟨i1, hsub1, hS1, hm⟩
  refine WP.sub hsub1 (WP.weaken hS1 ?_)
  rw [ref13_Suits_loop1] at hm
  refine WP.seq (WP.seq (WP.region (Vm rfl (V rfl (ov_fieldAddr underlying25 rfl rfl rfl sizeOf23 rfl rfl) (Vl 0 isAgg23 rfl (V rfl (ov_len_slice underlying23 rfl rfl) (V rfl (ov_lss rfl rfl rfl) (WL.nil (tn ?_)))))))))
  refine WP.cond rfl (fun hc3 => ?_) (fun hc3 => ?_)
  ·
   replace hm := ite_t hc3 hm
   refine WP.skip (tn (WP.seq (WP.block (WP.seq (WP.region (V rfl (ov_fieldAddr underlying25 rfl rfl rfl sizeOf23 rfl rfl) (Vl 0 isAgg23 rfl (Vm rfl ?_))))))))
   obtain ⟨x1, e1, hm⟩ := bind_some hm
   obtain ⟨h3, h4, h5, cs1, h6, h7⟩ := h1.get e1 (by decide)
   obtain rfl : cs1 = [(.int .i64 x1.actuator), (.bool x1.out)] := h6
   refine V rfl (ov_indexAddr underlying23 sizeOf112 rfl rfl rfl h3 h4 h5) (V rfl (ov_load_elems (vs := [(.int .i64 x1.actuator), (.bool x1.out)]) isAgg112 sizeOf112 rfl rfl rfl h7 h5) ?_)
   refine ws rfl (os_alloc (cs := [(.int .i64 0), (.bool false)]) zeroValue112 rfl rfl (fun b2 => ?_))
   refine ws0 rfl (os_store (i := 0) (vs := [(.int .i64 x1.actuator), (.bool x1.out)]) (cs' := [(.int .i64 x1.actuator), (.bool x1.out)]) sizeOf112 rfl rfl rfl rfl rfl rfl rfl rfl rfl ?_)
   refine WL.nil (tn (WP.seq ?_))
   refine WP.region_draws (by kernel_rfl) (by kernel_rfl) (fun _ s => s.drew) ?_
   refine qf rfl (ov_fieldAddr underlying112 rfl rfl rfl sizeOf3 rfl rfl) ?_
   refine qf rfl (ov_load_box (i := 0) isAgg3 rfl rfl rfl rfl) ?_
   refine qf rfl (ov_move rfl rfl) ?_
   refine qf rfl (ov_len_slice underlying114 rfl rfl) ?_
   refine qf rfl (ov_geq rfl rfl rfl) ?_
   refine qf rfl (ov_move rfl rfl) ?_
   obtain ⟨c1, e2, hm⟩ := bind_some hm
   refine QL.part_bool 9 33 (x := c1) ?_ ?_
   ·
    rcases Bool.eq_false_or_eq_true (decide (x1.actuator ≥ (p_ends.length : Int))) with hc4 | hc4
    ·
     replace hm := ite_t hc4 e2
     refine QL.idle (Idle.no rfl rfl rfl hc4) rfl rfl ?_
     refine QL.idle (Idle.no rfl rfl rfl hc4) rfl rfl ?_
     refine QL.idle (Idle.no rfl rfl rfl hc4) rfl rfl ?_
     refine QL.idle (Idle.no rfl rfl rfl hc4) rfl rfl ?_
     refine QL.idle (Idle.no rfl rfl rfl hc4) rfl rfl ?_
     refine QL.idle (Idle.no rfl rfl rfl hc4) rfl rfl ?_
     refine QL.idle (Idle.no rfl rfl rfl hc4) rfl rfl ?_
     refine QL.idle (Idle.no rfl rfl rfl hc4) rfl rfl ?_
     refine qf rfl (ov_pick_true rfl (guard_eq rfl hc4) rfl) ?_
     exact QL.nil (Sub.cons' rfl (congrArg Value.bool (Option.some.inj hm)) (Sub.dropn 9 rfl))
    replace hm := ite_f hc4 e2
    refine qy hc4 rfl (ov_move rfl rfl) ?_
    refine qy hc4 rfl (ov_fieldAddr underlying112 rfl rfl rfl sizeOf3 rfl rfl) ?_
    refine qy hc4 rfl (ov_load_box (i := 0) isAgg3 rfl rfl rfl rfl) ?_
    obtain ⟨x2, e3, hm⟩ := bind_some hm
    obtain ⟨h8, h9, h10, cs2, h11, h12⟩ := h2.get e3 (by decide)
    obtain rfl : cs2 = [(.bool x2)] := h11
    refine qy hc4 rfl (ov_indexAddr underlying114 sizeOf4 rfl rfl rfl h8 h9 h10) ?_
    refine qy hc4 rfl (ov_load_elem (v := (.bool x2)) isAgg4 rfl rfl h12) ?_
    refine qy hc4 rfl (ov_fieldAddr underlying112 rfl rfl rfl sizeOf4 rfl rfl) ?_
    refine qy hc4 rfl (ov_load_box (i := 0) isAgg4 rfl rfl rfl rfl) ?_
    refine qy hc4 rfl (ov_beql underlying4 rfl rfl rfl) ?_
    refine qf rfl (ov_pick_false rfl (guard_eq rfl hc4) rfl) ?_
    exact QL.nil (Sub.cons' rfl (congrArg Value.bool (Option.some.inj hm)) (Sub.dropn 9 rfl))
   refine QL.nil ?_
   refine tn ?_
   refine WP.cond rfl (fun hc5 => ?_) (fun hc5 => ?_)
   ·
    replace hm := ite_t hc5 hm
    refine WP.seq (WP.region (Va rfl (WL.nil (tn (WP.ret (block_ret (then_ret (then_ret (block_ret (then_ret ?_))))))))))
    obtain rfl := Option.some.inj hm
    refine retQ_ret results133 (Res.tmp rfl Res.nil) rfl (fun w' s => ⟨s.below, ?_⟩)
    exact rfl
   replace hm := ite_f hc5 hm
   refine WP.skip (bn (tn (WP.region (Vm rfl (V rfl (ov_add rfl rfl rfl) (Va rfl (WL.nil (tn ?_))))))))
   exact ⟨(IntKind.wrap .i64 (i1 + 1)), (Sub.all rfl), fun w' s => (s.select [1] (by decide) rfl), hm⟩
  replace hm := ite_f hc3 hm
  refine WP.exit (then_exit (then_exit (block_here (tn ?_))))
  exact ⟨(Sub.all rfl), fun w' s => (s.select [] (by decide) rfl), hm⟩
 rintro g' S' ⟨hsub2, hS2, hm⟩
 refine WP.sub hsub2 (WP.weaken hS2 ?_)
 replace hm := hk1.symm.trans hm
 refine WP.seq (WP.region (Va rfl (WL.nil (tn (WP.ret ?_)))))
 obtain rfl := Option.some.inj hm
 refine retQ_ret results133 (Res.tmp rfl Res.nil) rfl (fun w' s => ⟨s.below, ?_⟩)
 exact rfl
theorem ref13_After_con (p_x : Step) (p_ends : (List Bool)) (ao1 : Option Addr) (cap1 : Nat) (ao2 : Option Addr) (cap2 : Nat) (w : World) (H : Heap) (hH : Le H (hp w)) (h1 : SL H encStroke ao1 p_x.strokes) (hc1 : p_x.strokes.length ≤ cap1) (h2 : SL H encBool ao2 p_ends) (hc2 : p_ends.length ≤ cap2) (hG : Glob H) (r : (List Bool)) (hm : ref13_After p_x p_ends = some r) :
  Con prog 134 [(.agg #[(.slice ao1 p_x.strokes.length cap1), (.int .i64 p_x.wait)]), (.slice ao2 p_ends.length cap2)] w H (fun v H' => ∃ (ao3 : Option Addr) (cap3 : Nat), v = (.slice ao3 r.length cap3) ∧ SL H' encBool ao3 r ∧ r.length ≤ cap3) := by
 unfold ref13_After at hm
 refine con_of hH func134 rfl 32 ntmps134 rfl ?_
 refine WP.seq (WP.region ?_)
 refine ws rfl (os_box (cs := [(.slice ao1 p_x.strokes.length cap1), (.int .i64 p_x.wait)]) rfl rfl rfl (fun b1 => ?_))
 refine Va rfl (WL.nil (tn (WP.seq (WP.region ?_))))
 have rl1 : RL H encBool ([] : List Bool) [] := RL.nil _ _
 refine ws rfl (os_buildSlice (cs := []) (E := 4) (sz := 1) rfl rfl (fun _ => by kernel_rfl) rfl (by decide) (fun b2 => ?_))
 refine Vm rfl ?_
 obtain ⟨l1, e1, hm⟩ := bind_some hm
 refine ws rfl (os_app_sl (i := 0) (En := encBool) (xs := []) underlying114 (by kernel_rfl : (prog.info? 4).map (fun i => (i.zero, i.size, i.bytes)) = some (some (.bool false), (encBool).size, 1)) rfl (by decide) one_encBool rfl rfl rfl rfl h2 hc2 rl1 e1 (fun ao4 cap4 ys1 rl2 => ?_))
 refine Va rfl (WL.nil (tn ?_))
 obtain ⟨k1, hk1, hm⟩ := joinK_some hm
 refine WP.seq_join (fun g' S' => ∃ (l3 : (List Bool)) (ao6 : Option Addr) (cap6 : Nat) (xs2 : List Value), RL H encBool l3 xs2 ∧ Sub [(5, (.slice ao6 l3.length cap6)), (1000000007, (.bool false))] g' ∧ (∀ w', S' w' → St w H [.row 4 (encBool).size l3.length (.slice ao6 l3.length cap6) xs2] H w') ∧ k1 l3 = some r) ?_ ?_
 ·
  refine WP.seq (WP.region (Va rfl (WL.nil (tn (WP.block ?_)))))
  refine WP.loop (fun m1 g' S' => ∃ (i1 : Int) (l2 : (List Bool)) (ao5 : Option Addr) (cap5 : Nat) (xs1 : List Value), RL H encBool l2 xs1 ∧ Sub [(2, (pB b1 0)), (5, (.slice ao5 l2.length cap5)), (6, (.int .i64 i1)), (1000000007, (.bool false))] g' ∧ (∀ w', S' w' → St w H [.row 4 (encBool).size l2.length (.slice ao5 l2.length cap5) xs1, .blk b1 25 [(.slice ao1 p_x.strokes.length cap1), (.int .i64 p_x.wait)]] H w') ∧ ref13_After_loop1 p_x k1 m1 i1 l2 = some r) ((Int.toNat ((p_x.strokes.length : Int) - 0) + 1)) ⟨0, (([] : List Bool) ++ p_ends), ao4, cap4, ([] ++ ys1), rl2, (Sub.all rfl), fun w' s => s, hm⟩ ?_ ?_
  ·
   rintro g' S' ⟨_, _, _, _, _, _, _, _, hm⟩
   exact none_some hm
  rintro m1 g' S' ⟨i1, l2, ao5, cap5, xs1, rl3, hsub1, hS1, hm⟩
  refine WP.sub hsub1 (WP.weaken hS1 ?_)
  rw [ref13_After_loop1] at hm
  refine WP.seq (WP.seq (WP.region (Vm rfl (V rfl (ov_fieldAddr underlying25 rfl rfl rfl sizeOf23 rfl rfl) (Vl 1 isAgg23 rfl (V rfl (ov_len_slice underlying23 rfl rfl) (V rfl (ov_lss rfl rfl rfl) (WL.nil (tn ?_)))))))))
  refine WP.cond rfl (fun hc4 => ?_) (fun hc4 => ?_)
  ·
   replace hm := ite_t hc4 hm
   refine WP.skip (tn (WP.seq (WP.block ?_)))
   refine WP.region_any (S₀ := St w H [.blk b1 25 [(.slice ao1 p_x.strokes.length cap1), (.int .i64 p_x.wait)]] H) 15 rfl (by kernel_rfl) (fun w' s => (s.select [1] (by decide) rfl)) (fun _ s => s.drew) ?_
   refine TQ 0 (by kernel_rfl) rfl (ov_move rfl rfl) (TQ 1 (by kernel_rfl) rfl (ov_fieldAddr underlying25 rfl rfl rfl sizeOf23 rfl rfl) (TQ 2 (by kernel_rfl) rfl (ov_load_box (i := 0) isAgg23 rfl rfl rfl rfl) (TQ 3 (by kernel_rfl) rfl (ov_move rfl rfl) ?_)))
   obtain ⟨x1, e2, hm⟩ := bind_some hm
   obtain ⟨h4, h5, h6, cs1, h7, h8⟩ := h1.get e2 (by decide)
   obtain rfl : cs1 = [(.int .i64 x1.actuator), (.bool x1.out)] := h7
   refine TQ 4 (by kernel_rfl) rfl (ov_indexAddr underlying23 sizeOf112 rfl rfl rfl h4 h5 h6) (TQ 5 (by kernel_rfl) rfl (ov_fieldAddrE underlying112 rfl rfl rfl sizeOf3 rfl rfl) ?_)
   refine TQ 6 (by kernel_rfl) rfl (ov_load_elem (v := (.int .i64 x1.actuator)) isAgg3 rfl rfl (h8.one (off := 0) rfl)) (TQ 7 (by kernel_rfl) rfl (ov_fieldAddr underlying25 rfl rfl rfl sizeOf23 rfl rfl) (TQ 8 (by kernel_rfl) rfl (ov_load_box (i := 0) isAgg23 rfl rfl rfl rfl) (TQ 9 (by kernel_rfl) rfl (ov_move rfl rfl) ?_)))
   obtain ⟨x2, e3, hm⟩ := bind_some hm
   obtain ⟨h9, h10, h11, cs2, h12, h13⟩ := h1.get e3 (by decide)
   obtain rfl : cs2 = [(.int .i64 x2.actuator), (.bool x2.out)] := h12
   refine TQ 10 (by kernel_rfl) rfl (ov_indexAddr underlying23 sizeOf112 rfl rfl rfl h9 h10 h11) (TQ 11 (by kernel_rfl) rfl (ov_fieldAddrE underlying112 rfl rfl rfl sizeOf4 rfl rfl) ?_)
   refine TQ 12 (by kernel_rfl) rfl (ov_load_elem (v := (.bool x2.out)) isAgg4 rfl rfl (h13.one (off := 1) rfl)) ?_
   refine AL.any (rs := [13]) (by kernel_rfl) (by decide) ?_
   refine ALs.cons (i := 13) rfl (Runs.free rfl) rfl rfl ?_ ?_
   ·
    obtain ⟨x3, e4, hm⟩ := bind_some hm
    obtain ⟨h14, h15, h16, cs3, h17, h18⟩ := RL.get rl3 e4
    obtain rfl : cs3 = [(.bool x3)] := h17
    refine OQ.step (OV.quiet (ov_indexAddr_own (i := 0) underlying114 sizeOf4 rfl rfl rfl rfl h14 h15)) ?_
    refine ⟨fun w' s => (s.select [1] (by decide) rfl), ?_⟩
    refine AL.any (rs := [14]) (by kernel_rfl) (by decide) ?_
    refine ALs.cons0 (i := 14) rfl (Runs.free rfl) rfl ?_ ?_
    ·
     have rl4 := RL.set rl3 (y := x2.out) (off := 0) (vs := [(.bool x2.out)]) e4 h18 rfl (Nat.le_of_ble_eq_true rfl)
     have e5 := at?_set (y := x2.out) e4
     refine os_store_own (i := 0) (vs := [(.bool x2.out)]) sizeOf4 rfl rfl rfl rfl (own_pos h14 h15) rfl rfl (elem_le (off := 0) h16 (Nat.le_of_ble_eq_true rfl)) rfl ?_
     rw [show l2.length = (List.set l2 (Int.toNat x1.actuator) x2.out).length from List.length_set.symm]
     obtain ⟨h19, h20, h21, cs4, h22, h23⟩ := rl4.get e5
     obtain rfl : cs4 = [(.bool x2.out)] := h22
     refine ⟨fun w' s => (s.select [1] (by decide) rfl), ?_⟩
     refine AL.done (by kernel_rfl) ?_
     refine bn (tn (WP.region (Vm rfl (V rfl (ov_add rfl rfl rfl) (Va rfl (WL.nil (tn ?_)))))))
     exact ⟨(IntKind.wrap .i64 (i1 + 1)), (List.set l2 (Int.toNat x1.actuator) x2.out), ao5, cap5, (spl xs1 (Int.toNat x1.actuator * encBool.size + 0) [(.bool x2.out)]), rl4, (Sub.all rfl), fun w' s => s, hm⟩
    exact ALs.nil
   exact ALs.nil
  replace hm := ite_f hc4 hm
  refine WP.exit (then_exit (then_exit (block_here (tn ?_))))
  exact ⟨l2, ao5, cap5, xs1, rl3, (Sub.all rfl), fun w' s => (s.select [0] (by decide) rfl), hm⟩
 rintro g' S' ⟨l3, ao6, cap6, xs2, rl5, hsub2, hS2, hm⟩
 refine WP.sub hsub2 (WP.weaken hS2 ?_)
 replace hm := (congrFun hk1 l3).symm.trans hm
 refine WP.seq (WP.region (Vm rfl (Va rfl (WL.nil (tn (WP.ret ?_))))))
 obtain rfl := Option.some.inj hm
 refine retQ_ret results134 (Res.tmp rfl Res.nil) rfl (fun w' s => ⟨s.below, ?_⟩)
 obtain ⟨h24, hc5⟩ := s.ret_row (i := 0) rfl rl5
 exact ⟨ao6, cap6, rfl, h24, hc5⟩
theorem ref14_steps_con (p_s : Sequence) (ao1 : Option Addr) (cap1 : Nat) (w : World) (H : Heap) (hH : Le H (hp w)) (h1 : SL H encStep ao1 p_s.steps) (hc1 : p_s.steps.length ≤ cap1) (hG : Glob H) (r : Int) (hm : ref14_steps p_s = some r) :
  Con prog 97 [(.agg #[(.int .i64 p_s.actuators), (.slice ao1 p_s.steps.length cap1)])] w H (fun v _ => v = (.int .i64 r)) := by
 unfold ref14_steps at hm
 refine con_of hH func97 rfl 62 ntmps97 rfl ?_
 refine WP.seq (WP.region ?_)
 refine ws rfl (os_box (cs := [(.int .i64 p_s.actuators), (.slice ao1 p_s.steps.length cap1)]) rfl rfl rfl (fun b1 => ?_))
 refine Va rfl (WL.nil (tn (WP.seq (WP.region (V rfl (ov_fieldAddr underlying48 rfl rfl rfl sizeOf3 rfl rfl) (Vl 0 isAgg3 rfl ?_))))))
 obtain ⟨u1, e1, hm⟩ := bind_some hm
 replace e1 := guardO_some e1
 refine ws rfl (os_makeSlice (En := encBool) (z := (.bool false)) (y0 := false) (bytes := 1) underlying114 (by kernel_rfl) rfl (by decide) rfl rfl rfl e1 (fun b2 xs1 rl1 => ?_))
 refine Va rfl (WL.nil (tn ?_))
 obtain ⟨k1, hk1, hm⟩ := joinK_some hm
 refine WP.seq_join (fun g' S' => ∃ (H5 : Heap) (l3 : (List Bool)) (ao6 : Option Addr) (cap6 : Nat), Le H H5 ∧ SL H5 encBool ao6 l3 ∧ l3.length ≤ cap6 ∧ Sub [(1, (pB b1 0)), (3, (.slice ao6 l3.length cap6)), (1000000007, (.bool false))] g' ∧ (∀ w', S' w' → St w H [.blk b1 48 [(.int .i64 p_s.actuators), (.slice ao1 p_s.steps.length cap1)]] H5 w') ∧ k1 l3 = some r) ?_ ?_
 ·
  refine WP.seq (WP.region (Va rfl (WL.nil (tn (WP.block ?_)))))
  refine WP.held rl1 (fun H1 hc2 hle1 h2 => ?_)
  replace h1 := h1.mono hle1
  replace hG := hG.mono hle1
  refine WP.loop (fun m1 g' S' => ∃ (H2 : Heap) (l1 : (List Bool)) (ao2 : Option Addr) (cap2 : Nat) (i1 : Int), Le H1 H2 ∧ SL H2 encBool ao2 l1 ∧ l1.length ≤ cap2 ∧ Sub [(1, (pB b1 0)), (3, (.slice ao2 l1.length cap2)), (4, (.int .i64 i1)), (1000000007, (.bool false))] g' ∧ (∀ w', S' w' → St w H [.blk b1 48 [(.int .i64 p_s.actuators), (.slice ao1 p_s.steps.length cap1)]] H2 w') ∧ ref14_steps_loop1 p_s k1 m1 l1 i1 = some r) ((Int.toNat ((p_s.steps.length : Int) - 0) + 1)) ⟨H1, (List.replicate (Int.toNat p_s.actuators) false), (some ⟨b2, 0, none⟩), (Int.toNat p_s.actuators), 0, (Le.refl _), h2, hc2, (Sub.all rfl), fun w' s => s, hm⟩ ?_ ?_
  ·
   rintro g' S' ⟨_, _, _, _, _, _, _, _, _, _, hm⟩
   exact none_some hm
  rintro m1 g' S' ⟨H2, l1, ao2, cap2, i1, hle2, h3, hc3, hsub1, hS1, hm⟩
  refine WP.sub hsub1 (WP.weaken hS1 ?_)
  rw [ref14_steps_loop1] at hm
  replace h1 := h1.mono hle2
  replace hG := hG.mono hle2
  refine WP.seq (WP.seq (WP.region (Vm rfl (V rfl (ov_fieldAddr underlying48 rfl rfl rfl sizeOf42 rfl rfl) (Vl 0 isAgg42 rfl (V rfl (ov_len_slice underlying42 rfl rfl) (V rfl (ov_lss rfl rfl rfl) (WL.nil (tn ?_)))))))))
  refine WP.cond rfl (fun hc4 => ?_) (fun hc4 => ?_)
  ·
   replace hm := ite_t hc4 hm
   refine WP.skip (tn ?_)
   obtain ⟨k2, hk2, hm⟩ := joinK_some hm
   refine WP.seq_join (fun g' S' => ∃ (H4 : Heap) (l2 : (List Bool)) (ao5 : Option Addr) (cap5 : Nat), Le H2 H4 ∧ SL H4 encBool ao5 l2 ∧ l2.length ≤ cap5 ∧ Sub [(1, (pB b1 0)), (3, (.slice ao5 l2.length cap5)), (4, (.int .i64 i1)), (1000000007, (.bool false))] g' ∧ (∀ w', S' w' → St w H [.blk b1 48 [(.int .i64 p_s.actuators), (.slice ao1 p_s.steps.length cap1)]] H4 w') ∧ k2 l2 = some r) ?_ ?_
   ·
    refine WP.block (WP.seq (WP.region (V rfl (ov_fieldAddr underlying48 rfl rfl rfl sizeOf42 rfl rfl) (Vl 0 isAgg42 rfl (Vm rfl ?_)))))
    obtain ⟨x1, e2, hm⟩ := bind_some hm
    obtain ⟨h5, h6, h7, cs1, h8, h9⟩ := h1.get e2 (by decide)
    obtain ⟨ao3, cap3, rfl, h4, hc5⟩ := h8
    refine V rfl (ov_indexAddr underlying42 sizeOf25 rfl rfl rfl h5 h6 h7) (V rfl (ov_load_elems (vs := [(.slice ao3 x1.strokes.length cap3), (.int .i64 x1.wait)]) isAgg25 sizeOf25 rfl rfl rfl h9 h7) ?_)
    refine ws rfl (os_alloc (cs := [(.slice none 0 0), (.int .i64 0)]) zeroValue25 rfl rfl (fun b3 => ?_))
    refine ws0 rfl (os_store (i := 0) (vs := [(.slice ao3 x1.strokes.length cap3), (.int .i64 x1.wait)]) (cs' := [(.slice ao3 x1.strokes.length cap3), (.int .i64 x1.wait)]) sizeOf25 rfl rfl rfl rfl rfl rfl rfl rfl rfl ?_)
    refine WL.nil (tn (WP.seq (WP.seq (WP.region (V rfl (ov_load_whole (i := 0) isAgg25 sizeOf25 rfl rfl rfl rfl) ?_)))))
    obtain ⟨r1, e3, hm⟩ := bind_some hm
    refine wo rfl (oq_con (r := (.int .i64 r1)) call132 rfl rfl (fun w' s => ⟨_, (ref13_CheckStep_con x1 ao3 cap3  w' H2 s.hold h4 hc5 hG r1 e3)⟩)) ?_
    refine Va rfl (WL.nil (tn (WP.seq (WP.region (Vm rfl (V rfl (ov_neq rfl rfl rfl) (WL.nil (tn ?_))))))))
    refine WP.cond rfl (fun hc6 => ?_) (fun hc6 => ?_)
    ·
     replace hm := ite_t hc6 hm
     refine WP.seq (WP.region (Vm rfl (Va rfl (WL.nil (tn (WP.ret (then_ret (block_ret (then_ret (then_ret (block_ret (then_ret ?_))))))))))))
     obtain rfl := Option.some.inj hm
     refine retQ_ret results97 (Res.tmp rfl Res.nil) rfl (fun w' s => ⟨s.below, ?_⟩)
     exact rfl
    replace hm := ite_f hc6 hm
    refine WP.skip (tn ?_)
    obtain ⟨k3, hk3, hm⟩ := joinK_some hm
    refine WP.seq_join (fun g' S' => Sub [(1, (pB b1 0)), (3, (.slice ao2 l1.length cap2)), (4, (.int .i64 i1)), (5, (pB b3 0)), (1000000007, (.bool false))] g' ∧ (∀ w', S' w' → St w H [.blk b3 25 [(.slice ao3 x1.strokes.length cap3), (.int .i64 x1.wait)], .blk b1 48 [(.int .i64 p_s.actuators), (.slice ao1 p_s.steps.length cap1)]] H2 w') ∧ k3 = some r) ?_ ?_
    ·
     refine WP.seq (WP.region (Va rfl (WL.nil (tn (WP.block ?_)))))
     refine WP.loop (fun m2 g' S' => ∃ (i2 : Int), Sub [(1, (pB b1 0)), (3, (.slice ao2 l1.length cap2)), (4, (.int .i64 i1)), (5, (pB b3 0)), (7, (.int .i64 i2)), (1000000007, (.bool false))] g' ∧ (∀ w', S' w' → St w H [.blk b3 25 [(.slice ao3 x1.strokes.length cap3), (.int .i64 x1.wait)], .blk b1 48 [(.int .i64 p_s.actuators), (.slice ao1 p_s.steps.length cap1)]] H2 w') ∧ ref14_steps_loop2 p_s x1 k3 m2 i2 = some r) ((Int.toNat ((x1.strokes.length : Int) - 0) + 1)) ⟨0, (Sub.all rfl), fun w' s => s, hm⟩ ?_ ?_
     ·
      rintro g' S' ⟨_, _, _, hm⟩
      exact none_some hm
     rintro m2 g' S' ⟨i2, hsub2, hS2, hm⟩
     refine WP.sub hsub2 (WP.weaken hS2 ?_)
     rw [ref14_steps_loop2] at hm
     refine WP.seq (WP.seq (WP.region (Vm rfl (V rfl (ov_fieldAddr underlying25 rfl rfl rfl sizeOf23 rfl rfl) (Vl 0 isAgg23 rfl (V rfl (ov_len_slice underlying23 rfl rfl) (V rfl (ov_lss rfl rfl rfl) (WL.nil (tn ?_)))))))))
     refine WP.cond rfl (fun hc7 => ?_) (fun hc7 => ?_)
     ·
      replace hm := ite_t hc7 hm
      refine WP.skip (tn (WP.seq (WP.block (WP.seq ?_))))
      refine WP.region_draws (by kernel_rfl) (by kernel_rfl) (fun _ s => s.drew) ?_
      refine qf rfl (ov_fieldAddr underlying25 rfl rfl rfl sizeOf23 rfl rfl) ?_
      refine qf rfl (ov_load_box (i := 0) isAgg23 rfl rfl rfl rfl) ?_
      refine qf rfl (ov_move rfl rfl) ?_
      obtain ⟨x2, e4, hm⟩ := bind_some hm
      obtain ⟨h10, h11, h12, cs2, h13, h14⟩ := h4.get e4 (by decide)
      obtain rfl : cs2 = [(.int .i64 x2.actuator), (.bool x2.out)] := h13
      refine qf rfl (ov_indexAddr underlying23 sizeOf112 rfl rfl rfl h10 h11 h12) ?_
      refine qf rfl (ov_fieldAddrE underlying112 rfl rfl rfl sizeOf3 rfl rfl) ?_
      refine qf rfl (ov_load_elem (v := (.int .i64 x2.actuator)) isAgg3 rfl rfl (h14.one (off := 0) rfl)) ?_
      refine qf rfl (ov_fieldAddr underlying48 rfl rfl rfl sizeOf3 rfl rfl) ?_
      refine qf rfl (ov_load_box (i := 1) isAgg3 rfl rfl rfl rfl) ?_
      refine qf rfl (ov_geq rfl rfl rfl) ?_
      refine QL.nil ?_
      refine tn ?_
      refine WP.cond rfl (fun hc8 => ?_) (fun hc8 => ?_)
      ·
       replace hm := ite_t hc8 hm
       refine WP.seq (WP.region (Va rfl (WL.nil (tn (WP.ret (block_ret (then_ret (then_ret (block_ret (then_ret (block_ret (then_ret (then_ret ?_)))))))))))))
       refine block_ret (then_ret ?_)
       obtain rfl := Option.some.inj hm
       refine retQ_ret results97 (Res.tmp rfl Res.nil) rfl (fun w' s => ⟨s.below, ?_⟩)
       exact rfl
      replace hm := ite_f hc8 hm
      refine WP.skip (bn (tn (WP.region (Vm rfl (V rfl (ov_add rfl rfl rfl) (Va rfl (WL.nil (tn ?_))))))))
      exact ⟨(IntKind.wrap .i64 (i2 + 1)), (Sub.all rfl), fun w' s => s, hm⟩
     replace hm := ite_f hc7 hm
     refine WP.exit (then_exit (then_exit (block_here (tn ?_))))
     exact ⟨(Sub.all rfl), fun w' s => s, hm⟩
    rintro g' S' ⟨hsub3, hS3, hm⟩
    refine WP.sub hsub3 (WP.weaken hS3 ?_)
    replace hm := hk3.symm.trans hm
    refine WP.seq (WP.seq (WP.region (V rfl (ov_load_whole (i := 0) isAgg25 sizeOf25 rfl rfl rfl rfl) (Vm rfl ?_))))
    obtain ⟨r2, e5, hm⟩ := bind_some hm
    refine wo rfl (oq_con (r := (.bool r2)) call133 rfl rfl (fun w' s => ⟨_, (ref13_Suits_con x1 l1 ao3 cap3 ao2 cap2  w' H2 s.hold h4 hc5 h3 hc3 hG r2 e5)⟩)) ?_
    refine V rfl (ov_not rfl rfl) (WL.nil (tn ?_))
    refine WP.cond rfl (fun hc9 => ?_) (fun hc9 => ?_)
    ·
     replace hm := ite_t hc9 hm
     refine WP.seq (WP.region (Va rfl (WL.nil (tn (WP.ret (then_ret (block_ret (then_ret (then_ret (block_ret (then_ret ?_)))))))))))
     obtain rfl := Option.some.inj hm
     refine retQ_ret results97 (Res.tmp rfl Res.nil) rfl (fun w' s => ⟨s.below, ?_⟩)
     exact rfl
    replace hm := ite_f hc9 hm
    refine WP.skip (tn (WP.region (V rfl (ov_load_whole (i := 0) isAgg25 sizeOf25 rfl rfl rfl rfl) (Vm rfl ?_))))
    obtain ⟨r3, e6, hm⟩ := bind_some hm
    refine ws rfl (os_con call134 rfl rfl (fun w' s => (ref13_After_con x1 l1 ao3 cap3 ao2 cap2  w' H2 s.hold h4 hc5 h3 hc3 hG r3 e6)) (fun rr1 H3 hle3 hR1 => ?_))
    replace h3 := h3.mono hle3
    obtain ⟨ao4, cap4, rfl, h15, hc10⟩ := hR1
    refine Va rfl (WL.nil (bn (tn ?_)))
    exact ⟨H3, r3, ao4, cap4, hle3, h15, hc10, (Sub.all rfl), fun w' s => (s.select [1] (by decide) rfl), hm⟩
   rintro g' S' ⟨H4, l2, ao5, cap5, hle4, h16, hc11, hsub4, hS4, hm⟩
   refine WP.sub hsub4 (WP.weaken hS4 ?_)
   replace hm := (congrFun hk2 l2).symm.trans hm
   refine WP.region (Vm rfl (V rfl (ov_add rfl rfl rfl) (Va rfl (WL.nil (tn ?_)))))
   exact ⟨H4, l2, ao5, cap5, (IntKind.wrap .i64 (i1 + 1)), (hle2.trans hle4), h16, hc11, (Sub.all rfl), fun w' s => s, hm⟩
  replace hm := ite_f hc4 hm
  refine WP.exit (then_exit (then_exit (block_here (tn ?_))))
  exact ⟨H2, l1, ao2, cap2, (hle1.trans hle2), h3, hc3, (Sub.all rfl), fun w' s => s, hm⟩
 rintro g' S' ⟨H5, l3, ao6, cap6, hle5, h17, hc12, hsub5, hS5, hm⟩
 refine WP.sub hsub5 (WP.weaken hS5 ?_)
 replace hm := (congrFun hk1 l3).symm.trans hm
 obtain ⟨k4, hk4, hm⟩ := joinK_some hm
 refine WP.seq_join (fun g' S' => Sub [(1000000007, (.bool false))] g' ∧ (∀ w', S' w' → St w H [] H5 w') ∧ k4 = some r) ?_ ?_
 ·
  refine WP.seq (WP.region (Va rfl (WL.nil (tn (WP.block ?_)))))
  refine WP.loop (fun m3 g' S' => ∃ (i3 : Int), Sub [(1, (pB b1 0)), (3, (.slice ao6 l3.length cap6)), (8, (.int .i64 i3)), (1000000007, (.bool false))] g' ∧ (∀ w', S' w' → St w H [.blk b1 48 [(.int .i64 p_s.actuators), (.slice ao1 p_s.steps.length cap1)]] H5 w') ∧ ref14_steps_loop3 p_s l3 k4 m3 i3 = some r) ((Int.toNat (p_s.actuators - 0) + 1)) ⟨0, (Sub.all rfl), fun w' s => s, hm⟩ ?_ ?_
  ·
   rintro g' S' ⟨_, _, _, hm⟩
   exact none_some hm
  rintro m3 g' S' ⟨i3, hsub6, hS6, hm⟩
  refine WP.sub hsub6 (WP.weaken hS6 ?_)
  rw [ref14_steps_loop3] at hm
  refine WP.seq (WP.seq (WP.region (Vm rfl (V rfl (ov_fieldAddr underlying48 rfl rfl rfl sizeOf3 rfl rfl) (Vl 0 isAgg3 rfl (V rfl (ov_lss rfl rfl rfl) (WL.nil (tn ?_))))))))
  refine WP.cond rfl (fun hc13 => ?_) (fun hc13 => ?_)
  ·
   replace hm := ite_t hc13 hm
   refine WP.skip (tn (WP.seq (WP.block (WP.seq (WP.region (Vm rfl (Vm rfl ?_)))))))
   obtain ⟨x3, e7, hm⟩ := bind_some hm
   obtain ⟨h18, h19, h20, cs3, h21, h22⟩ := h17.get e7 (by decide)
   obtain rfl : cs3 = [(.bool x3)] := h21
   refine V rfl (ov_indexAddr underlying114 sizeOf4 rfl rfl rfl h18 h19 h20) (V rfl (ov_load_elem (v := (.bool x3)) isAgg4 rfl rfl h22) (WL.nil (tn ?_)))
   refine WP.cond rfl (fun hc14 => ?_) (fun hc14 => ?_)
   ·
    replace hm := ite_t hc14 hm
    refine WP.seq (WP.region (Va rfl (WL.nil (tn (WP.ret (block_ret (then_ret (then_ret (block_ret (then_ret ?_))))))))))
    obtain rfl := Option.some.inj hm
    refine retQ_ret results97 (Res.tmp rfl Res.nil) rfl (fun w' s => ⟨s.below, ?_⟩)
    exact rfl
   replace hm := ite_f hc14 hm
   refine WP.skip (bn (tn (WP.region (Vm rfl (V rfl (ov_add rfl rfl rfl) (Va rfl (WL.nil (tn ?_))))))))
   exact ⟨(IntKind.wrap .i64 (i3 + 1)), (Sub.all rfl), fun w' s => s, hm⟩
  replace hm := ite_f hc13 hm
  refine WP.exit (then_exit (then_exit (block_here (tn ?_))))
  exact ⟨(Sub.all rfl), fun w' s => (s.select [] (by decide) rfl), hm⟩
 rintro g' S' ⟨hsub7, hS7, hm⟩
 refine WP.sub hsub7 (WP.weaken hS7 ?_)
 replace hm := hk4.symm.trans hm
 refine WP.seq (WP.region (Va rfl (WL.nil (tn (WP.ret ?_)))))
 obtain rfl := Option.some.inj hm
 refine retQ_ret results97 (Res.tmp rfl Res.nil) rfl (fun w' s => ⟨s.below, ?_⟩)
 exact rfl
end Go.Proofs.YtgpfgnpdbmbknaaGreatDoor.W
