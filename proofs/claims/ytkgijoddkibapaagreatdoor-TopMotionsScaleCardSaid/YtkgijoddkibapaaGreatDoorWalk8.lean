import Derived.Test.YtkgijoddkibapaaGreatDoorPlain
import Derived.Test.YtkgijoddkibapaaGreatDoorEqs
import Derived.Test.YtkgijoddkibapaaGreatDoorProg
import Derived.Test.YtkgijoddkibapaaGreatDoorExt
import Derived.Test.YtkgijoddkibapaaGreatDoorBuild
import Derived.Test.YtkgijoddkibapaaGreatDoorClone
import Derived.Test.YtkgijoddkibapaaGreatDoorIter
import Derived.Test.YtkgijoddkibapaaGreatDoorWalk3
import Derived.Test.YtkgijoddkibapaaGreatDoorWalk4
import Derived.Test.YtkgijoddkibapaaGreatDoorWalk6
import Derived.Test.YtkgijoddkibapaaGreatDoorWalk7
set_option linter.unusedVariables false
set_option maxRecDepth 100000
set_option maxHeartbeats 4000000
namespace Go.Proofs.YtkgijoddkibapaaGreatDoor.W
open Go Go.RowKit Go.Proofs.Tryz
theorem program_Parse_con (p_text : (List UInt8)) (w : World) (H : Heap) (hH : Le H (hp w)) (hG : Glob H) (r : (Node × Int × Int)) (hm : program_Parse p_text = some r) :
  Con prog 18 [(mkS p_text)] w H (fun v H' => ∃ (ao1 : Option Addr) (cap1 : Nat) (ao2 : Option Addr) (cap2 : Nat), v = (.tuple #[(.agg #[(.int .i64 r.1.kind), (.slice ao1 r.1.step.strokes.length cap1), (.int .i64 r.1.step.wait), (.int .i64 r.1.count), (mkS r.1.name), (.slice ao2 r.1.nodes.length cap2)]), (.int .i64 r.2.1), (.int .i64 r.2.2)]) ∧ SL H' encStroke ao1 r.1.step.strokes ∧ r.1.step.strokes.length ≤ cap1 ∧ SL H' encNode ao2 r.1.nodes ∧ r.1.nodes.length ≤ cap2) := by
 unfold program_Parse at hm
 refine con_of hH func18 rfl 49 ntmps18 rfl ?_
 refine WP.seq (WP.region ?_)
 refine ws rfl (os_alloc (cs := [(.int .i64 0), (.slice none 0 0), (.int .i64 0), (.int .i64 0), (mkS []), (.slice none 0 0)]) zeroValue62 rfl rfl (fun b1 => ?_))
 refine Va rfl (Va rfl (WL.nil (tn (WP.seq (WP.region (Vm rfl ?_))))))
 obtain ⟨r1, e1, hm⟩ := bind_some hm
 refine ws rfl (os_con call37 rfl rfl (fun w' s => (lexer_Scan_con p_text  w' H s.hold hG r1 e1)) (fun rr1 H1 hle1 hR1 => ?_))
 replace hG := hG.mono hle1
 obtain ⟨ao3, cap3, rfl, h3, hc3⟩ := hR1
 refine Vm rfl (Ve rfl (Ve rfl (Ve rfl (Va rfl (Va rfl (Va rfl (WL.nil (tn (WP.seq (WP.seq (WP.region (Vm rfl (V rfl (ov_neq rfl rfl rfl) ?_)))))))))))))
 refine WL.nil (tn ?_)
 refine WP.cond rfl (fun hc4 => ?_) (fun hc4 => ?_)
 ·
  replace hm := ite_t hc4 hm
  refine WP.seq (WP.region (V rfl (ov_build (r := (.agg #[(.int .i64 0), (.slice none 0 0), (.int .i64 0), (.int .i64 0), (mkS []), (.slice none 0 0)])) rfl rfl (fun _ => by kernel_rfl)) (Vm rfl (Vm rfl ?_))))
  refine ws0 rfl (os_store (i := 0) (vs := [(.int .i64 0), (.slice none 0 0), (.int .i64 0), (.int .i64 0), (mkS []), (.slice none 0 0)]) (cs' := [(.int .i64 0), (.slice none 0 0), (.int .i64 0), (.int .i64 0), (mkS []), (.slice none 0 0)]) sizeOf62 rfl rfl rfl rfl rfl rfl rfl rfl rfl ?_)
  refine Va rfl (Va rfl (WL.nil (tn (WP.ret (then_ret ?_)))))
  obtain rfl := Option.some.inj hm
  refine retQ_ret results18 (Res.cell rfl (box_loads (i := 0) isAgg62 sizeOf62 rfl rfl) (Res.tmp rfl (Res.tmp rfl Res.nil))) rfl (fun w' s => ⟨s.below, ?_⟩)
  exact ⟨none, 0, none, 0, rfl, SL.nil _ _ _, Nat.le_refl _, SL.nil _ _ _, Nat.le_refl _⟩
 replace hm := ite_f hc4 hm
 refine WP.skip (tn (WP.seq (WP.region (Vm rfl (V rfl (ov_build (r := (.agg #[(.slice ao3 r1.1.length cap3), (.int .i64 0), (.bool false)])) rfl rfl (fun _ => by kernel_rfl)) ?_)))))
 refine ws rfl (os_box (cs := [(.slice ao3 r1.1.length cap3), (.int .i64 0), (.bool false)]) rfl rfl rfl (fun b2 => ?_))
 refine Va rfl (WL.nil (tn (WP.seq (WP.region (Vm rfl ?_)))))
 obtain ⟨r2, e2, hm⟩ := bind_some hm
 refine ws rfl (os_bcon call38 rfl rfl (program_reader_node_con 600 (Rdr.mk r1.1 0 false) b2 ao3 cap3 w H [.blk b1 62 [(.int .i64 0), (.slice none 0 0), (.int .i64 0), (.int .i64 0), (mkS []), (.slice none 0 0)]] H1 h3 hc3 hG r2 e2) (fun rr2 H2 ms1 hle2 hR2 => ?_))
 replace h3 := h3.mono hle2
 replace hG := hG.mono hle2
 obtain ⟨ao4, cap4, ao5, cap5, rfl, rfl, h4, hc5, h5, hc6⟩ := hR2
 refine ws rfl (os_alloc (cs := [(.int .i64 0), (.slice none 0 0), (.int .i64 0), (.int .i64 0), (mkS []), (.slice none 0 0)]) zeroValue62 rfl rfl (fun b3 => ?_))
 refine ws0 rfl (os_store (i := 0) (vs := [(.int .i64 r2.1.kind), (.slice ao4 r2.1.step.strokes.length cap4), (.int .i64 r2.1.step.wait), (.int .i64 r2.1.count), (mkS r2.1.name), (.slice ao5 r2.1.nodes.length cap5)]) (cs' := [(.int .i64 r2.1.kind), (.slice ao4 r2.1.step.strokes.length cap4), (.int .i64 r2.1.step.wait), (.int .i64 r2.1.count), (mkS r2.1.name), (.slice ao5 r2.1.nodes.length cap5)]) sizeOf62 rfl rfl rfl rfl rfl rfl rfl rfl rfl ?_)
 refine WL.nil (tn (WP.seq (WP.seq (WP.region (Vm rfl ?_)))))
 refine ws rfl (os_inline (cap := []) (vs := [(pB b2 0)]) call39 rfl rfl rfl func39 rfl 13 ntmps39 rfl (fun w' s => ?_))
 refine WP.seq (WP.region ?_)
 refine ws rfl (os_alloc (cs := [(.int .i64 0), (mkS []), (.int .i64 0)]) zeroValue91 rfl rfl (fun b4 => ?_))
 refine WL.nil (tn (WP.seq ?_))
 refine WP.region_any (S₀ := St w H [.blk b3 62 [(.int .i64 r2.1.kind), (.slice ao4 r2.1.step.strokes.length cap4), (.int .i64 r2.1.step.wait), (.int .i64 r2.1.count), (mkS r2.1.name), (.slice ao5 r2.1.nodes.length cap5)], .blk b2 88 [(.slice ao3 r1.1.length cap3), (.int .i64 r2.2.1), (.bool r2.2.2)], .blk b1 62 [(.int .i64 0), (.slice none 0 0), (.int .i64 0), (.int .i64 0), (mkS []), (.slice none 0 0)]] H2) 11 rfl (by kernel_rfl) (fun w' s => (s.select [1, 2, 3] (by decide) rfl)) (fun _ s => s.drew) ?_
 refine TQ 0 (by kernel_rfl) rfl (ov_move rfl rfl) (TQ 1 (by kernel_rfl) rfl (ov_nilCheckB rfl rfl) (TQ 2 (by kernel_rfl) rfl (ov_fieldAddr underlying88 rfl rfl rfl sizeOf83 rfl rfl) (TQ 3 (by kernel_rfl) rfl (ov_load_box (i := 1) isAgg83 rfl rfl rfl rfl) (TQ 4 (by kernel_rfl) rfl (ov_move rfl rfl) (TQ 5 (by kernel_rfl) rfl (ov_nilCheckB rfl rfl) (TQ 6 (by kernel_rfl) rfl (ov_fieldAddr underlying88 rfl rfl rfl sizeOf3 rfl rfl) (TQ 7 (by kernel_rfl) rfl (ov_load_box (i := 1) isAgg3 rfl rfl rfl rfl) ?_)))))))
 obtain ⟨x1, e3, hm⟩ := bind_some hm
 obtain ⟨h6, h7, h8, cs1, h9, h10⟩ := h3.get e3 (by decide)
 obtain rfl : cs1 = [(.int .i64 x1.kind), (mkS x1.text), (.int .i64 x1.at_)] := h9
 refine TQ 8 (by kernel_rfl) rfl (ov_indexAddr underlying83 sizeOf91 rfl rfl rfl h6 h7 h8) (TQ 9 (by kernel_rfl) rfl (ov_load_elems (vs := [(.int .i64 x1.kind), (mkS x1.text), (.int .i64 x1.at_)]) isAgg91 sizeOf91 rfl rfl rfl h10 h8) ?_)
 refine AL.any (rs := [10]) (by kernel_rfl) (by decide) ?_
 refine ALs.cons0 (i := 10) rfl (Runs.free rfl) rfl ?_ ?_
 ·
  refine os_store (i := 0) (vs := [(.int .i64 x1.kind), (mkS x1.text), (.int .i64 x1.at_)]) (cs' := [(.int .i64 x1.kind), (mkS x1.text), (.int .i64 x1.at_)]) sizeOf91 rfl rfl rfl rfl rfl rfl rfl rfl rfl ?_
  refine ⟨fun w' s => (s.select [1, 2, 3] (by decide) rfl), ?_⟩
  refine AL.done (by kernel_rfl) ?_
  refine tn (WP.ret ?_)
  refine retQ_ret (v := (.agg #[(.int .i64 x1.kind), (mkS x1.text), (.int .i64 x1.at_)])) results39 (Res.cell rfl (box_loads (i := 0) isAgg91 sizeOf91 rfl rfl) Res.nil) rfl (fun w' s => ⟨_, ?_, s⟩)
  refine ws rfl (os_alloc (cs := [(.int .i64 0), (mkS []), (.int .i64 0)]) zeroValue91 rfl rfl (fun b5 => ?_))
  refine ws0 rfl (os_store (i := 0) (vs := [(.int .i64 x1.kind), (mkS x1.text), (.int .i64 x1.at_)]) (cs' := [(.int .i64 x1.kind), (mkS x1.text), (.int .i64 x1.at_)]) sizeOf91 rfl rfl rfl rfl rfl rfl rfl rfl rfl ?_)
  refine WL.nil (tn (WP.seq (WP.region (Vm rfl (V rfl (ov_nilCheckB rfl rfl) (V rfl (ov_fieldAddr underlying88 rfl rfl rfl sizeOf4 rfl rfl) (Vl 3 isAgg4 rfl (Vm rfl ?_))))))))
  refine WL.cut_bool 4 38 (x := (r2.2.2 || (x1.kind != 3))) ?_ ?_
  ·
   rcases Bool.eq_false_or_eq_true r2.2.2 with hc7 | hc7
   ·
    refine Vi rfl (Idle.no rfl rfl rfl hc7) (Vi rfl (Idle.no rfl rfl rfl hc7) (Vi rfl (Idle.no rfl rfl rfl hc7) (V rfl (ov_pick_true rfl (guard_eq rfl hc7) rfl) ?_)))
    exact WL.nil ⟨Sub.cons' rfl (congrArg Value.bool (orT hc7)) (Sub.dropn 4 rfl), fun _ s => s⟩
   refine wy hc7 rfl (ov_fieldAddr underlying91 rfl rfl rfl sizeOf3 rfl rfl) ?_
   refine wy hc7 rfl (ov_load_box (i := 0) isAgg3 rfl rfl rfl rfl) ?_
   refine wy hc7 rfl (ov_neq rfl rfl rfl) ?_
   refine V rfl (ov_pick_false rfl (guard_eq rfl hc7) rfl) ?_
   exact WL.nil ⟨Sub.cons' rfl (congrArg Value.bool (orF hc7)) (Sub.dropn 4 rfl), fun _ s => s⟩
  refine WL.nil (tn ?_)
  refine WP.cond rfl (fun hc8 => ?_) (fun hc8 => ?_)
  ·
   replace hm := ite_t hc8 hm
   refine WP.seq ?_
   refine WP.region_any (S₀ := St w H [.blk b5 91 [(.int .i64 x1.kind), (mkS x1.text), (.int .i64 x1.at_)], .blk b4 91 [(.int .i64 x1.kind), (mkS x1.text), (.int .i64 x1.at_)], .blk b3 62 [(.int .i64 r2.1.kind), (.slice ao4 r2.1.step.strokes.length cap4), (.int .i64 r2.1.step.wait), (.int .i64 r2.1.count), (mkS r2.1.name), (.slice ao5 r2.1.nodes.length cap5)], .blk b2 88 [(.slice ao3 r1.1.length cap3), (.int .i64 r2.2.1), (.bool r2.2.2)], .blk b1 62 [(.int .i64 0), (.slice none 0 0), (.int .i64 0), (.int .i64 0), (mkS []), (.slice none 0 0)]] H2) 6 rfl (by kernel_rfl) (fun w' s => s) (fun _ s => s.drew) ?_
   refine TQ 0 (by kernel_rfl) rfl (ov_build (r := (.agg #[(.int .i64 0), (.slice none 0 0), (.int .i64 0), (.int .i64 0), (mkS []), (.slice none 0 0)])) rfl rfl (fun _ => by kernel_rfl)) (TQ 1 (by kernel_rfl) rfl (ov_fieldAddr underlying91 rfl rfl rfl sizeOf3 rfl rfl) (TQ 2 (by kernel_rfl) rfl (ov_load_box (i := 0) isAgg3 rfl rfl rfl rfl) ?_))
   refine AL.any (rs := [3]) (by kernel_rfl) (by decide) ?_
   refine ALs.cons0 (i := 3) rfl (Runs.free rfl) rfl ?_ ?_
   ·
    refine os_store (i := 4) (vs := [(.int .i64 0), (.slice none 0 0), (.int .i64 0), (.int .i64 0), (mkS []), (.slice none 0 0)]) (cs' := [(.int .i64 0), (.slice none 0 0), (.int .i64 0), (.int .i64 0), (mkS []), (.slice none 0 0)]) sizeOf62 rfl rfl rfl rfl rfl rfl rfl rfl rfl ?_
    refine ⟨fun w' s => s, ?_⟩
    refine TQ 4 (by kernel_rfl) rfl (ov_assign rfl rfl) (TQ 5 (by kernel_rfl) rfl (ov_assign rfl rfl) ?_)
    refine AL.done (by kernel_rfl) ?_
    refine tn (WP.ret (then_ret ?_))
    obtain rfl := Option.some.inj hm
    refine retQ_ret results18 (Res.cell rfl (box_loads (i := 4) isAgg62 sizeOf62 rfl rfl) (Res.tmp rfl (Res.tmp rfl Res.nil))) rfl (fun w' s => ⟨s.below, ?_⟩)
    exact ⟨none, 0, none, 0, rfl, SL.nil _ _ _, Nat.le_refl _, SL.nil _ _ _, Nat.le_refl _⟩
   exact ALs.nil
  replace hm := ite_f hc8 hm
  refine WP.skip (tn (WP.seq (WP.seq (WP.region (V rfl (ov_load_whole (i := 2) isAgg62 sizeOf62 rfl rfl rfl rfl) ?_)))))
  obtain ⟨r3, e4, hm⟩ := bind_some hm
  refine wo rfl (oq_con (r := (.int .i64 r3)) call40 rfl rfl (fun w' s => ⟨_, (program_Check_con r2.1 ao4 cap4 ao5 cap5  w' H2 s.hold h4 hc5 h5 hc6 hG r3 e4)⟩)) ?_
  refine Va rfl (WL.nil (tn (WP.seq (WP.region (Vm rfl (V rfl (ov_neq rfl rfl rfl) (WL.nil (tn ?_))))))))
  refine WP.cond rfl (fun hc9 => ?_) (fun hc9 => ?_)
  ·
   replace hm := ite_t hc9 hm
   refine WP.seq (WP.region (V rfl (ov_build (r := (.agg #[(.int .i64 0), (.slice none 0 0), (.int .i64 0), (.int .i64 0), (mkS []), (.slice none 0 0)])) rfl rfl (fun _ => by kernel_rfl)) (Vm rfl ?_)))
   refine ws0 rfl (os_store (i := 4) (vs := [(.int .i64 0), (.slice none 0 0), (.int .i64 0), (.int .i64 0), (mkS []), (.slice none 0 0)]) (cs' := [(.int .i64 0), (.slice none 0 0), (.int .i64 0), (.int .i64 0), (mkS []), (.slice none 0 0)]) sizeOf62 rfl rfl rfl rfl rfl rfl rfl rfl rfl ?_)
   refine Va rfl (Va rfl (WL.nil (tn (WP.ret (then_ret ?_)))))
   obtain rfl := Option.some.inj hm
   refine retQ_ret results18 (Res.cell rfl (box_loads (i := 4) isAgg62 sizeOf62 rfl rfl) (Res.tmp rfl (Res.tmp rfl Res.nil))) rfl (fun w' s => ⟨s.below, ?_⟩)
   exact ⟨none, 0, none, 0, rfl, SL.nil _ _ _, Nat.le_refl _, SL.nil _ _ _, Nat.le_refl _⟩
  replace hm := ite_f hc9 hm
  refine WP.skip (tn (WP.seq (WP.region (V rfl (ov_load_whole (i := 2) isAgg62 sizeOf62 rfl rfl rfl rfl) ?_))))
  refine ws0 rfl (os_store (i := 4) (vs := [(.int .i64 r2.1.kind), (.slice ao4 r2.1.step.strokes.length cap4), (.int .i64 r2.1.step.wait), (.int .i64 r2.1.count), (mkS r2.1.name), (.slice ao5 r2.1.nodes.length cap5)]) (cs' := [(.int .i64 r2.1.kind), (.slice ao4 r2.1.step.strokes.length cap4), (.int .i64 r2.1.step.wait), (.int .i64 r2.1.count), (mkS r2.1.name), (.slice ao5 r2.1.nodes.length cap5)]) sizeOf62 rfl rfl rfl rfl rfl rfl rfl rfl rfl ?_)
  refine Va rfl (Va rfl (WL.nil (tn (WP.ret ?_))))
  obtain rfl := Option.some.inj hm
  refine retQ_ret results18 (Res.cell rfl (box_loads (i := 4) isAgg62 sizeOf62 rfl rfl) (Res.tmp rfl (Res.tmp rfl Res.nil))) rfl (fun w' s => ⟨s.below, ?_⟩)
  exact ⟨ao4, cap4, ao5, cap5, rfl, h4.mono s.le_newer, hc5, h5.mono s.le_newer, hc6⟩
 exact ALs.nil
theorem program_of_body_con (self : Node → Option Motion) (hself : ∀ (p_n : Node) (ao1 : Option Addr) (cap1 : Nat) (ao2 : Option Addr) (cap2 : Nat) (w : World) (H : Heap) (hH : Le H (hp w)) (h1 : SL H encStroke ao1 p_n.step.strokes) (hc1 : p_n.step.strokes.length ≤ cap1) (h2 : SL H encNode ao2 p_n.nodes) (hc2 : p_n.nodes.length ≤ cap2) (hG : Glob H) (r : Motion) (hm : self p_n = some r), Con prog 103 [(.agg #[(.int .i64 p_n.kind), (.slice ao1 p_n.step.strokes.length cap1), (.int .i64 p_n.step.wait), (.int .i64 p_n.count), (mkS p_n.name), (.slice ao2 p_n.nodes.length cap2)])] w H (fun v H' => ∃ (t1 : TypeId) (c1 : Value), v = (.iface t1 c1) ∧ MotionRep H' r (.iface t1 c1))) (p_n : Node) (ao1 : Option Addr) (cap1 : Nat) (ao2 : Option Addr) (cap2 : Nat) (w : World) (H : Heap) (hH : Le H (hp w)) (h1 : SL H encStroke ao1 p_n.step.strokes) (hc1 : p_n.step.strokes.length ≤ cap1) (h2 : SL H encNode ao2 p_n.nodes) (hc2 : p_n.nodes.length ≤ cap2) (hG : Glob H) (r : Motion) (hm : program_of_body self p_n = some r) :
  Con prog 103 [(.agg #[(.int .i64 p_n.kind), (.slice ao1 p_n.step.strokes.length cap1), (.int .i64 p_n.step.wait), (.int .i64 p_n.count), (mkS p_n.name), (.slice ao2 p_n.nodes.length cap2)])] w H (fun v H' => ∃ (t1 : TypeId) (c1 : Value), v = (.iface t1 c1) ∧ MotionRep H' r (.iface t1 c1)) := by
 unfold program_of_body at hm
 refine con_of hH func103 rfl 51 ntmps103 rfl ?_
 refine WP.seq (WP.region ?_)
 refine ws rfl (os_box (cs := [(.int .i64 p_n.kind), (.slice ao1 p_n.step.strokes.length cap1), (.int .i64 p_n.step.wait), (.int .i64 p_n.count), (mkS p_n.name), (.slice ao2 p_n.nodes.length cap2)]) rfl rfl rfl (fun b1 => ?_))
 refine Va rfl (WL.nil (tn (WP.seq (WP.region (Va rfl (WL.nil (tn ?_)))))))
 obtain ⟨k1, hk1, hm⟩ := joinK_some hm
 refine WP.seq_join (fun g' S' => ∃ (H3 : Heap) (l3 : (List Motion)) (ao7 : Option Addr) (cap7 : Nat) (xs2 : List Value), Le H H3 ∧ RL H3 encMotion l3 xs2 ∧ Sub [(1, (pB b1 0)), (3, (.slice ao7 l3.length cap7)), (1000000007, (.bool false))] g' ∧ (∀ w', S' w' → St w H [.row 180 (encMotion).size l3.length (.slice ao7 l3.length cap7) xs2, .blk b1 62 [(.int .i64 p_n.kind), (.slice ao1 p_n.step.strokes.length cap1), (.int .i64 p_n.step.wait), (.int .i64 p_n.count), (mkS p_n.name), (.slice ao2 p_n.nodes.length cap2)]] H3 w') ∧ k1 l3 = some r) ?_ ?_
 ·
  refine WP.seq (WP.region (V rfl (ov_fieldAddr underlying62 rfl rfl rfl sizeOf60 rfl rfl) (Vl 0 isAgg60 rfl (V rfl (ov_len_slice underlying60 rfl rfl) (Vm rfl (WL.nil (tn (WP.block ?_))))))))
  have rl1 := RL.nil (α := Motion) H encMotion
  refine WP.weaken (fun _ s => s.nilrow 180 (encMotion).size) ?_
  refine WP.loop (fun m1 g' S' => ∃ (H1 : Heap) (i1 : Int) (l1 : (List Motion)) (ao3 : Option Addr) (cap3 : Nat) (xs1 : List Value), Le H H1 ∧ RL H1 encMotion l1 xs1 ∧ Sub [(1, (pB b1 0)), (3, (.slice ao3 l1.length cap3)), (7, (.slice ao2 p_n.nodes.length cap2)), (8, (.int .i64 (p_n.nodes.length : Int))), (9, (.int .i64 i1)), (1000000007, (.bool false))] g' ∧ (∀ w', S' w' → St w H [.row 180 (encMotion).size l1.length (.slice ao3 l1.length cap3) xs1, .blk b1 62 [(.int .i64 p_n.kind), (.slice ao1 p_n.step.strokes.length cap1), (.int .i64 p_n.step.wait), (.int .i64 p_n.count), (mkS p_n.name), (.slice ao2 p_n.nodes.length cap2)]] H1 w') ∧ program_of_loop1 p_n self k1 m1 i1 l1 = some r) ((Int.toNat ((p_n.nodes.length : Int) - 0) + 1)) ⟨H, 0, ([] : List Motion), none, 0, [], (Le.refl _), rl1, (Sub.all rfl), fun w' s => s, hm⟩ ?_ ?_
  ·
   rintro g' S' ⟨_, _, _, _, _, _, _, _, _, _, hm⟩
   exact none_some hm
  rintro m1 g' S' ⟨H1, i1, l1, ao3, cap3, xs1, hle1, rl2, hsub1, hS1, hm⟩
  refine WP.sub hsub1 (WP.weaken hS1 ?_)
  rw [program_of_loop1] at hm
  replace h2 := h2.mono hle1
  replace h1 := h1.mono hle1
  replace hG := hG.mono hle1
  refine WP.seq (WP.region (V rfl (ov_lss rfl rfl rfl) (WL.nil (tn (WP.seq ?_)))))
  refine WP.cond rfl (fun hc3 => ?_) (fun hc3 => ?_)
  ·
   replace hm := ite_t hc3 hm
   refine WP.skip (tn (WP.seq (WP.block (WP.seq (WP.region ?_)))))
   obtain ⟨x1, e1, hm⟩ := bind_some hm
   obtain ⟨h6, h7, h8, cs1, h9, h10⟩ := h2.get e1 (by decide)
   obtain ⟨ao4, cap4, ao5, cap5, rfl, h4, hc4, h5, hc5⟩ := (encNode_open h9)
   refine V rfl (ov_indexAddr underlying60 sizeOf62 rfl rfl rfl h6 h7 h8) (V rfl (ov_load_elems (vs := [(.int .i64 x1.kind), (.slice ao4 x1.step.strokes.length cap4), (.int .i64 x1.step.wait), (.int .i64 x1.count), (mkS x1.name), (.slice ao5 x1.nodes.length cap5)]) isAgg62 sizeOf62 rfl rfl rfl h10 h8) ?_)
   refine ws rfl (os_alloc (cs := [(.int .i64 0), (.slice none 0 0), (.int .i64 0), (.int .i64 0), (mkS []), (.slice none 0 0)]) zeroValue62 rfl rfl (fun b2 => ?_))
   refine ws0 rfl (os_store (i := 0) (vs := [(.int .i64 x1.kind), (.slice ao4 x1.step.strokes.length cap4), (.int .i64 x1.step.wait), (.int .i64 x1.count), (mkS x1.name), (.slice ao5 x1.nodes.length cap5)]) (cs' := [(.int .i64 x1.kind), (.slice ao4 x1.step.strokes.length cap4), (.int .i64 x1.step.wait), (.int .i64 x1.count), (mkS x1.name), (.slice ao5 x1.nodes.length cap5)]) sizeOf62 rfl rfl rfl rfl rfl rfl rfl rfl rfl ?_)
   refine WL.nil (tn (WP.region (Vm rfl (V rfl (ov_load_whole (i := 0) isAgg62 sizeOf62 rfl rfl rfl rfl) ?_))))
   obtain ⟨r1, e2, hm⟩ := bind_some hm
   refine ws rfl (os_con call103 rfl rfl (fun w' s => (hself x1 ao4 cap4 ao5 cap5  w' H1 s.hold h4 hc4 h5 hc5 hG r1 e2)) (fun rr1 H2 hle2 hR1 => ?_))
   replace rl2 := rl2.mono hle2
   replace h1 := h1.mono hle2
   obtain ⟨t2, c2, rfl, h11⟩ := hR1
   have rl3 : RL H2 encMotion ([r1] : List Motion) [(.iface t2 c2)] := RL.cons (cs := [(.iface t2 c2)]) (xs := []) ⟨t2, c2, rfl, h11⟩ (RL.nil _ _)
   refine ws rfl (os_buildSlice (cs := [(.iface t2 c2)]) (E := 180) (sz := 1) rfl rfl (fun _ => by kernel_rfl) rfl (by decide) (fun b3 => ?_))
   obtain ⟨l2, e3, hm⟩ := bind_some hm
   refine ws rfl (os_app (i := 2) (j := 0) (En := encMotion) (xs := xs1) (ys := [(.iface t2 c2)]) underlying202 (by kernel_rfl : (prog.info? 180).map (fun i => (i.zero, i.size, i.bytes)) = some (some .nilIface, (encMotion).size, 16)) rfl (by decide) rfl rfl rfl rfl rfl rfl rl2 rl3 e3 (fun ao6 cap6 rl4 => ?_))
   refine Va rfl (WL.nil (bn (tn (WP.region (V rfl (ov_add rfl rfl rfl) (Vm rfl (WL.nil (tn ?_))))))))
   exact ⟨H2, (IntKind.wrap .i64 (i1 + 1)), (l1 ++ ([r1] : List Motion)), ao6, cap6, (xs1 ++ [(.iface t2 c2)]), (hle1.trans hle2), rl4, (Sub.all rfl), fun w' s => (s.select [2, 3] (by decide) rfl), hm⟩
  replace hm := ite_f hc3 hm
  refine WP.exit (then_exit (then_exit (block_here (tn ?_))))
  exact ⟨H1, l1, ao3, cap3, xs1, hle1, rl2, (Sub.all rfl), fun w' s => s, hm⟩
 rintro g' S' ⟨H3, l3, ao7, cap7, xs2, hle3, rl5, hsub2, hS2, hm⟩
 refine WP.sub hsub2 (WP.weaken hS2 ?_)
 replace hm := (congrFun hk1 l3).symm.trans hm
 replace h1 := h1.mono hle3
 refine WP.seq (WP.seq (WP.region (V rfl (ov_fieldAddr underlying62 rfl rfl rfl sizeOf3 rfl rfl) (Vl 1 isAgg3 rfl (WL.nil (tn (WP.block (WP.seq (WP.region (V rfl (ov_eql rfl rfl rfl) (Va rfl (WL.nil (tn ?_)))))))))))))
 refine WP.cond rfl (fun hc6 => ?_) (fun hc6 => ?_)
 ·
  replace hm := ite_t hc6 hm
  refine WP.seq (WP.region (V rfl (ov_fieldAddr underlying62 rfl rfl rfl sizeOf55 rfl rfl) (V rfl (ov_load_boxes (i := 1) (vs := [(.slice ao1 p_n.step.strokes.length cap1), (.int .i64 p_n.step.wait)]) isAgg55 sizeOf55 rfl rfl rfl rfl (part_of rfl)) (V rfl (ov_build (r := (.agg #[(.slice ao1 p_n.step.strokes.length cap1), (.int .i64 p_n.step.wait)])) rfl rfl (fun _ => by kernel_rfl)) ?_))))
  have h12 : MotionRep H3 (Motion.single p_n.step) (.iface 204 (.agg #[(.slice ao1 p_n.step.strokes.length cap1), (.int .i64 p_n.step.wait)])) := MotionRep.mk_single h1 hc1
  refine V rfl (ov_makeIface underlying204 (fun _ h => by cases h) rfl rfl) (Va rfl (WL.nil (tn (WP.ret (block_ret (then_ret ?_))))))
  obtain rfl := Option.some.inj hm
  refine retQ_ret results103 (Res.tmp rfl Res.nil) rfl (fun w' s => ⟨s.below, ?_⟩)
  exact ⟨204, (.agg #[(.slice ao1 p_n.step.strokes.length cap1), (.int .i64 p_n.step.wait)]), rfl, h12.mono s.le_newer⟩
 replace hm := ite_f hc6 hm
 refine WP.seq (WP.region (V rfl (ov_eql rfl rfl rfl) (Va rfl (WL.nil (tn ?_)))))
 refine WP.cond rfl (fun hc7 => ?_) (fun hc7 => ?_)
 ·
  replace hm := ite_t hc7 hm
  refine WP.seq (WP.region (Vm rfl (V rfl (ov_build (r := (.agg #[(.slice ao7 l3.length cap7)])) rfl rfl (fun _ => by kernel_rfl)) ?_)))
  refine WL.held rl5 (fun H4 hc8 hle4 h13 => ?_)
  have h14 : MotionRep H4 (Motion.list l3) (.iface 206 (.agg #[(.slice ao7 l3.length cap7)])) := MotionRep.mk_list h13 hc8
  refine V rfl (ov_makeIface underlying206 (fun _ h => by cases h) rfl rfl) (Va rfl (WL.nil (tn (WP.ret (block_ret (then_ret ?_))))))
  obtain rfl := Option.some.inj hm
  refine retQ_ret results103 (Res.tmp rfl Res.nil) rfl (fun w' s => ⟨s.below, ?_⟩)
  exact ⟨206, (.agg #[(.slice ao7 l3.length cap7)]), rfl, h14.mono s.le_newer⟩
 replace hm := ite_f hc7 hm
 refine WP.seq (WP.region (V rfl (ov_eql rfl rfl rfl) (Va rfl (WL.nil (tn ?_)))))
 refine WP.cond rfl (fun hc9 => ?_) (fun hc9 => ?_)
 ·
  replace hm := ite_t hc9 hm
  refine WP.seq ?_
  refine WP.held rl5 (fun H5 hc10 hle5 h15 => ?_)
  refine WP.region_draws (by kernel_rfl) (by kernel_rfl) (fun _ s => s.drew) ?_
  refine qf rfl (ov_fieldAddr underlying62 rfl rfl rfl sizeOf3 rfl rfl) ?_
  refine qf rfl (ov_load_box (i := 0) isAgg3 rfl rfl rfl rfl) ?_
  refine qf rfl (ov_move rfl rfl) ?_
  obtain ⟨x2, e4, hm⟩ := bind_some hm
  obtain ⟨h17, h18, h19, cs2, h20, h21⟩ := h15.get e4 (by decide)
  obtain ⟨t3, c3, rfl, h16⟩ := h20
  refine qf rfl (ov_indexAddr underlying202 sizeOf180 rfl rfl rfl h17 h18 h19) ?_
  refine qf rfl (ov_load_elem (v := (.iface t3 c3)) isAgg180 rfl rfl h21) ?_
  refine qf rfl (ov_build (r := (.agg #[(.int .i64 p_n.count), (.iface t3 c3)])) rfl rfl (fun _ => by kernel_rfl)) ?_
  have h22 : MotionRep H5 (Motion.repeat_ p_n.count x2) (.iface 208 (.agg #[(.int .i64 p_n.count), (.iface t3 c3)])) := MotionRep.mk_repeat h16
  refine qf rfl (ov_makeIface underlying208 (fun _ h => by cases h) rfl rfl) ?_
  refine qf rfl (ov_assign rfl rfl) ?_
  refine QL.nil ?_
  refine tn (WP.ret (block_ret (then_ret ?_)))
  obtain rfl := Option.some.inj hm
  refine retQ_ret results103 (Res.tmp rfl Res.nil) rfl (fun w' s => ⟨s.below, ?_⟩)
  exact ⟨208, (.agg #[(.int .i64 p_n.count), (.iface t3 c3)]), rfl, h22.mono s.le_newer⟩
 replace hm := ite_f hc9 hm
 refine WP.skip (bn (tn (WP.seq ?_)))
 refine WP.held rl5 (fun H6 hc11 hle6 h23 => ?_)
 refine WP.region_draws (by kernel_rfl) (by kernel_rfl) (fun _ s => s.drew) ?_
 refine qf rfl (ov_fieldAddr underlying62 rfl rfl rfl sizeOf9 rfl rfl) ?_
 refine qf rfl (ov_load_box (i := 0) isAgg9 rfl rfl rfl rfl) ?_
 refine qf rfl (ov_move rfl rfl) ?_
 obtain ⟨x3, e5, hm⟩ := bind_some hm
 obtain ⟨h25, h26, h27, cs3, h28, h29⟩ := h23.get e5 (by decide)
 obtain ⟨t4, c4, rfl, h24⟩ := h28
 refine qf rfl (ov_indexAddr underlying202 sizeOf180 rfl rfl rfl h25 h26 h27) ?_
 refine qf rfl (ov_load_elem (v := (.iface t4 c4)) isAgg180 rfl rfl h29) ?_
 refine qf rfl (ov_move rfl rfl) ?_
 obtain ⟨x4, e6, hm⟩ := bind_some hm
 obtain ⟨h31, h32, h33, cs4, h34, h35⟩ := h23.get e6 (by decide)
 obtain ⟨t5, c5, rfl, h30⟩ := h34
 refine qf rfl (ov_indexAddr underlying202 sizeOf180 rfl rfl rfl h31 h32 h33) ?_
 refine qf rfl (ov_load_elem (v := (.iface t5 c5)) isAgg180 rfl rfl h35) ?_
 refine qf rfl (ov_build (r := (.agg #[(mkS p_n.name), (.iface t4 c4), (.iface t5 c5)])) rfl rfl (fun _ => by kernel_rfl)) ?_
 have h36 : MotionRep H6 (Motion.choice p_n.name x3 x4) (.iface 210 (.agg #[(mkS p_n.name), (.iface t4 c4), (.iface t5 c5)])) := MotionRep.mk_choice h24 h30
 refine qf rfl (ov_makeIface underlying210 (fun _ h => by cases h) rfl rfl) ?_
 refine qf rfl (ov_assign rfl rfl) ?_
 refine QL.nil ?_
 refine tn (WP.ret ?_)
 obtain rfl := Option.some.inj hm
 refine retQ_ret results103 (Res.tmp rfl Res.nil) rfl (fun w' s => ⟨s.below, ?_⟩)
 exact ⟨210, (.agg #[(mkS p_n.name), (.iface t4 c4), (.iface t5 c5)]), rfl, h36.mono s.le_newer⟩
theorem program_of_con (n : Nat) : ∀ (p_n : Node) (ao1 : Option Addr) (cap1 : Nat) (ao2 : Option Addr) (cap2 : Nat) (w : World) (H : Heap) (hH : Le H (hp w)) (h1 : SL H encStroke ao1 p_n.step.strokes) (hc1 : p_n.step.strokes.length ≤ cap1) (h2 : SL H encNode ao2 p_n.nodes) (hc2 : p_n.nodes.length ≤ cap2) (hG : Glob H) (r : Motion) (hm : program_of n p_n = some r),
  Con prog 103 [(.agg #[(.int .i64 p_n.kind), (.slice ao1 p_n.step.strokes.length cap1), (.int .i64 p_n.step.wait), (.int .i64 p_n.count), (mkS p_n.name), (.slice ao2 p_n.nodes.length cap2)])] w H (fun v H' => ∃ (t1 : TypeId) (c1 : Value), v = (.iface t1 c1) ∧ MotionRep H' r (.iface t1 c1)) := by
 induction n with
 | zero => intro p_n ao1 cap1 ao2 cap2 w H hH h1 hc1 h2 hc2 hG r hm; exact (none_some hm).elim
 | succ n ih => intro p_n ao1 cap1 ao2 cap2 w H hH h1 hc1 h2 hc2 hG r hm; exact program_of_body_con (program_of n) ih p_n ao1 cap1 ao2 cap2 w H hH h1 hc1 h2 hc2 hG r hm
theorem program_unfolded_con (p_n : Node) (p_on : (List (List UInt8))) (ao1 : Option Addr) (cap1 : Nat) (ao2 : Option Addr) (cap2 : Nat) (ao3 : Option Addr) (cap3 : Nat) (w : World) (H : Heap) (hH : Le H (hp w)) (h1 : SL H encStroke ao1 p_n.step.strokes) (hc1 : p_n.step.strokes.length ≤ cap1) (h2 : SL H encNode ao2 p_n.nodes) (hc2 : p_n.nodes.length ≤ cap2) (h3 : SL H encStr ao3 p_on) (hc3 : p_on.length ≤ cap3) (hG : Glob H) (r : ((List Step) × Int)) (hm : program_unfolded p_n p_on = some r) :
  Con prog 72 [(.agg #[(.int .i64 p_n.kind), (.slice ao1 p_n.step.strokes.length cap1), (.int .i64 p_n.step.wait), (.int .i64 p_n.count), (mkS p_n.name), (.slice ao2 p_n.nodes.length cap2)]), (.slice ao3 p_on.length cap3)] w H (fun v H' => ∃ (ao4 : Option Addr) (cap4 : Nat), v = (.tuple #[(.slice ao4 r.1.length cap4), (.int .i64 r.2)]) ∧ SL H' encStep ao4 r.1 ∧ r.1.length ≤ cap4) := by
 unfold program_unfolded at hm
 refine con_of hH func72 rfl 26 ntmps72 rfl ?_
 refine WP.seq (WP.region ?_)
 refine ws rfl (os_box (cs := [(.int .i64 p_n.kind), (.slice ao1 p_n.step.strokes.length cap1), (.int .i64 p_n.step.wait), (.int .i64 p_n.count), (mkS p_n.name), (.slice ao2 p_n.nodes.length cap2)]) rfl rfl rfl (fun b1 => ?_))
 refine ws rfl (os_alloc (cs := [(.slice none 0 0)]) zeroValue22 rfl rfl (fun b2 => ?_))
 refine ws rfl (os_alloc (cs := [(.int .i64 0)]) zeroValue34 rfl rfl (fun b3 => ?_))
 refine WL.nil (tn (WP.seq (WP.region ?_)))
 refine ws rfl (os_alloc (cs := [(.slice none 0 0)]) zeroValue22 rfl rfl (fun b4 => ?_))
 refine WL.nil (tn (WP.seq (WP.seq (WP.region (V rfl (ov_load_whole (i := 3) isAgg62 sizeOf62 rfl rfl rfl rfl) ?_)))))
 obtain ⟨r1, e1, hm⟩ := bind_some hm
 refine ws rfl (os_con call103 rfl rfl (fun w' s => (program_of_con 600 p_n ao1 cap1 ao2 cap2  w' H s.hold h1 hc1 h2 hc2 hG r1 e1)) (fun rr1 H1 hle1 hR1 => ?_))
 replace h3 := h3.mono hle1
 replace hG := hG.mono hle1
 obtain ⟨t1, c1, rfl, h5⟩ := hR1
 refine Vm rfl ?_
 obtain ⟨r2, e2, hm⟩ := bind_some hm
 refine ws rfl (os_invoke rfl rfl rfl (fun w' s => steps_con 600 hc3 r1 t1 c1 w' H1 s.hold h5 h3 hG r2 e2) (fun v1 H2 hle2 h6 => ?_))
 replace hG := hG.mono hle2
 refine WL.nil (tn (WP.block ?_))
 have rl1 := RL.nil (α := Step) H2 encStep
 refine WP.weaken (fun _ s => s.nilrow 55 (encStep).size) ?_
 obtain ⟨r3, e5, hm⟩ := bind_some hm
 refine WP.rangeC rfl (fun l1 D1 R1 hr1 w2 hs2 => ?_)
 have hY1 : Yields prog w H (.func (.yield l1) #[] #[]) encSeqStep (program_unfolded_rng1) (fun (q1 : ((List Step) × Int × (List Step))) (H3 : Heap) (ms : List Ent) => ∃ (ao5 : Option Addr) (cap5 : Nat) (xs1 : List Value) (ao6 : Option Addr) (cap6 : Nat), Le H2 H3 ∧ RL H3 encStep q1.1 xs1 ∧ SL H3 encStep ao6 q1.2.2 ∧ q1.2.2.length ≤ cap6 ∧ ms = [.obj l1 (R1 .ready none), .obj D1 (.deferred (some [])), .row 55 (encStep).size q1.1.length (.slice ao5 q1.1.length cap5) xs1, .blk b4 22 [(.slice ao5 q1.1.length cap5)], .blk b3 34 [(.int .i64 q1.2.1)], .blk b2 22 [(.slice ao6 q1.2.2.length cap6)], .blk b1 62 [(.int .i64 p_n.kind), (.slice ao1 p_n.step.strokes.length cap1), (.int .i64 p_n.step.wait), (.int .i64 p_n.count), (mkS p_n.name), (.slice ao2 p_n.nodes.length cap2)]]) (fun (q1 : ((List Step) × Int × (List Step))) (H3 : Heap) (ms : List Ent) => ∃ (ao5 : Option Addr) (cap5 : Nat) (xs1 : List Value) (ao6 : Option Addr) (cap6 : Nat), Le H2 H3 ∧ RL H3 encStep q1.1 xs1 ∧ SL H3 encStep ao6 q1.2.2 ∧ q1.2.2.length ≤ cap6 ∧ ms = [.obj l1 (R1 .done (some .ret)), .obj D1 (.deferred (some [])), .row 55 (encStep).size q1.1.length (.slice ao5 q1.1.length cap5) xs1, .blk b4 22 [(.slice ao5 q1.1.length cap5)], .blk b3 34 [(.int .i64 q1.2.1)], .blk b2 22 [(.slice ao6 q1.2.2.length cap6)], .blk b1 62 [(.int .i64 p_n.kind), (.slice ao1 p_n.step.strokes.length cap1), (.int .i64 p_n.step.wait), (.int .i64 p_n.count), (mkS p_n.name), (.slice ao2 p_n.nodes.length cap2)]]) := by
  refine ⟨?_, ?_, _, rfl, ?_⟩
  ·
   rintro q1 Ha Hb msx k ⟨ao5, cap5, xs1, ao6, cap6, h0, rl2, h7, hc5, rfl⟩; exact ⟨ao5, cap5, xs1, ao6, cap6, h0.trans k, rl2.mono k, h7.mono k, hc5, rfl⟩
  ·
   rintro q1 Ha Hb msx k ⟨ao5, cap5, xs1, ao6, cap6, h0, rl2, h7, hc5, rfl⟩; exact ⟨ao5, cap5, xs1, ao6, cap6, h0.trans k, rl2.mono k, h7.mono k, hc5, rfl⟩
  ·
   rintro q1 xx1 bq1 q2 vs H3 ms fr1 hm ⟨ao7, cap7, rfl, h8, hc6⟩ ⟨ao5, cap5, xs1, ao6, cap6, hle3, rl2, h7, hc5, rfl⟩ w1 hs1
   unfold program_unfolded_rng1 at hm
   replace h6 := h6.mono hle3
   replace rl1 := rl1.mono hle3
   replace hG := hG.mono hle3
   refine yields_call (i := 0) (vs := [(.agg #[(.slice ao7 xx1.strokes.length cap7), (.int .i64 xx1.wait)])]) (b := bq1) (q := q2) (T := (fun (q1 : ((List Step) × Int × (List Step))) (H3 : Heap) (ms : List Ent) => ∃ (ao5 : Option Addr) (cap5 : Nat) (xs1 : List Value) (ao6 : Option Addr) (cap6 : Nat), Le H2 H3 ∧ RL H3 encStep q1.1 xs1 ∧ SL H3 encStep ao6 q1.2.2 ∧ q1.2.2.length ≤ cap6 ∧ ms = [.obj l1 (R1 .ready none), .obj D1 (.deferred (some [])), .row 55 (encStep).size q1.1.length (.slice ao5 q1.1.length cap5) xs1, .blk b4 22 [(.slice ao5 q1.1.length cap5)], .blk b3 34 [(.int .i64 q1.2.1)], .blk b2 22 [(.slice ao6 q1.2.2.length cap6)], .blk b1 62 [(.int .i64 p_n.kind), (.slice ao1 p_n.step.strokes.length cap1), (.int .i64 p_n.step.wait), (.int .i64 p_n.count), (mkS p_n.name), (.slice ao2 p_n.nodes.length cap2)]])) (T' := (fun (q1 : ((List Step) × Int × (List Step))) (H3 : Heap) (ms : List Ent) => ∃ (ao5 : Option Addr) (cap5 : Nat) (xs1 : List Value) (ao6 : Option Addr) (cap6 : Nat), Le H2 H3 ∧ RL H3 encStep q1.1 xs1 ∧ SL H3 encStep ao6 q1.2.2 ∧ q1.2.2.length ≤ cap6 ∧ ms = [.obj l1 (R1 .done (some .ret)), .obj D1 (.deferred (some [])), .row 55 (encStep).size q1.1.length (.slice ao5 q1.1.length cap5) xs1, .blk b4 22 [(.slice ao5 q1.1.length cap5)], .blk b3 34 [(.int .i64 q1.2.1)], .blk b2 22 [(.slice ao6 q1.2.2.length cap6)], .blk b1 62 [(.int .i64 p_n.kind), (.slice ao1 p_n.step.strokes.length cap1), (.int .i64 p_n.step.wait), (.int .i64 p_n.count), (mkS p_n.name), (.slice ao2 p_n.nodes.length cap2)]])) hr1 hs1 rfl rfl rfl ?_
   refine WP.weaken (S₁ := St w H (.obj l1 (R1 .ready none) :: .obj D1 (.deferred (some [])) :: .row 55 (encStep).size q1.1.length (.slice ao5 q1.1.length cap5) xs1 :: .blk b4 22 [(.slice ao5 q1.1.length cap5)] :: .blk b3 34 [(.int .i64 q1.2.1)] :: .blk b2 22 [(.slice ao6 q1.2.2.length cap6)] :: .blk b1 62 [(.int .i64 p_n.kind), (.slice ao1 p_n.step.strokes.length cap1), (.int .i64 p_n.step.wait), (.int .i64 p_n.count), (mkS p_n.name), (.slice ao2 p_n.nodes.length cap2)] :: fr1) H3) (fun _ s => s) ?_
   refine WP.region ?_
   refine ws rfl (os_alloc (cs := [(.slice none 0 0), (.int .i64 0)]) zeroValue55 rfl rfl (fun b5 => ?_))
   refine ws0 rfl (os_store (i := 0) (vs := [(.slice ao7 xx1.strokes.length cap7), (.int .i64 xx1.wait)]) (cs' := [(.slice ao7 xx1.strokes.length cap7), (.int .i64 xx1.wait)]) sizeOf55 rfl rfl rfl rfl rfl rfl rfl rfl rfl ?_)
   refine WL.nil (tn ?_)
   refine begin_of (i := 1) rfl ?_
   refine WP.block (WP.seq (WP.seq (WP.region (Vl 4 isAgg22 rfl (V rfl (ov_len_slice underlying22 rfl rfl) (V rfl (ov_eql rfl rfl rfl) (WL.nil (tn ?_))))))))
   refine WP.cond rfl (fun hc7 => ?_) (fun hc7 => ?_)
   ·
    replace hm := ite_t hc7 hm
    refine WP.seq (WP.region ?_)
    refine ws0 rfl (os_store (i := 6) (vs := [(.slice none 0 0)]) (cs' := [(.slice none 0 0)]) sizeOf22 rfl rfl rfl rfl rfl rfl rfl rfl rfl ?_)
    refine ws0 rfl (os_store (i := 5) (vs := [(.int .i64 12)]) (cs' := [(.int .i64 12)]) sizeOf34 rfl rfl rfl rfl rfl rfl rfl rfl rfl ?_)
    refine WL.nil (tn (WP.ret (then_ret (block_ret ?_))))
    refine round_ret (i := 1) rfl ?_
    obtain ⟨rfl, rfl⟩ := Prod.mk.inj (Option.some.inj hm)
    exact ⟨rfl, H3, [.obj l1 (R1 .done (some .ret)), .obj D1 (.deferred (some [])), .row 55 (encStep).size q1.1.length (.slice ao5 q1.1.length cap5) xs1, .blk b4 22 [(.slice ao5 q1.1.length cap5)], .blk b3 34 [(.int .i64 12)], .blk b2 22 [(.slice none 0 0)], .blk b1 62 [(.int .i64 p_n.kind), (.slice ao1 p_n.step.strokes.length cap1), (.int .i64 p_n.step.wait), (.int .i64 p_n.count), (mkS p_n.name), (.slice ao2 p_n.nodes.length cap2)]], (Le.refl _), condF ⟨ao5, cap5, xs1, none, 0, (hle3.trans (Le.refl _)), rl2, (SL.nil _ _ _), (Nat.le_refl _), rfl⟩, fun w' s => (s.selectT 8 [1, 2, 3, 4, 5, 6, 7] (by decide) rfl rfl)⟩
   ·
    replace hm := ite_f hc7 hm
    refine WP.skip (tn ?_)
    refine WP.region_anyF (S₀ := St w H (.blk b5 55 [(.slice ao7 xx1.strokes.length cap7), (.int .i64 xx1.wait)] :: .obj l1 (R1 .busy none) :: .obj D1 (.deferred (some [])) :: .blk b3 34 [(.int .i64 q1.2.1)] :: .blk b2 22 [(.slice ao6 q1.2.2.length cap6)] :: .blk b1 62 [(.int .i64 p_n.kind), (.slice ao1 p_n.step.strokes.length cap1), (.int .i64 p_n.step.wait), (.int .i64 p_n.count), (mkS p_n.name), (.slice ao2 p_n.nodes.length cap2)] :: fr1) H3) 10 rfl (by kernel_rfl) (by kernel_rfl) (fun w' s => (s.selectT 8 [0, 1, 2, 5, 6, 7] (by decide) rfl rfl)) (fun _ s => s.drew) ?_
    refine TQ 1 (by kernel_rfl) rfl (ov_fieldAddr underlying55 rfl rfl rfl sizeOf53 rfl rfl) (TQ 2 (by kernel_rfl) rfl (ov_load_box (i := 0) isAgg53 rfl rfl rfl rfl) (TQ 4 (by kernel_rfl) rfl (ov_fieldAddr underlying55 rfl rfl rfl sizeOf3 rfl rfl) (TQ 5 (by kernel_rfl) rfl (ov_load_box (i := 0) isAgg3 rfl rfl rfl rfl) ?_)))
    refine AL.any (rs := [0, 3]) (by kernel_rfl) (by decide) ?_
    refine ALs.cons (i := 0) rfl (Runs.free rfl) rfl rfl ?_ ?_
    ·
     refine OQ.step (OV.quiet (ov_load_box (i := 4) isAgg22 rfl rfl rfl rfl)) ?_
     refine ⟨fun w' s => (s.selectT 8 [0, 1, 2, 5, 6, 7] (by decide) rfl rfl), ?_⟩
     refine AL.any (rs := [3]) (by kernel_rfl) (by decide) ?_
     refine ALs.cons (i := 3) rfl (Runs.free rfl) rfl rfl ?_ ?_
     ·
      obtain ⟨l4, e3, hm⟩ := bind_some hm
      refine os_cloneS rfl rfl h8 hc6 e3 (fun ao8 cap8 xs2 rl3 => ?_)
      refine ⟨fun w' s => (s.selectT 9 [1, 2, 3, 6, 7, 8] (by decide) rfl rfl), ?_⟩
      refine TQ 6 (by kernel_rfl) rfl (ov_build (r := (.agg #[(.slice ao8 xx1.strokes.length cap8), (.int .i64 xx1.wait)])) rfl rfl (fun _ => by kernel_rfl)) ?_
      refine AL.any (rs := [7]) (by kernel_rfl) (by decide) ?_
      refine ALs.cons (i := 7) rfl (Runs.free rfl) rfl rfl ?_ ?_
      ·
       refine OS.held rl3 (fun H4 hc8 hle4 h9 => ?_)
       replace h6 := h6.mono hle4
       replace h8 := h8.mono hle4
       replace rl2 := rl2.mono hle4
       replace h7 := h7.mono hle4
       replace hG := hG.mono hle4
       have rl4 : RL H4 encStep ([xx1] : List Step) [(.slice ao8 xx1.strokes.length cap8), (.int .i64 xx1.wait)] := RL.cons (cs := [(.slice ao8 xx1.strokes.length cap8), (.int .i64 xx1.wait)]) (xs := []) ⟨ao8, cap8, rfl, h9, hc8⟩ (RL.nil _ _)
       refine os_buildSlice (cs := [(.slice ao8 xx1.strokes.length cap8), (.int .i64 xx1.wait)]) (E := 55) (sz := 2) rfl rfl (fun _ => by kernel_rfl) rfl (by decide) (fun b6 => ?_)
       refine ⟨fun w' s => ((s.selectT 9 [1, 2, 3, 6, 7, 8] (by decide) rfl rfl).heap hle4), ?_⟩
       refine AL.any (rs := [8]) (by kernel_rfl) (by decide) ?_
       refine ALs.cons (i := 8) rfl (Runs.free rfl) rfl rfl ?_ ?_
       ·
        obtain ⟨l5, e4, hm⟩ := bind_some hm
        refine os_app (i := 4) (j := 0) (En := encStep) (xs := xs1) (ys := [(.slice ao8 xx1.strokes.length cap8), (.int .i64 xx1.wait)]) underlying22 (by kernel_rfl : (prog.info? 55).map (fun i => (i.zero, i.size, i.bytes)) = some (some (.agg #[(.slice none 0 0), (.int .i64 0)]), (encStep).size, 32)) rfl (by decide) rfl rfl rfl rfl rfl rfl rl2 rl4 e4 (fun ao9 cap9 rl5 => ?_)
        refine ⟨fun w' s => ((s.selectT 9 [1, 2, 3, 6, 7, 8] (by decide) rfl rfl).heap hle4), ?_⟩
        refine AL.any (rs := [9]) (by kernel_rfl) (by decide) ?_
        refine ALs.cons0 (i := 9) rfl (Runs.free rfl) rfl ?_ ?_
        ·
         refine os_store (i := 5) (vs := [(.slice ao9 (q1.1 ++ ([xx1] : List Step)).length cap9)]) (cs' := [(.slice ao9 (q1.1 ++ ([xx1] : List Step)).length cap9)]) sizeOf22 rfl rfl rfl rfl rfl rfl rfl rfl rfl ?_
         refine ⟨fun w' s => ((s.selectT 9 [1, 2, 3, 6, 7, 8] (by decide) rfl rfl).heap hle4), ?_⟩
         refine AL.done (by kernel_rfl) ?_
         refine bn ?_
         refine round_normal (i := 2) rfl ?_
         obtain ⟨rfl, rfl⟩ := Prod.mk.inj (Option.some.inj hm)
         exact ⟨rfl, H4, [.obj l1 (R1 .ready none), .obj D1 (.deferred (some [])), .row 55 (encStep).size (q1.1 ++ ([xx1] : List Step)).length (.slice ao9 (q1.1 ++ ([xx1] : List Step)).length cap9) (xs1 ++ [(.slice ao8 xx1.strokes.length cap8), (.int .i64 xx1.wait)]), .blk b4 22 [(.slice ao9 (q1.1 ++ ([xx1] : List Step)).length cap9)], .blk b3 34 [(.int .i64 q1.2.1)], .blk b2 22 [(.slice ao6 q1.2.2.length cap6)], .blk b1 62 [(.int .i64 p_n.kind), (.slice ao1 p_n.step.strokes.length cap1), (.int .i64 p_n.step.wait), (.int .i64 p_n.count), (mkS p_n.name), (.slice ao2 p_n.nodes.length cap2)]], hle4, condT ⟨ao9, cap9, (xs1 ++ [(.slice ao8 xx1.strokes.length cap8), (.int .i64 xx1.wait)]), ao6, cap6, (hle3.trans hle4), rl5, h7, hc5, rfl⟩, fun w' s => (s.selectT 9 [2, 3, 4, 5, 6, 7, 8] (by decide) rfl rfl)⟩
        exact ALs.nil
       exact ALs.nil
      exact ALs.nil
     exact ALs.nil
    refine ALs.cons (i := 3) rfl (Runs.free rfl) rfl rfl ?_ ?_
    ·
     obtain ⟨l4, e3, hm⟩ := bind_some hm
     refine os_cloneS rfl rfl h8 hc6 e3 (fun ao8 cap8 xs2 rl3 => ?_)
     refine ⟨fun w' s => (s.selectT 9 [1, 2, 3, 6, 7, 8] (by decide) rfl rfl), ?_⟩
     refine TQ 6 (by kernel_rfl) rfl (ov_build (r := (.agg #[(.slice ao8 xx1.strokes.length cap8), (.int .i64 xx1.wait)])) rfl rfl (fun _ => by kernel_rfl)) ?_
     refine AL.any (rs := [0, 7]) (by kernel_rfl) (by decide) ?_
     refine ALs.cons (i := 0) rfl (Runs.free rfl) rfl rfl ?_ ?_
     ·
      refine OQ.step (OV.quiet (ov_load_box (i := 5) isAgg22 rfl rfl rfl rfl)) ?_
      refine ⟨fun w' s => (s.selectT 9 [1, 2, 3, 6, 7, 8] (by decide) rfl rfl), ?_⟩
      refine AL.any (rs := [7]) (by kernel_rfl) (by decide) ?_
      refine ALs.cons (i := 7) rfl (Runs.free rfl) rfl rfl ?_ ?_
      ·
       refine OS.held rl3 (fun H4 hc8 hle4 h9 => ?_)
       replace h6 := h6.mono hle4
       replace rl2 := rl2.mono hle4
       replace h7 := h7.mono hle4
       replace hG := hG.mono hle4
       have rl4 : RL H4 encStep ([xx1] : List Step) [(.slice ao8 xx1.strokes.length cap8), (.int .i64 xx1.wait)] := RL.cons (cs := [(.slice ao8 xx1.strokes.length cap8), (.int .i64 xx1.wait)]) (xs := []) ⟨ao8, cap8, rfl, h9, hc8⟩ (RL.nil _ _)
       refine os_buildSlice (cs := [(.slice ao8 xx1.strokes.length cap8), (.int .i64 xx1.wait)]) (E := 55) (sz := 2) rfl rfl (fun _ => by kernel_rfl) rfl (by decide) (fun b6 => ?_)
       refine ⟨fun w' s => ((s.selectT 9 [1, 2, 3, 6, 7, 8] (by decide) rfl rfl).heap hle4), ?_⟩
       refine AL.any (rs := [8]) (by kernel_rfl) (by decide) ?_
       refine ALs.cons (i := 8) rfl (Runs.free rfl) rfl rfl ?_ ?_
       ·
        obtain ⟨l5, e4, hm⟩ := bind_some hm
        refine os_app (i := 4) (j := 0) (En := encStep) (xs := xs1) (ys := [(.slice ao8 xx1.strokes.length cap8), (.int .i64 xx1.wait)]) underlying22 (by kernel_rfl : (prog.info? 55).map (fun i => (i.zero, i.size, i.bytes)) = some (some (.agg #[(.slice none 0 0), (.int .i64 0)]), (encStep).size, 32)) rfl (by decide) rfl rfl rfl rfl rfl rfl rl2 rl4 e4 (fun ao9 cap9 rl5 => ?_)
        refine ⟨fun w' s => ((s.selectT 9 [1, 2, 3, 6, 7, 8] (by decide) rfl rfl).heap hle4), ?_⟩
        refine AL.any (rs := [9]) (by kernel_rfl) (by decide) ?_
        refine ALs.cons0 (i := 9) rfl (Runs.free rfl) rfl ?_ ?_
        ·
         refine os_store (i := 5) (vs := [(.slice ao9 (q1.1 ++ ([xx1] : List Step)).length cap9)]) (cs' := [(.slice ao9 (q1.1 ++ ([xx1] : List Step)).length cap9)]) sizeOf22 rfl rfl rfl rfl rfl rfl rfl rfl rfl ?_
         refine ⟨fun w' s => ((s.selectT 9 [1, 2, 3, 6, 7, 8] (by decide) rfl rfl).heap hle4), ?_⟩
         refine AL.done (by kernel_rfl) ?_
         refine bn ?_
         refine round_normal (i := 2) rfl ?_
         obtain ⟨rfl, rfl⟩ := Prod.mk.inj (Option.some.inj hm)
         exact ⟨rfl, H4, [.obj l1 (R1 .ready none), .obj D1 (.deferred (some [])), .row 55 (encStep).size (q1.1 ++ ([xx1] : List Step)).length (.slice ao9 (q1.1 ++ ([xx1] : List Step)).length cap9) (xs1 ++ [(.slice ao8 xx1.strokes.length cap8), (.int .i64 xx1.wait)]), .blk b4 22 [(.slice ao9 (q1.1 ++ ([xx1] : List Step)).length cap9)], .blk b3 34 [(.int .i64 q1.2.1)], .blk b2 22 [(.slice ao6 q1.2.2.length cap6)], .blk b1 62 [(.int .i64 p_n.kind), (.slice ao1 p_n.step.strokes.length cap1), (.int .i64 p_n.step.wait), (.int .i64 p_n.count), (mkS p_n.name), (.slice ao2 p_n.nodes.length cap2)]], hle4, condT ⟨ao9, cap9, (xs1 ++ [(.slice ao8 xx1.strokes.length cap8), (.int .i64 xx1.wait)]), ao6, cap6, (hle3.trans hle4), rl5, h7, hc5, rfl⟩, fun w' s => (s.selectT 9 [2, 3, 4, 5, 6, 7, 8] (by decide) rfl rfl)⟩
        exact ALs.nil
       exact ALs.nil
      exact ALs.nil
     refine ALs.cons (i := 7) rfl (Runs.free rfl) rfl rfl ?_ ?_
     ·
      refine OS.held rl3 (fun H4 hc8 hle4 h9 => ?_)
      replace h6 := h6.mono hle4
      replace rl2 := rl2.mono hle4
      replace h7 := h7.mono hle4
      replace hG := hG.mono hle4
      have rl4 : RL H4 encStep ([xx1] : List Step) [(.slice ao8 xx1.strokes.length cap8), (.int .i64 xx1.wait)] := RL.cons (cs := [(.slice ao8 xx1.strokes.length cap8), (.int .i64 xx1.wait)]) (xs := []) ⟨ao8, cap8, rfl, h9, hc8⟩ (RL.nil _ _)
      refine os_buildSlice (cs := [(.slice ao8 xx1.strokes.length cap8), (.int .i64 xx1.wait)]) (E := 55) (sz := 2) rfl rfl (fun _ => by kernel_rfl) rfl (by decide) (fun b6 => ?_)
      refine ⟨fun w' s => ((s.selectT 9 [1, 2, 3, 6, 7, 8] (by decide) rfl rfl).heap hle4), ?_⟩
      refine AL.any (rs := [0]) (by kernel_rfl) (by decide) ?_
      refine ALs.cons (i := 0) rfl (Runs.free rfl) rfl rfl ?_ ?_
      ·
       refine OQ.step (OV.quiet (ov_load_box (i := 5) isAgg22 rfl rfl rfl rfl)) ?_
       refine ⟨fun w' s => ((s.selectT 9 [1, 2, 3, 6, 7, 8] (by decide) rfl rfl).heap hle4), ?_⟩
       refine AL.any (rs := [8]) (by kernel_rfl) (by decide) ?_
       refine ALs.cons (i := 8) rfl (Runs.free rfl) rfl rfl ?_ ?_
       ·
        obtain ⟨l5, e4, hm⟩ := bind_some hm
        refine os_app (i := 4) (j := 0) (En := encStep) (xs := xs1) (ys := [(.slice ao8 xx1.strokes.length cap8), (.int .i64 xx1.wait)]) underlying22 (by kernel_rfl : (prog.info? 55).map (fun i => (i.zero, i.size, i.bytes)) = some (some (.agg #[(.slice none 0 0), (.int .i64 0)]), (encStep).size, 32)) rfl (by decide) rfl rfl rfl rfl rfl rfl rl2 rl4 e4 (fun ao9 cap9 rl5 => ?_)
        refine ⟨fun w' s => ((s.selectT 9 [1, 2, 3, 6, 7, 8] (by decide) rfl rfl).heap hle4), ?_⟩
        refine AL.any (rs := [9]) (by kernel_rfl) (by decide) ?_
        refine ALs.cons0 (i := 9) rfl (Runs.free rfl) rfl ?_ ?_
        ·
         refine os_store (i := 5) (vs := [(.slice ao9 (q1.1 ++ ([xx1] : List Step)).length cap9)]) (cs' := [(.slice ao9 (q1.1 ++ ([xx1] : List Step)).length cap9)]) sizeOf22 rfl rfl rfl rfl rfl rfl rfl rfl rfl ?_
         refine ⟨fun w' s => ((s.selectT 9 [1, 2, 3, 6, 7, 8] (by decide) rfl rfl).heap hle4), ?_⟩
         refine AL.done (by kernel_rfl) ?_
         refine bn ?_
         refine round_normal (i := 2) rfl ?_
         obtain ⟨rfl, rfl⟩ := Prod.mk.inj (Option.some.inj hm)
         exact ⟨rfl, H4, [.obj l1 (R1 .ready none), .obj D1 (.deferred (some [])), .row 55 (encStep).size (q1.1 ++ ([xx1] : List Step)).length (.slice ao9 (q1.1 ++ ([xx1] : List Step)).length cap9) (xs1 ++ [(.slice ao8 xx1.strokes.length cap8), (.int .i64 xx1.wait)]), .blk b4 22 [(.slice ao9 (q1.1 ++ ([xx1] : List Step)).length cap9)], .blk b3 34 [(.int .i64 q1.2.1)], .blk b2 22 [(.slice ao6 q1.2.2.length cap6)], .blk b1 62 [(.int .i64 p_n.kind), (.slice ao1 p_n.step.strokes.length cap1), (.int .i64 p_n.step.wait), (.int .i64 p_n.count), (mkS p_n.name), (.slice ao2 p_n.nodes.length cap2)]], hle4, condT ⟨ao9, cap9, (xs1 ++ [(.slice ao8 xx1.strokes.length cap8), (.int .i64 xx1.wait)]), ao6, cap6, (hle3.trans hle4), rl5, h7, hc5, rfl⟩, fun w' s => (s.selectT 9 [2, 3, 4, 5, 6, 7, 8] (by decide) rfl rfl)⟩
        exact ALs.nil
       exact ALs.nil
      exact ALs.nil
     exact ALs.nil
    exact ALs.nil
 have hT1 : TH hY1 (([] : List Step), 0, []) H2 [.obj l1 (R1 .ready none), .obj D1 (.deferred (some [])), .row 55 (encStep).size ([] : List Step).length (.slice none ([] : List Step).length 0) [], .blk b4 22 [(.slice none ([] : List Step).length 0)], .blk b3 34 [(.int .i64 0)], .blk b2 22 [(.slice none 0 0)], .blk b1 62 [(.int .i64 p_n.kind), (.slice ao1 p_n.step.strokes.length cap1), (.int .i64 p_n.step.wait), (.int .i64 p_n.count), (mkS p_n.name), (.slice ao2 p_n.nodes.length cap2)]] := ⟨none, 0, [], none, 0, Le.refl _, rl1, (SL.nil _ _ _), (Nat.le_refl _), rfl⟩
 refine VCalls.mono ((iterRun_con (program_unfolded_rng1) hY1 600 r2 p_on (([] : List Step), 0, []) v1 H2 h6 hG [.obj l1 (R1 .ready none), .obj D1 (.deferred (some [])), .row 55 (encStep).size ([] : List Step).length (.slice none ([] : List Step).length 0) [], .blk b4 22 [(.slice none ([] : List Step).length 0)], .blk b3 34 [(.int .i64 0)], .blk b2 22 [(.slice none 0 0)], .blk b1 62 [(.int .i64 p_n.kind), (.slice ao1 p_n.step.strokes.length cap1), (.int .i64 p_n.step.wait), (.int .i64 p_n.count), (mkS p_n.name), (.slice ao2 p_n.nodes.length cap2)]] hT1 r3 e5) [] w2 hs2) ?_
 rintro e w3 ⟨rv1, H5, ms1, rfl, hle5, ⟨tl1, rfl, hT2⟩, hs3⟩
 refine ⟨_, rfl, ?_⟩
 rcases Bool.eq_false_or_eq_true r3.1 with hc9 | hc9
 ·
  replace hm := ite_t hc9 hm
  obtain ⟨ao10, cap10, xs3, ao11, cap11, hle6, rl6, h10, hc10, rfl⟩ := cond_t hc9 hT2
  refine ⟨St w H [.obj l1 (R1 .ready none), .obj D1 (.deferred (some [])), .row 55 (encStep).size r3.2.1.length (.slice ao10 r3.2.1.length cap10) xs3, .blk b4 22 [(.slice ao10 r3.2.1.length cap10)], .blk b3 34 [(.int .i64 r3.2.2.1)], .blk b2 22 [(.slice ao11 r3.2.2.2.length cap11)], .blk b1 62 [(.int .i64 p_n.kind), (.slice ao1 p_n.step.strokes.length cap1), (.int .i64 p_n.step.wait), (.int .i64 p_n.count), (mkS p_n.name), (.slice ao2 p_n.nodes.length cap2)]] H5, ?_, hs3⟩
  refine after_normal ?_
  refine bn (tn (WP.seq (WP.region (Vl 2 isAgg22 rfl ?_))))
  refine ws0 rfl (os_store (i := 4) (vs := [(.slice ao10 r3.2.1.length cap10)]) (cs' := [(.slice ao10 r3.2.1.length cap10)]) sizeOf22 rfl rfl rfl rfl rfl rfl rfl rfl rfl ?_)
  refine ws0 rfl (os_store (i := 3) (vs := [(.int .i64 0)]) (cs' := [(.int .i64 0)]) sizeOf34 rfl rfl rfl rfl rfl rfl rfl rfl rfl ?_)
  refine WL.nil (tn (WP.ret ?_))
  obtain rfl := Option.some.inj hm
  refine retQ_retM (i := 0) rfl results72 (Res.cell rfl (box_load (i := 3) isAgg22 rfl) (Res.cell rfl (box_load (i := 2) isAgg34 rfl) Res.nil)) rfl (fun w' s => ⟨s.below, ?_⟩)
  obtain ⟨h11, hc11⟩ := s.ret_row (i := 0) rfl rl6
  exact ⟨ao10, cap10, rfl, h11, hc11⟩
 replace hm := ite_f hc9 hm
 obtain ⟨ao12, cap12, xs4, ao13, cap13, hle7, rl7, h12, hc12, rfl⟩ := cond_f hc9 hT2
 refine ⟨St w H [.obj l1 (R1 .done (some .ret)), .obj D1 (.deferred (some [])), .row 55 (encStep).size r3.2.1.length (.slice ao12 r3.2.1.length cap12) xs4, .blk b4 22 [(.slice ao12 r3.2.1.length cap12)], .blk b3 34 [(.int .i64 r3.2.2.1)], .blk b2 22 [(.slice ao13 r3.2.2.2.length cap13)], .blk b1 62 [(.int .i64 p_n.kind), (.slice ao1 p_n.step.strokes.length cap1), (.int .i64 p_n.step.wait), (.int .i64 p_n.count), (mkS p_n.name), (.slice ao2 p_n.nodes.length cap2)]] H5, ?_, hs3⟩
 refine after_ret ?_
 refine block_ret (then_ret ?_)
 obtain rfl := Option.some.inj hm
 refine retQ_retM (i := 0) rfl results72 (Res.cell rfl (box_load (i := 3) isAgg22 rfl) (Res.cell rfl (box_load (i := 2) isAgg34 rfl) Res.nil)) rfl (fun w' s => ⟨s.below, ?_⟩)
 exact ⟨ao13, cap13, rfl, h12.mono s.le_newer, hc12⟩
theorem program_done_con (p_n : Node) (p_on : (List (List UInt8))) (ao1 : Option Addr) (cap1 : Nat) (ao2 : Option Addr) (cap2 : Nat) (ao3 : Option Addr) (cap3 : Nat) (w : World) (H : Heap) (hH : Le H (hp w)) (h1 : SL H encStroke ao1 p_n.step.strokes) (hc1 : p_n.step.strokes.length ≤ cap1) (h2 : SL H encNode ao2 p_n.nodes) (hc2 : p_n.nodes.length ≤ cap2) (h3 : SL H encStr ao3 p_on) (hc3 : p_on.length ≤ cap3) (hG : Glob H) (r : (Sequence × Int)) (hm : program_done p_n p_on = some r) :
  Con prog 41 [(.agg #[(.int .i64 p_n.kind), (.slice ao1 p_n.step.strokes.length cap1), (.int .i64 p_n.step.wait), (.int .i64 p_n.count), (mkS p_n.name), (.slice ao2 p_n.nodes.length cap2)]), (.slice ao3 p_on.length cap3)] w H (fun v H' => ∃ (ao4 : Option Addr) (cap4 : Nat), v = (.tuple #[(.agg #[(.int .i64 r.1.actuators), (.slice ao4 r.1.steps.length cap4)]), (.int .i64 r.2)]) ∧ SL H' encStep ao4 r.1.steps ∧ r.1.steps.length ≤ cap4) := by
 unfold program_done at hm
 refine con_of hH func41 rfl 55 ntmps41 rfl ?_
 refine WP.seq (WP.region ?_)
 refine ws rfl (os_box (cs := [(.int .i64 p_n.kind), (.slice ao1 p_n.step.strokes.length cap1), (.int .i64 p_n.step.wait), (.int .i64 p_n.count), (mkS p_n.name), (.slice ao2 p_n.nodes.length cap2)]) rfl rfl rfl (fun b1 => ?_))
 refine ws rfl (os_alloc (cs := [(.int .i64 0), (.slice none 0 0)]) zeroValue24 rfl rfl (fun b2 => ?_))
 refine Va rfl (WL.nil (tn (WP.seq (WP.region (V rfl (ov_load_whole (i := 1) isAgg62 sizeOf62 rfl rfl rfl rfl) (Vm rfl ?_))))))
 obtain ⟨r1, e1, hm⟩ := bind_some hm
 refine ws rfl (os_con call72 rfl rfl (fun w' s => (program_unfolded_con p_n p_on ao1 cap1 ao2 cap2 ao3 cap3  w' H s.hold h1 hc1 h2 hc2 h3 hc3 hG r1 e1)) (fun rr1 H1 hle1 hR1 => ?_))
 replace hG := hG.mono hle1
 obtain ⟨ao5, cap5, rfl, h5, hc5⟩ := hR1
 refine Vm rfl (Ve rfl (Ve rfl (Va rfl (Va rfl (WL.nil (tn (WP.seq (WP.seq (WP.region (Vm rfl (V rfl (ov_neq rfl rfl rfl) (WL.nil (tn ?_)))))))))))))
 refine WP.cond rfl (fun hc6 => ?_) (fun hc6 => ?_)
 ·
  replace hm := ite_t hc6 hm
  refine WP.seq (WP.region (V rfl (ov_build (r := (.agg #[(.int .i64 0), (.slice none 0 0)])) rfl rfl (fun _ => by kernel_rfl)) (Vm rfl ?_)))
  refine ws0 rfl (os_store (i := 0) (vs := [(.int .i64 0), (.slice none 0 0)]) (cs' := [(.int .i64 0), (.slice none 0 0)]) sizeOf24 rfl rfl rfl rfl rfl rfl rfl rfl rfl ?_)
  refine Va rfl (WL.nil (tn (WP.ret (then_ret ?_))))
  obtain rfl := Option.some.inj hm
  refine retQ_ret results41 (Res.cell rfl (box_loads (i := 0) isAgg24 sizeOf24 rfl rfl) (Res.tmp rfl Res.nil)) rfl (fun w' s => ⟨s.below, ?_⟩)
  exact ⟨none, 0, rfl, SL.nil _ _ _, Nat.le_refl _⟩
 replace hm := ite_f hc6 hm
 refine WP.skip (tn (WP.seq (WP.region (Vm rfl (V rfl (ov_build (r := (.agg #[(.int .i64 0), (.slice ao5 r1.1.length cap5)])) rfl rfl (fun _ => by kernel_rfl)) ?_)))))
 refine ws rfl (os_alloc (cs := [(.int .i64 0), (.slice none 0 0)]) zeroValue24 rfl rfl (fun b3 => ?_))
 refine ws0 rfl (os_store (i := 0) (vs := [(.int .i64 0), (.slice ao5 r1.1.length cap5)]) (cs' := [(.int .i64 0), (.slice ao5 r1.1.length cap5)]) sizeOf24 rfl rfl rfl rfl rfl rfl rfl rfl rfl ?_)
 refine WL.nil (tn ?_)
 obtain ⟨k1, hk1, hm⟩ := joinK_some hm
 refine WP.seq_join (fun g' S' => ∃ (i6 : Int), Sub [(4, (pB b2 0)), (8, (pB b3 0)), (1000000007, (.bool false))] g' ∧ (∀ w', S' w' → St w H [.blk b3 24 [(.int .i64 i6), (.slice ao5 r1.1.length cap5)], .blk b2 24 [(.int .i64 0), (.slice none 0 0)]] H1 w') ∧ k1 i6 = some r) ?_ ?_
 ·
  refine WP.seq (WP.region (Vm rfl (V rfl (ov_len_slice underlying22 rfl rfl) (Vm rfl (WL.nil (tn (WP.block ?_)))))))
  refine WP.loop (fun m1 g' S' => ∃ (i1 : Int) (i2 : Int), Sub [(4, (pB b2 0)), (8, (pB b3 0)), (26, (.slice ao5 r1.1.length cap5)), (27, (.int .i64 (r1.1.length : Int))), (28, (.int .i64 i1)), (1000000007, (.bool false))] g' ∧ (∀ w', S' w' → St w H [.blk b3 24 [(.int .i64 i2), (.slice ao5 r1.1.length cap5)], .blk b2 24 [(.int .i64 0), (.slice none 0 0)]] H1 w') ∧ program_done_loop1 r1 k1 m1 i1 i2 = some r) ((Int.toNat ((r1.1.length : Int) - 0) + 1)) ⟨0, 0, (Sub.all rfl), fun w' s => (s.select [0, 1] (by decide) rfl), hm⟩ ?_ ?_
  ·
   rintro g' S' ⟨_, _, _, _, hm⟩
   exact none_some hm
  rintro m1 g' S' ⟨i1, i2, hsub1, hS1, hm⟩
  refine WP.sub hsub1 (WP.weaken hS1 ?_)
  rw [program_done_loop1] at hm
  refine WP.seq (WP.region (V rfl (ov_lss rfl rfl rfl) (WL.nil (tn (WP.seq ?_)))))
  refine WP.cond rfl (fun hc7 => ?_) (fun hc7 => ?_)
  ·
   replace hm := ite_t hc7 hm
   refine WP.skip (tn ?_)
   obtain ⟨k2, hk2, hm⟩ := joinK_some hm
   refine WP.seq_join (fun g' S' => ∃ (i5 : Int), Sub [(4, (pB b2 0)), (8, (pB b3 0)), (26, (.slice ao5 r1.1.length cap5)), (27, (.int .i64 (r1.1.length : Int))), (28, (.int .i64 i1)), (1000000007, (.bool false))] g' ∧ (∀ w', S' w' → St w H [.blk b3 24 [(.int .i64 i5), (.slice ao5 r1.1.length cap5)], .blk b2 24 [(.int .i64 0), (.slice none 0 0)]] H1 w') ∧ k2 i5 = some r) ?_ ?_
   ·
    refine WP.block (WP.seq (WP.region ?_))
    obtain ⟨x1, e2, hm⟩ := bind_some hm
    obtain ⟨h7, h8, h9, cs1, h10, h11⟩ := h5.get e2 (by decide)
    obtain ⟨ao6, cap6, rfl, h6, hc8⟩ := h10
    refine V rfl (ov_indexAddr underlying22 sizeOf55 rfl rfl rfl h7 h8 h9) (V rfl (ov_load_elems (vs := [(.slice ao6 x1.strokes.length cap6), (.int .i64 x1.wait)]) isAgg55 sizeOf55 rfl rfl rfl h11 h9) ?_)
    refine ws rfl (os_alloc (cs := [(.slice none 0 0), (.int .i64 0)]) zeroValue55 rfl rfl (fun b4 => ?_))
    refine ws0 rfl (os_store (i := 0) (vs := [(.slice ao6 x1.strokes.length cap6), (.int .i64 x1.wait)]) (cs' := [(.slice ao6 x1.strokes.length cap6), (.int .i64 x1.wait)]) sizeOf55 rfl rfl rfl rfl rfl rfl rfl rfl rfl ?_)
    refine WL.nil (tn (WP.seq (WP.region (V rfl (ov_fieldAddr underlying55 rfl rfl rfl sizeOf53 rfl rfl) (Vl 0 isAgg53 rfl (V rfl (ov_len_slice underlying53 rfl rfl) (Vm rfl (WL.nil (tn (WP.block ?_))))))))))
    refine WP.loop (fun m2 g' S' => ∃ (i3 : Int) (i4 : Int), Sub [(4, (pB b2 0)), (8, (pB b3 0)), (26, (.slice ao5 r1.1.length cap5)), (27, (.int .i64 (r1.1.length : Int))), (28, (.int .i64 i1)), (33, (.slice ao6 x1.strokes.length cap6)), (34, (.int .i64 (x1.strokes.length : Int))), (35, (.int .i64 i3)), (1000000007, (.bool false))] g' ∧ (∀ w', S' w' → St w H [.blk b3 24 [(.int .i64 i4), (.slice ao5 r1.1.length cap5)], .blk b2 24 [(.int .i64 0), (.slice none 0 0)]] H1 w') ∧ program_done_loop2 k2 x1 m2 i3 i4 = some r) ((Int.toNat ((x1.strokes.length : Int) - 0) + 1)) ⟨0, i2, (Sub.all rfl), fun w' s => (s.select [1, 2] (by decide) rfl), hm⟩ ?_ ?_
    ·
     rintro g' S' ⟨_, _, _, _, hm⟩
     exact none_some hm
    rintro m2 g' S' ⟨i3, i4, hsub2, hS2, hm⟩
    refine WP.sub hsub2 (WP.weaken hS2 ?_)
    rw [program_done_loop2] at hm
    refine WP.seq (WP.region (V rfl (ov_lss rfl rfl rfl) (WL.nil (tn (WP.seq ?_)))))
    refine WP.cond rfl (fun hc9 => ?_) (fun hc9 => ?_)
    ·
     replace hm := ite_t hc9 hm
     refine WP.skip (tn (WP.seq (WP.block (WP.seq (WP.region ?_)))))
     obtain ⟨x2, e3, hm⟩ := bind_some hm
     obtain ⟨h12, h13, h14, cs2, h15, h16⟩ := h6.get e3 (by decide)
     obtain rfl : cs2 = [(.int .i64 x2.actuator), (.bool x2.out)] := h15
     refine V rfl (ov_indexAddr underlying53 sizeOf59 rfl rfl rfl h12 h13 h14) (V rfl (ov_load_elems (vs := [(.int .i64 x2.actuator), (.bool x2.out)]) isAgg59 sizeOf59 rfl rfl rfl h16 h14) ?_)
     refine ws rfl (os_alloc (cs := [(.int .i64 0), (.bool false)]) zeroValue59 rfl rfl (fun b5 => ?_))
     refine ws0 rfl (os_store (i := 0) (vs := [(.int .i64 x2.actuator), (.bool x2.out)]) (cs' := [(.int .i64 x2.actuator), (.bool x2.out)]) sizeOf59 rfl rfl rfl rfl rfl rfl rfl rfl rfl ?_)
     refine WL.nil (tn (WP.region (V rfl (ov_fieldAddr underlying24 rfl rfl rfl sizeOf3 rfl rfl) (Vl 1 isAgg3 rfl (V rfl (ov_fieldAddr underlying59 rfl rfl rfl sizeOf3 rfl rfl) (Vl 0 isAgg3 rfl (V rfl (ov_add rfl rfl rfl) (V rfl (ov_max rfl rfl rfl) (V rfl (ov_fieldAddr underlying24 rfl rfl rfl sizeOf3 rfl rfl) ?_)))))))))
     refine ws0 rfl (os_store (i := 1) (vs := [(.int .i64 (if (IntKind.wrap .i64 (x2.actuator + 1)) > i4 then (IntKind.wrap .i64 (x2.actuator + 1)) else i4))]) (cs' := [(.int .i64 (if (IntKind.wrap .i64 (x2.actuator + 1)) > i4 then (IntKind.wrap .i64 (x2.actuator + 1)) else i4)), (.slice ao5 r1.1.length cap5)]) sizeOf3 rfl rfl rfl rfl rfl rfl rfl rfl rfl ?_)
     refine WL.nil (bn (tn (WP.region (V rfl (ov_add rfl rfl rfl) (Vm rfl (WL.nil (tn ?_)))))))
     exact ⟨(IntKind.wrap .i64 (i3 + 1)), (if (IntKind.wrap .i64 (x2.actuator + 1)) > i4 then (IntKind.wrap .i64 (x2.actuator + 1)) else i4), (Sub.all rfl), fun w' s => (s.select [1, 2] (by decide) rfl), hm⟩
    replace hm := ite_f hc9 hm
    refine WP.exit (then_exit (then_exit (block_here (bn (tn ?_)))))
    exact ⟨i4, (Sub.all rfl), fun w' s => s, hm⟩
   rintro g' S' ⟨i5, hsub3, hS3, hm⟩
   refine WP.sub hsub3 (WP.weaken hS3 ?_)
   replace hm := (congrFun hk2 i5).symm.trans hm
   refine WP.region (V rfl (ov_add rfl rfl rfl) (Vm rfl (WL.nil (tn ?_))))
   exact ⟨(IntKind.wrap .i64 (i1 + 1)), i5, (Sub.all rfl), fun w' s => s, hm⟩
  replace hm := ite_f hc7 hm
  refine WP.exit (then_exit (then_exit (block_here (tn ?_))))
  exact ⟨i2, (Sub.all rfl), fun w' s => s, hm⟩
 rintro g' S' ⟨i6, hsub4, hS4, hm⟩
 refine WP.sub hsub4 (WP.weaken hS4 ?_)
 replace hm := (congrFun hk1 i6).symm.trans hm
 refine WP.seq (WP.seq (WP.region (V rfl (ov_load_whole (i := 0) isAgg24 sizeOf24 rfl rfl rfl rfl) ?_)))
 obtain ⟨r2, e4, hm⟩ := bind_some hm
 refine wo rfl (oq_con (r := (.int .i64 r2)) call27 rfl rfl (fun w' s => ⟨_, (sequence_Check_con (Sequence.mk i6 r1.1) ao5 cap5  w' H1 s.hold h5 hc5 hG r2 e4)⟩)) ?_
 refine Va rfl (WL.nil (tn (WP.seq (WP.region (Vm rfl (V rfl (ov_neq rfl rfl rfl) (WL.nil (tn ?_))))))))
 refine WP.cond rfl (fun hc10 => ?_) (fun hc10 => ?_)
 ·
  replace hm := ite_t hc10 hm
  refine WP.seq (WP.region (V rfl (ov_build (r := (.agg #[(.int .i64 0), (.slice none 0 0)])) rfl rfl (fun _ => by kernel_rfl)) (Vm rfl ?_)))
  refine ws0 rfl (os_store (i := 1) (vs := [(.int .i64 0), (.slice none 0 0)]) (cs' := [(.int .i64 0), (.slice none 0 0)]) sizeOf24 rfl rfl rfl rfl rfl rfl rfl rfl rfl ?_)
  refine Va rfl (WL.nil (tn (WP.ret (then_ret ?_))))
  obtain rfl := Option.some.inj hm
  refine retQ_ret results41 (Res.cell rfl (box_loads (i := 1) isAgg24 sizeOf24 rfl rfl) (Res.tmp rfl Res.nil)) rfl (fun w' s => ⟨s.below, ?_⟩)
  exact ⟨none, 0, rfl, SL.nil _ _ _, Nat.le_refl _⟩
 replace hm := ite_f hc10 hm
 refine WP.skip (tn (WP.seq (WP.region (V rfl (ov_load_whole (i := 0) isAgg24 sizeOf24 rfl rfl rfl rfl) ?_))))
 refine ws0 rfl (os_store (i := 1) (vs := [(.int .i64 i6), (.slice ao5 r1.1.length cap5)]) (cs' := [(.int .i64 i6), (.slice ao5 r1.1.length cap5)]) sizeOf24 rfl rfl rfl rfl rfl rfl rfl rfl rfl ?_)
 refine Va rfl (WL.nil (tn (WP.ret ?_)))
 obtain rfl := Option.some.inj hm
 refine retQ_ret results41 (Res.cell rfl (box_loads (i := 1) isAgg24 sizeOf24 rfl rfl) (Res.tmp rfl Res.nil)) rfl (fun w' s => ⟨s.below, ?_⟩)
 exact ⟨ao5, cap5, rfl, h5.mono s.le_newer, hc5⟩
end Go.Proofs.YtkgijoddkibapaaGreatDoor.W
