/- The walks. Written by our own program gen.py; Lean checks it. -/
import Derived.Test.YtgpfgnpdbmbknaaGreatDoorPlain
import Derived.Test.YtgpfgnpdbmbknaaGreatDoorEqs
import Derived.Test.YtgpfgnpdbmbknaaGreatDoorProg
import Derived.Test.YtgpfgnpdbmbknaaGreatDoorExt
import Derived.Test.YtgpfgnpdbmbknaaGreatDoorClone
import Derived.Test.YtgpfgnpdbmbknaaGreatDoorSort
import Derived.Test.YtgpfgnpdbmbknaaGreatDoorWalk3
import Derived.Test.YtgpfgnpdbmbknaaGreatDoorWalk5
import Derived.Test.YtgpfgnpdbmbknaaGreatDoorWalk7
set_option linter.unusedVariables false
set_option maxRecDepth 100000
set_option maxHeartbeats 4000000
namespace Go.Proofs.YtgpfgnpdbmbknaaGreatDoor.W
open Go Go.RowKit Go.Proofs.Tryz
theorem law15_ProgramParses_con (p_s : (List UInt8)) (w : World) (H : Heap) (hH : Le H (hp w)) (hG : Glob H) (r : Bool) (hm : law15_ProgramParses p_s = some r) :
  Con prog 3 [(mkS p_s)] w H (fun v _ => v = (.bool r)) := by
 unfold law15_ProgramParses at hm
 refine con_of hH func3 rfl 51 ntmps3 rfl ?_
 refine WP.seq (WP.region ?_)
 refine wq rfl rfl rfl (ov_assign rfl rfl) ?_
 refine WL.nil (tn (WP.seq (WP.seq (WP.region ?_))))
 refine wq rfl rfl rfl (ov_move rfl rfl) ?_
 refine wq rfl rfl rfl (ov_len_string underlying9 rfl rfl) ?_
 refine wq rfl rfl rfl (ov_gtr rfl rfl rfl) ?_
 refine wq rfl rfl rfl (ov_move rfl rfl) ?_
 refine WL.cut_bool 4 16 (x := ((decide ((p_s.length : Int) > 400)) && (decide ((p_s.length : Int) ≤ 4096)))) ?_ ?_
 ·
  rcases Bool.eq_false_or_eq_true (decide ((p_s.length : Int) > 400)) with hc1 | hc1
  ·
   refine wy hc1 rfl (ov_move rfl rfl) ?_
   refine wy hc1 rfl (ov_len_string underlying9 rfl rfl) ?_
   refine wy hc1 rfl (ov_leq rfl rfl rfl) ?_
   refine wq rfl rfl rfl (ov_pick_true rfl (guard_eq rfl hc1) rfl) ?_
   exact WL.nil ⟨Sub.cons' rfl (congrArg Value.bool (andT hc1)) (Sub.dropn 4 rfl), fun _ s => s⟩
  refine WL.idle (Idle.no rfl rfl rfl hc1) rfl rfl ?_
  refine WL.idle (Idle.no rfl rfl rfl hc1) rfl rfl ?_
  refine WL.idle (Idle.no rfl rfl rfl hc1) rfl rfl ?_
  refine wq rfl rfl rfl (ov_pick_false rfl (guard_eq rfl hc1) rfl) ?_
  exact WL.nil ⟨Sub.cons' rfl (congrArg Value.bool (andF hc1)) (Sub.dropn 4 rfl), fun _ s => s⟩
 refine wq rfl rfl rfl (ov_move rfl rfl) ?_
 refine WL.cut_bool 4 21 (x := (((decide ((p_s.length : Int) > 400)) && (decide ((p_s.length : Int) ≤ 4096))) || (decide ((p_s.length : Int) > 8192)))) ?_ ?_
 ·
  rcases Bool.eq_false_or_eq_true ((decide ((p_s.length : Int) > 400)) && (decide ((p_s.length : Int) ≤ 4096))) with hc2 | hc2
  ·
   refine WL.idle (Idle.no rfl rfl rfl hc2) rfl rfl ?_
   refine WL.idle (Idle.no rfl rfl rfl hc2) rfl rfl ?_
   refine WL.idle (Idle.no rfl rfl rfl hc2) rfl rfl ?_
   refine wq rfl rfl rfl (ov_pick_true rfl (guard_eq rfl hc2) rfl) ?_
   exact WL.nil ⟨Sub.cons' rfl (congrArg Value.bool (orT hc2)) (Sub.dropn 4 rfl), fun _ s => s⟩
  refine wy hc2 rfl (ov_move rfl rfl) ?_
  refine wy hc2 rfl (ov_len_string underlying9 rfl rfl) ?_
  refine wy hc2 rfl (ov_gtr rfl rfl rfl) ?_
  refine wq rfl rfl rfl (ov_pick_false rfl (guard_eq rfl hc2) rfl) ?_
  exact WL.nil ⟨Sub.cons' rfl (congrArg Value.bool (orF hc2)) (Sub.dropn 4 rfl), fun _ s => s⟩
 refine WL.nil (tn ?_)
 refine WP.cond rfl (fun hc3 => ?_) (fun hc3 => ?_)
 ·
  replace hm := ite_t hc3 hm
  refine WP.seq (WP.region ?_)
  obtain ⟨r1, e1, hm⟩ := bind_some hm
  refine wo rfl (oq_con (r := (.bool r1)) call11 rfl rfl (fun w' s => ⟨_, (law15_awake_con   w' H s.hold hG r1 e1)⟩)) ?_
  refine wq rfl rfl rfl (ov_assign rfl rfl) ?_
  refine WL.nil (tn (WP.ret (then_ret ?_)))
  obtain rfl := Option.some.inj hm
  refine retQ_ret results3 (Res.tmp rfl Res.nil) rfl (fun w' s => ⟨s.below, ?_⟩)
  exact rfl
 replace hm := ite_f hc3 hm
 refine WP.skip (tn (WP.seq (WP.region ?_)))
 refine wq rfl rfl rfl (ov_move rfl rfl) ?_
 obtain ⟨r2, e2, hm⟩ := bind_some hm
 refine ws rfl (os_con call12 rfl rfl (fun w' s => (program_Parse_con p_s  w' H s.hold hG r2 e2)) (fun rr1 H1 hle1 hR1 => ?_))
 replace hG := hG.mono hle1
 obtain ⟨ao1, cap1, ao2, cap2, rfl, h1, hc4, h2, hc5⟩ := hR1
 refine wq rfl rfl rfl (ov_move rfl rfl) ?_
 refine wq rfl rfl rfl (ov_extract rfl rfl rfl) ?_
 refine wq rfl rfl rfl (ov_extract rfl rfl rfl) ?_
 refine wq rfl rfl rfl (ov_extract rfl rfl rfl) ?_
 refine ws rfl (os_alloc (cs := [(.int .i64 0), (.slice none 0 0), (.int .i64 0), (.int .i64 0), (mkS []), (.slice none 0 0)]) zeroValue28 rfl rfl (fun b1 => ?_))
 refine ws0 rfl (os_store (i := 0) (vs := [(.int .i64 r2.1.kind), (.slice ao1 r2.1.step.strokes.length cap1), (.int .i64 r2.1.step.wait), (.int .i64 r2.1.count), (mkS r2.1.name), (.slice ao2 r2.1.nodes.length cap2)]) (cs' := [(.int .i64 r2.1.kind), (.slice ao1 r2.1.step.strokes.length cap1), (.int .i64 r2.1.step.wait), (.int .i64 r2.1.count), (mkS r2.1.name), (.slice ao2 r2.1.nodes.length cap2)]) sizeOf28 rfl rfl rfl rfl rfl rfl rfl rfl rfl ?_)
 refine wq rfl rfl rfl (ov_assign rfl rfl) ?_
 refine wq rfl rfl rfl (ov_assign rfl rfl) ?_
 refine WL.nil (tn (WP.seq (WP.region ?_)))
 refine wq rfl rfl rfl (ov_move rfl rfl) ?_
 obtain ⟨r3, e3, hm⟩ := bind_some hm
 refine ws rfl (os_con call13 rfl rfl (fun w' s => (ref15_Parse_con p_s  w' H1 s.hold hG r3 e3)) (fun rr2 H2 hle2 hR2 => ?_))
 replace h1 := h1.mono hle2
 replace h2 := h2.mono hle2
 replace hG := hG.mono hle2
 obtain ⟨ao3, cap3, ao4, cap4, rfl, h3, hc6, h4, hc7⟩ := hR2
 refine wq rfl rfl rfl (ov_move rfl rfl) ?_
 refine wq rfl rfl rfl (ov_extract rfl rfl rfl) ?_
 refine wq rfl rfl rfl (ov_extract rfl rfl rfl) ?_
 refine wq rfl rfl rfl (ov_extract rfl rfl rfl) ?_
 refine ws rfl (os_alloc (cs := [(.int .i64 0), (.slice none 0 0), (.int .i64 0), (.int .i64 0), (mkS []), (.slice none 0 0)]) zeroValue28 rfl rfl (fun b2 => ?_))
 refine ws0 rfl (os_store (i := 0) (vs := [(.int .i64 r3.1.kind), (.slice ao3 r3.1.step.strokes.length cap3), (.int .i64 r3.1.step.wait), (.int .i64 r3.1.count), (mkS r3.1.name), (.slice ao4 r3.1.nodes.length cap4)]) (cs' := [(.int .i64 r3.1.kind), (.slice ao3 r3.1.step.strokes.length cap3), (.int .i64 r3.1.step.wait), (.int .i64 r3.1.count), (mkS r3.1.name), (.slice ao4 r3.1.nodes.length cap4)]) sizeOf28 rfl rfl rfl rfl rfl rfl rfl rfl rfl ?_)
 refine wq rfl rfl rfl (ov_assign rfl rfl) ?_
 refine wq rfl rfl rfl (ov_assign rfl rfl) ?_
 refine WL.nil (tn (WP.seq (WP.region ?_)))
 obtain ⟨r4, e4, hm⟩ := bind_some hm
 refine wo rfl (oq_con (r := (.bool r4)) call11 rfl rfl (fun w' s => ⟨_, (law15_awake_con   w' H2 s.hold hG r4 e4)⟩)) ?_
 refine wq rfl rfl rfl (ov_move rfl rfl) ?_
 obtain ⟨c1, e5, hm⟩ := bind_some hm
 refine WL.cut_bool 4 40 (x := c1) ?_ ?_
 ·
  rcases Bool.eq_false_or_eq_true r4 with hc8 | hc8
  ·
   replace hm := ite_t hc8 e5
   refine wy hc8 rfl (ov_load_whole (i := 1) isAgg28 sizeOf28 rfl rfl rfl rfl) ?_
   refine wy hc8 rfl (ov_load_whole (i := 0) isAgg28 sizeOf28 rfl rfl rfl rfl) ?_
   obtain ⟨r5, e6, hm⟩ := bind_some hm
   refine WL.quiet (Runs.yes rfl rfl rfl hc8) rfl rfl (oq_con (r := (.bool r5)) call14 rfl rfl (fun w' s => ⟨_, (ref15_Same_con r2.1 r3.1 ao1 cap1 ao2 cap2 ao3 cap3 ao4 cap4  w' H2 s.hold h1 hc4 h2 hc5 h3 hc6 h4 hc7 hG r5 e6)⟩)) ?_
   refine wq rfl rfl rfl (ov_pick_true rfl (guard_eq rfl hc8) rfl) ?_
   exact WL.nil ⟨Sub.cons' rfl (congrArg Value.bool (Option.some.inj hm)) (Sub.dropn 4 rfl), fun _ s => s⟩
  replace hm := ite_f hc8 e5
  refine WL.idle (Idle.no rfl rfl rfl hc8) rfl rfl ?_
  refine WL.idle (Idle.no rfl rfl rfl hc8) rfl rfl ?_
  refine WL.idle (Idle.no rfl rfl rfl hc8) rfl rfl ?_
  refine wq rfl rfl rfl (ov_pick_false rfl (guard_eq rfl hc8) rfl) ?_
  exact WL.nil ⟨Sub.cons' rfl (congrArg Value.bool (Option.some.inj hm)) (Sub.dropn 4 rfl), fun _ s => s⟩
 refine wq rfl rfl rfl (ov_move rfl rfl) ?_
 refine WL.cut_bool 4 45 (x := (c1 && (r2.2.1 == r3.2.1))) ?_ ?_
 ·
  rcases Bool.eq_false_or_eq_true c1 with hc9 | hc9
  ·
   refine wy hc9 rfl (ov_move rfl rfl) ?_
   refine wy hc9 rfl (ov_move rfl rfl) ?_
   refine wy hc9 rfl (ov_eql rfl rfl rfl) ?_
   refine wq rfl rfl rfl (ov_pick_true rfl (guard_eq rfl hc9) rfl) ?_
   exact WL.nil ⟨Sub.cons' rfl (congrArg Value.bool (andT hc9)) (Sub.dropn 4 rfl), fun _ s => s⟩
  refine WL.idle (Idle.no rfl rfl rfl hc9) rfl rfl ?_
  refine WL.idle (Idle.no rfl rfl rfl hc9) rfl rfl ?_
  refine WL.idle (Idle.no rfl rfl rfl hc9) rfl rfl ?_
  refine wq rfl rfl rfl (ov_pick_false rfl (guard_eq rfl hc9) rfl) ?_
  exact WL.nil ⟨Sub.cons' rfl (congrArg Value.bool (andF hc9)) (Sub.dropn 4 rfl), fun _ s => s⟩
 refine wq rfl rfl rfl (ov_move rfl rfl) ?_
 refine WL.cut_bool 4 50 (x := ((c1 && (r2.2.1 == r3.2.1)) && (r2.2.2 == r3.2.2))) ?_ ?_
 ·
  rcases Bool.eq_false_or_eq_true (c1 && (r2.2.1 == r3.2.1)) with hc10 | hc10
  ·
   refine wy hc10 rfl (ov_move rfl rfl) ?_
   refine wy hc10 rfl (ov_move rfl rfl) ?_
   refine wy hc10 rfl (ov_eql rfl rfl rfl) ?_
   refine wq rfl rfl rfl (ov_pick_true rfl (guard_eq rfl hc10) rfl) ?_
   exact WL.nil ⟨Sub.cons' rfl (congrArg Value.bool (andT hc10)) (Sub.dropn 4 rfl), fun _ s => s⟩
  refine WL.idle (Idle.no rfl rfl rfl hc10) rfl rfl ?_
  refine WL.idle (Idle.no rfl rfl rfl hc10) rfl rfl ?_
  refine WL.idle (Idle.no rfl rfl rfl hc10) rfl rfl ?_
  refine wq rfl rfl rfl (ov_pick_false rfl (guard_eq rfl hc10) rfl) ?_
  exact WL.nil ⟨Sub.cons' rfl (congrArg Value.bool (andF hc10)) (Sub.dropn 4 rfl), fun _ s => s⟩
 refine wq rfl rfl rfl (ov_assign rfl rfl) ?_
 refine WL.nil (tn (WP.ret ?_))
 obtain rfl := Option.some.inj hm
 refine retQ_ret results3 (Res.tmp rfl Res.nil) rfl (fun w' s => ⟨s.below, ?_⟩)
 exact rfl
end Go.Proofs.YtgpfgnpdbmbknaaGreatDoor.W
