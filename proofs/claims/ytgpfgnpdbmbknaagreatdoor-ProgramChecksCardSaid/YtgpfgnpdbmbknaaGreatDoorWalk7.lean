/- The walks. Written by our own program gen.py; Lean checks it. -/
import Derived.Test.YtgpfgnpdbmbknaaGreatDoorPlain
import Derived.Test.YtgpfgnpdbmbknaaGreatDoorEqs
import Derived.Test.YtgpfgnpdbmbknaaGreatDoorProg
import Derived.Test.YtgpfgnpdbmbknaaGreatDoorExt
import Derived.Test.YtgpfgnpdbmbknaaGreatDoorClone
import Derived.Test.YtgpfgnpdbmbknaaGreatDoorSort
import Derived.Test.YtgpfgnpdbmbknaaGreatDoorWalk2
import Derived.Test.YtgpfgnpdbmbknaaGreatDoorWalk6
set_option linter.unusedVariables false
set_option maxRecDepth 100000
set_option maxHeartbeats 4000000
namespace Go.Proofs.YtgpfgnpdbmbknaaGreatDoor.W
open Go Go.RowKit Go.Proofs.Tryz
theorem program_Same_con (p_a : Node) (p_b : Node) (ao1 : Option Addr) (cap1 : Nat) (ao2 : Option Addr) (cap2 : Nat) (ao3 : Option Addr) (cap3 : Nat) (ao4 : Option Addr) (cap4 : Nat) (w : World) (H : Heap) (hH : Le H (hp w)) (h1 : SL H encStroke ao1 p_a.step.strokes) (hc1 : p_a.step.strokes.length ≤ cap1) (h2 : SL H encNode ao2 p_a.nodes) (hc2 : p_a.nodes.length ≤ cap2) (h3 : SL H encStroke ao3 p_b.step.strokes) (hc3 : p_b.step.strokes.length ≤ cap3) (h4 : SL H encNode ao4 p_b.nodes) (hc4 : p_b.nodes.length ≤ cap4) (hG : Glob H) (r : Bool) (hm : program_Same p_a p_b = some r) :
  Con prog 34 [(.agg #[(.int .i64 p_a.kind), (.slice ao1 p_a.step.strokes.length cap1), (.int .i64 p_a.step.wait), (.int .i64 p_a.count), (mkS p_a.name), (.slice ao2 p_a.nodes.length cap2)]), (.agg #[(.int .i64 p_b.kind), (.slice ao3 p_b.step.strokes.length cap3), (.int .i64 p_b.step.wait), (.int .i64 p_b.count), (mkS p_b.name), (.slice ao4 p_b.nodes.length cap4)])] w H (fun v _ => v = (.bool r)) := by
 unfold program_Same at hm
 refine con_of hH func34 rfl 16 ntmps34 rfl ?_
 refine WP.seq (WP.region ?_)
 refine ws rfl (os_box (cs := [(.int .i64 p_a.kind), (.slice ao1 p_a.step.strokes.length cap1), (.int .i64 p_a.step.wait), (.int .i64 p_a.count), (mkS p_a.name), (.slice ao2 p_a.nodes.length cap2)]) rfl rfl rfl (fun b1 => ?_))
 refine ws rfl (os_box (cs := [(.int .i64 p_b.kind), (.slice ao3 p_b.step.strokes.length cap3), (.int .i64 p_b.step.wait), (.int .i64 p_b.count), (mkS p_b.name), (.slice ao4 p_b.nodes.length cap4)]) rfl rfl rfl (fun b2 => ?_))
 refine wq rfl rfl rfl (ov_assign rfl rfl) ?_
 refine WL.nil (tn (WP.seq (WP.region ?_)))
 refine wq rfl rfl rfl (ov_load_whole (i := 1) isAgg28 sizeOf28 rfl rfl rfl rfl) ?_
 obtain ⟨r1, e1, hm⟩ := bind_some hm
 refine wo rfl (oq_con (r := (.bool r1)) call68 rfl rfl (fun w' s => ⟨_, (program_light_con p_a ao1 cap1 ao2 cap2  w' H s.hold h1 hc1 h2 hc2 hG r1 e1)⟩)) ?_
 refine wq rfl rfl rfl (ov_move rfl rfl) ?_
 obtain ⟨c1, e2, hm⟩ := bind_some hm
 refine WL.cut_bool 3 10 (x := c1) ?_ ?_
 ·
  rcases Bool.eq_false_or_eq_true r1 with hc5 | hc5
  ·
   replace hm := ite_t hc5 e2
   refine wy hc5 rfl (ov_load_whole (i := 0) isAgg28 sizeOf28 rfl rfl rfl rfl) ?_
   obtain ⟨r2, e3, hm⟩ := bind_some hm
   refine WL.quiet (Runs.yes rfl rfl rfl hc5) rfl rfl (oq_con (r := (.bool r2)) call68 rfl rfl (fun w' s => ⟨_, (program_light_con p_b ao3 cap3 ao4 cap4  w' H s.hold h3 hc3 h4 hc4 hG r2 e3)⟩)) ?_
   refine wq rfl rfl rfl (ov_pick_true rfl (guard_eq rfl hc5) rfl) ?_
   exact WL.nil ⟨Sub.cons' rfl (congrArg Value.bool (Option.some.inj hm)) (Sub.dropn 3 rfl), fun _ s => s⟩
  replace hm := ite_f hc5 e2
  refine WL.idle (Idle.no rfl rfl rfl hc5) rfl rfl ?_
  refine WL.idle (Idle.no rfl rfl rfl hc5) rfl rfl ?_
  refine wq rfl rfl rfl (ov_pick_false rfl (guard_eq rfl hc5) rfl) ?_
  exact WL.nil ⟨Sub.cons' rfl (congrArg Value.bool (Option.some.inj hm)) (Sub.dropn 3 rfl), fun _ s => s⟩
 refine wq rfl rfl rfl (ov_move rfl rfl) ?_
 obtain ⟨c2, e4, hm⟩ := bind_some hm
 refine WL.cut_bool 4 15 (x := c2) ?_ ?_
 ·
  rcases Bool.eq_false_or_eq_true c1 with hc6 | hc6
  ·
   replace hm := ite_t hc6 e4
   refine wy hc6 rfl (ov_load_whole (i := 1) isAgg28 sizeOf28 rfl rfl rfl rfl) ?_
   refine wy hc6 rfl (ov_load_whole (i := 0) isAgg28 sizeOf28 rfl rfl rfl rfl) ?_
   obtain ⟨r3, e5, hm⟩ := bind_some hm
   refine WL.quiet (Runs.yes rfl rfl rfl hc6) rfl rfl (oq_con (r := (.bool r3)) call72 rfl rfl (fun w' s => ⟨_, (program_equal_con 600 p_a p_b ao1 cap1 ao2 cap2 ao3 cap3 ao4 cap4  w' H s.hold h1 hc1 h2 hc2 h3 hc3 h4 hc4 hG r3 e5)⟩)) ?_
   refine wq rfl rfl rfl (ov_pick_true rfl (guard_eq rfl hc6) rfl) ?_
   exact WL.nil ⟨Sub.cons' rfl (congrArg Value.bool (Option.some.inj hm)) (Sub.dropn 4 rfl), fun _ s => s⟩
  replace hm := ite_f hc6 e4
  refine WL.idle (Idle.no rfl rfl rfl hc6) rfl rfl ?_
  refine WL.idle (Idle.no rfl rfl rfl hc6) rfl rfl ?_
  refine WL.idle (Idle.no rfl rfl rfl hc6) rfl rfl ?_
  refine wq rfl rfl rfl (ov_pick_false rfl (guard_eq rfl hc6) rfl) ?_
  exact WL.nil ⟨Sub.cons' rfl (congrArg Value.bool (Option.some.inj hm)) (Sub.dropn 4 rfl), fun _ s => s⟩
 refine wq rfl rfl rfl (ov_assign rfl rfl) ?_
 refine WL.nil (tn (WP.ret ?_))
 obtain rfl := Option.some.inj hm
 refine retQ_ret results34 (Res.tmp rfl Res.nil) rfl (fun w' s => ⟨s.below, ?_⟩)
 exact rfl
end Go.Proofs.YtgpfgnpdbmbknaaGreatDoor.W
