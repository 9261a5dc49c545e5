import Derived.Test.YtgpfgnpdbmbknaaGreatDoorPlain
import Derived.Test.YtgpfgnpdbmbknaaGreatDoorEqs
import Derived.Test.YtgpfgnpdbmbknaaGreatDoorProg
import Derived.Test.YtgpfgnpdbmbknaaGreatDoorExt
import Derived.Test.YtgpfgnpdbmbknaaGreatDoorClone
import Derived.Test.YtgpfgnpdbmbknaaGreatDoorSort
import Derived.Test.YtgpfgnpdbmbknaaGreatDoorWalk6
import Derived.Test.YtgpfgnpdbmbknaaGreatDoorWalk7
set_option linter.unusedVariables false
set_option maxRecDepth 100000
set_option maxHeartbeats 4000000
namespace Go.Proofs.YtgpfgnpdbmbknaaGreatDoor.W
open Go Go.RowKit Go.Proofs.Tryz
theorem ref15_Normal_con (p_x : Node) (ao1 : Option Addr) (cap1 : Nat) (ao2 : Option Addr) (cap2 : Nat) (w : World) (H : Heap) (hH : Le H (hp w)) (h1 : SL H encStroke ao1 p_x.step.strokes) (hc1 : p_x.step.strokes.length ≤ cap1) (h2 : SL H encNode ao2 p_x.nodes) (hc2 : p_x.nodes.length ≤ cap2) (hG : Glob H) (r : (Node × Int)) (hm : ref15_Normal p_x = some r) :
  Con prog 37 [(.agg #[(.int .i64 p_x.kind), (.slice ao1 p_x.step.strokes.length cap1), (.int .i64 p_x.step.wait), (.int .i64 p_x.count), (mkS p_x.name), (.slice ao2 p_x.nodes.length cap2)])] w H (fun v H' => ∃ (ao3 : Option Addr) (cap3 : Nat) (ao4 : Option Addr) (cap4 : Nat), v = (.tuple #[(.agg #[(.int .i64 r.1.kind), (.slice ao3 r.1.step.strokes.length cap3), (.int .i64 r.1.step.wait), (.int .i64 r.1.count), (mkS r.1.name), (.slice ao4 r.1.nodes.length cap4)]), (.int .i64 r.2)]) ∧ SL H' encStroke ao3 r.1.step.strokes ∧ r.1.step.strokes.length ≤ cap3 ∧ SL H' encNode ao4 r.1.nodes ∧ r.1.nodes.length ≤ cap4) := by
 unfold ref15_Normal at hm
 refine con_of hH func37 rfl 13 ntmps37 rfl ?_
 refine WP.seq (WP.region ?_)
 refine ws rfl (os_box (cs := [(.int .i64 p_x.kind), (.slice ao1 p_x.step.strokes.length cap1), (.int .i64 p_x.step.wait), (.int .i64 p_x.count), (mkS p_x.name), (.slice ao2 p_x.nodes.length cap2)]) rfl rfl rfl (fun b1 => ?_))
 refine ws rfl (os_alloc (cs := [(.int .i64 0), (.slice none 0 0), (.int .i64 0), (.int .i64 0), (mkS []), (.slice none 0 0)]) zeroValue28 rfl rfl (fun b2 => ?_))
 refine Va rfl (WL.nil (tn (WP.seq (WP.seq (WP.region (V rfl (ov_load_whole (i := 1) isAgg28 sizeOf28 rfl rfl rfl rfl) ?_))))))
 obtain ⟨r1, e1, hm⟩ := bind_some hm
 refine wo rfl (oq_con (r := (.int .i64 r1)) call32 rfl rfl (fun w' s => ⟨_, (ref15_Check_con p_x ao1 cap1 ao2 cap2  w' H s.hold h1 hc1 h2 hc2 hG r1 e1)⟩)) ?_
 refine Va rfl (WL.nil (tn (WP.seq (WP.region (Vm rfl (V rfl (ov_neq rfl rfl rfl) (WL.nil (tn ?_))))))))
 refine WP.cond rfl (fun hc5 => ?_) (fun hc5 => ?_)
 ·
  replace hm := ite_t hc5 hm
  refine WP.seq (WP.region (V rfl (ov_build (r := (.agg #[(.int .i64 0), (.slice none 0 0), (.int .i64 0), (.int .i64 0), (mkS []), (.slice none 0 0)])) rfl rfl (fun _ => by kernel_rfl)) (Vm rfl ?_)))
  refine ws0 rfl (os_store (i := 0) (vs := [(.int .i64 0), (.slice none 0 0), (.int .i64 0), (.int .i64 0), (mkS []), (.slice none 0 0)]) (cs' := [(.int .i64 0), (.slice none 0 0), (.int .i64 0), (.int .i64 0), (mkS []), (.slice none 0 0)]) sizeOf28 rfl rfl rfl rfl rfl rfl rfl rfl rfl ?_)
  refine Va rfl (WL.nil (tn (WP.ret (then_ret ?_))))
  obtain rfl := Option.some.inj hm
  refine retQ_ret results37 (Res.cell rfl (box_loads (i := 0) isAgg28 sizeOf28 rfl rfl) (Res.tmp rfl Res.nil)) rfl (fun w' s => ⟨s.below, ?_⟩)
  exact ⟨none, 0, none, 0, rfl, SL.nil _ _ _, Nat.le_refl _, SL.nil _ _ _, Nat.le_refl _⟩
 replace hm := ite_f hc5 hm
 refine WP.skip (tn (WP.seq (WP.region (V rfl (ov_load_whole (i := 1) isAgg28 sizeOf28 rfl rfl rfl rfl) ?_))))
 obtain ⟨r2, e2, hm⟩ := bind_some hm
 refine ws rfl (os_con call76 rfl rfl (fun w' s => (ref15_Plain_con 600 p_x ao1 cap1 ao2 cap2  w' H s.hold h1 hc1 h2 hc2 hG r2 e2)) (fun rr1 H1 hle1 hR1 => ?_))
 obtain ⟨ao5, cap5, ao6, cap6, rfl, h5, hc6, h6, hc7⟩ := hR1
 refine ws0 rfl (os_store (i := 0) (vs := [(.int .i64 r2.kind), (.slice ao5 r2.step.strokes.length cap5), (.int .i64 r2.step.wait), (.int .i64 r2.count), (mkS r2.name), (.slice ao6 r2.nodes.length cap6)]) (cs' := [(.int .i64 r2.kind), (.slice ao5 r2.step.strokes.length cap5), (.int .i64 r2.step.wait), (.int .i64 r2.count), (mkS r2.name), (.slice ao6 r2.nodes.length cap6)]) sizeOf28 rfl rfl rfl rfl rfl rfl rfl rfl rfl ?_)
 refine Va rfl (WL.nil (tn (WP.ret ?_)))
 obtain rfl := Option.some.inj hm
 refine retQ_ret results37 (Res.cell rfl (box_loads (i := 0) isAgg28 sizeOf28 rfl rfl) (Res.tmp rfl Res.nil)) rfl (fun w' s => ⟨s.below, ?_⟩)
 exact ⟨ao5, cap5, ao6, cap6, rfl, h5.mono s.le_newer, hc6, h6.mono s.le_newer, hc7⟩
end Go.Proofs.YtgpfgnpdbmbknaaGreatDoor.W
