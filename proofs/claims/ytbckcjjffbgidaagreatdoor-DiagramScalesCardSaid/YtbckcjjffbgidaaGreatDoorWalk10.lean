/- The walks. Written by our own program gen.py; Lean checks it. -/
import Derived.Test.YtbckcjjffbgidaaGreatDoorPlain
import Derived.Test.YtbckcjjffbgidaaGreatDoorEqs
import Derived.Test.YtbckcjjffbgidaaGreatDoorProg
import Derived.Test.YtbckcjjffbgidaaGreatDoorExt
import Derived.Test.YtbckcjjffbgidaaGreatDoorBuild
import Derived.Test.YtbckcjjffbgidaaGreatDoorClone
import Derived.Test.YtbckcjjffbgidaaGreatDoorWalk2
import Derived.Test.YtbckcjjffbgidaaGreatDoorWalk7
import Derived.Test.YtbckcjjffbgidaaGreatDoorWalk8
import Derived.Test.YtbckcjjffbgidaaGreatDoorWalk9
set_option linter.unusedVariables false
set_option maxRecDepth 100000
set_option maxHeartbeats 4000000
namespace Go.Proofs.YtbckcjjffbgidaaGreatDoor.W
open Go Go.RowKit Go.Proofs.Tryz
theorem law16_Two_con  (w : World) (H : Heap) (hH : Le H (hp w)) (hG : Glob H) (r : Sequence) (hm : law16_Two  = some r) :
  Con prog 39 [] w H (fun v H' => ∃ (ao1 : Option Addr) (cap1 : Nat), v = (.agg #[(.int .i64 r.actuators), (.slice ao1 r.steps.length cap1)]) ∧ SL H' encStep ao1 r.steps ∧ r.steps.length ≤ cap1) := by
 unfold law16_Two at hm
 refine con_of hH func39 rfl 13 ntmps39 rfl ?_
 refine WP.seq (WP.region ?_)
 refine ws rfl (os_alloc (cs := [(.int .i64 0), (.slice none 0 0)]) zeroValue24 rfl rfl (fun b1 => ?_))
 refine WL.nil (tn (WP.seq (WP.region (V rfl (ov_build (r := (.agg #[(.int .i64 0), (.bool true)])) rfl rfl (fun _ => by kernel_rfl)) ?_))))
 have rl1 : RL H encStroke ([(Stroke.mk 0 true)] : List Stroke) [(.int .i64 0), (.bool true)] := RL.cons (cs := [(.int .i64 0), (.bool true)]) (xs := []) rfl (RL.nil _ _)
 refine ws rfl (os_buildSlice (cs := [(.int .i64 0), (.bool true)]) (E := 48) (sz := 2) rfl rfl (fun _ => by kernel_rfl) rfl (by decide) (fun b2 => ?_))
 refine WL.held rl1 (fun H1 hc2 hle1 h2 => ?_)
 refine V rfl (ov_build (r := (.agg #[(.slice (some ⟨b2, 0, none⟩) ([(Stroke.mk 0 true)] : List Stroke).length 1), (.int .i64 0)])) rfl rfl (fun _ => by kernel_rfl)) (V rfl (ov_build (r := (.agg #[(.int .i64 1), (.bool true)])) rfl rfl (fun _ => by kernel_rfl)) ?_)
 have rl2 : RL H1 encStroke ([(Stroke.mk 1 true)] : List Stroke) [(.int .i64 1), (.bool true)] := RL.cons (cs := [(.int .i64 1), (.bool true)]) (xs := []) rfl (RL.nil _ _)
 refine ws rfl (os_buildSlice (cs := [(.int .i64 1), (.bool true)]) (E := 48) (sz := 2) rfl rfl (fun _ => by kernel_rfl) rfl (by decide) (fun b3 => ?_))
 refine WL.held rl2 (fun H2 hc3 hle2 h3 => ?_)
 replace h2 := h2.mono hle2
 refine V rfl (ov_build (r := (.agg #[(.slice (some ⟨b3, 0, none⟩) ([(Stroke.mk 1 true)] : List Stroke).length 1), (.int .i64 50)])) rfl rfl (fun _ => by kernel_rfl)) (V rfl (ov_build (r := (.agg #[(.int .i64 0), (.bool false)])) rfl rfl (fun _ => by kernel_rfl)) (V rfl (ov_build (r := (.agg #[(.int .i64 1), (.bool false)])) rfl rfl (fun _ => by kernel_rfl)) ?_))
 have rl3 : RL H2 encStroke ([(Stroke.mk 0 false), (Stroke.mk 1 false)] : List Stroke) [(.int .i64 0), (.bool false), (.int .i64 1), (.bool false)] := RL.cons (cs := [(.int .i64 0), (.bool false)]) (xs := [(.int .i64 1), (.bool false)]) rfl (RL.cons (cs := [(.int .i64 1), (.bool false)]) (xs := []) rfl (RL.nil _ _))
 refine ws rfl (os_buildSlice (cs := [(.int .i64 0), (.bool false), (.int .i64 1), (.bool false)]) (E := 48) (sz := 2) rfl rfl (fun _ => by kernel_rfl) rfl (by decide) (fun b4 => ?_))
 refine WL.held rl3 (fun H3 hc4 hle3 h4 => ?_)
 replace h2 := h2.mono hle3
 replace h3 := h3.mono hle3
 refine V rfl (ov_build (r := (.agg #[(.slice (some ⟨b4, 0, none⟩) ([(Stroke.mk 0 false), (Stroke.mk 1 false)] : List Stroke).length 2), (.int .i64 0)])) rfl rfl (fun _ => by kernel_rfl)) ?_
 have rl4 : RL H3 encStep ([(Step.mk ([(Stroke.mk 0 true)] : List Stroke) 0), (Step.mk ([(Stroke.mk 1 true)] : List Stroke) 50), (Step.mk ([(Stroke.mk 0 false), (Stroke.mk 1 false)] : List Stroke) 0)] : List Step) [(.slice (some ⟨b2, 0, none⟩) ([(Stroke.mk 0 true)] : List Stroke).length 1), (.int .i64 0), (.slice (some ⟨b3, 0, none⟩) ([(Stroke.mk 1 true)] : List Stroke).length 1), (.int .i64 50), (.slice (some ⟨b4, 0, none⟩) ([(Stroke.mk 0 false), (Stroke.mk 1 false)] : List Stroke).length 2), (.int .i64 0)] := RL.cons (cs := [(.slice (some ⟨b2, 0, none⟩) ([(Stroke.mk 0 true)] : List Stroke).length 1), (.int .i64 0)]) (xs := [(.slice (some ⟨b3, 0, none⟩) ([(Stroke.mk 1 true)] : List Stroke).length 1), (.int .i64 50), (.slice (some ⟨b4, 0, none⟩) ([(Stroke.mk 0 false), (Stroke.mk 1 false)] : List Stroke).length 2), (.int .i64 0)]) ⟨(some ⟨b2, 0, none⟩), 1, rfl, h2, hc2⟩ (RL.cons (cs := [(.slice (some ⟨b3, 0, none⟩) ([(Stroke.mk 1 true)] : List Stroke).length 1), (.int .i64 50)]) (xs := [(.slice (some ⟨b4, 0, none⟩) ([(Stroke.mk 0 false), (Stroke.mk 1 false)] : List Stroke).length 2), (.int .i64 0)]) ⟨(some ⟨b3, 0, none⟩), 1, rfl, h3, hc3⟩ (RL.cons (cs := [(.slice (some ⟨b4, 0, none⟩) ([(Stroke.mk 0 false), (Stroke.mk 1 false)] : List Stroke).length 2), (.int .i64 0)]) (xs := []) ⟨(some ⟨b4, 0, none⟩), 2, rfl, h4, hc4⟩ (RL.nil _ _)))
 refine ws rfl (os_buildSlice (cs := [(.slice (some ⟨b2, 0, none⟩) ([(Stroke.mk 0 true)] : List Stroke).length 1), (.int .i64 0), (.slice (some ⟨b3, 0, none⟩) ([(Stroke.mk 1 true)] : List Stroke).length 1), (.int .i64 50), (.slice (some ⟨b4, 0, none⟩) ([(Stroke.mk 0 false), (Stroke.mk 1 false)] : List Stroke).length 2), (.int .i64 0)]) (E := 45) (sz := 2) rfl rfl (fun _ => by kernel_rfl) rfl (by decide) (fun b5 => ?_))
 refine WL.held rl4 (fun H4 hc5 hle4 h5 => ?_)
 refine V rfl (ov_build (r := (.agg #[(.int .i64 2), (.slice (some ⟨b5, 0, none⟩) ([(Step.mk ([(Stroke.mk 0 true)] : List Stroke) 0), (Step.mk ([(Stroke.mk 1 true)] : List Stroke) 50), (Step.mk ([(Stroke.mk 0 false), (Stroke.mk 1 false)] : List Stroke) 0)] : List Step).length 3)])) rfl rfl (fun _ => by kernel_rfl)) ?_
 refine ws0 rfl (os_store (i := 0) (vs := [(.int .i64 2), (.slice (some ⟨b5, 0, none⟩) ([(Step.mk ([(Stroke.mk 0 true)] : List Stroke) 0), (Step.mk ([(Stroke.mk 1 true)] : List Stroke) 50), (Step.mk ([(Stroke.mk 0 false), (Stroke.mk 1 false)] : List Stroke) 0)] : List Step).length 3)]) (cs' := [(.int .i64 2), (.slice (some ⟨b5, 0, none⟩) ([(Step.mk ([(Stroke.mk 0 true)] : List Stroke) 0), (Step.mk ([(Stroke.mk 1 true)] : List Stroke) 50), (Step.mk ([(Stroke.mk 0 false), (Stroke.mk 1 false)] : List Stroke) 0)] : List Step).length 3)]) sizeOf24 rfl rfl rfl rfl rfl rfl rfl rfl rfl ?_)
 refine WL.nil (tn (WP.ret ?_))
 obtain rfl := Option.some.inj hm
 refine retQ_ret results39 (Res.cell rfl (box_loads (i := 0) isAgg24 sizeOf24 rfl rfl) Res.nil) rfl (fun w' s => ⟨s.below, ?_⟩)
 exact ⟨(some ⟨b5, 0, none⟩), 3, rfl, h5.mono s.le_newer, hc5⟩
theorem law16_awake_con  (w : World) (H : Heap) (hH : Le H (hp w)) (hG : Glob H) (r : Bool) (hm : law16_awake  = some r) :
  Con prog 12 [] w H (fun v _ => v = (.bool r)) := by
 unfold law16_awake at hm
 refine con_of hH func12 rfl 70 ntmps12 rfl ?_
 refine WP.seq (WP.region (Va rfl (WL.nil (tn (WP.seq (WP.region ?_))))))
 obtain ⟨r1, e1, hm⟩ := bind_some hm
 refine ws rfl (os_con call39 rfl rfl (fun w' s => (law16_Two_con   w' H s.hold hG r1 e1)) (fun rr1 H1 hle1 hR1 => ?_))
 replace hG := hG.mono hle1
 obtain ⟨ao1, cap1, rfl, h1, hc1⟩ := hR1
 obtain ⟨r2, e2, hm⟩ := bind_some hm
 refine ws rfl (os_con call13 rfl rfl (fun w' s => (diagram_Draw_con r1 ao1 cap1  w' H1 s.hold h1 hc1 hG r2 e2)) (fun rr2 H2 hle2 hR2 => ?_))
 replace hG := hG.mono hle2
 obtain ⟨ao2, cap2, rfl, h2, hc2⟩ := hR2
 refine Vm rfl (Ve rfl (Ve rfl (Va rfl (Va rfl (WL.nil (tn (WP.seq (WP.region ?_))))))))
 obtain ⟨r3, e3, hm⟩ := bind_some hm
 refine ws rfl (os_con call39 rfl rfl (fun w' s => (law16_Two_con   w' H2 s.hold hG r3 e3)) (fun rr3 H3 hle3 hR3 => ?_))
 replace h2 := h2.mono hle3
 replace hG := hG.mono hle3
 obtain ⟨ao3, cap3, rfl, h3, hc3⟩ := hR3
 obtain ⟨r4, e4, hm⟩ := bind_some hm
 refine wo rfl (oq_con (r := (.tuple #[(mkS r4.1), (.int .i64 r4.2)])) call15 rfl rfl (fun w' s => ⟨_, (diagram_Column_con r3 1 ao3 cap3  w' H3 s.hold h3 hc3 hG r4 e4)⟩)) ?_
 refine Vm rfl (Ve rfl (Ve rfl (Va rfl (Va rfl (WL.nil (tn (WP.seq (WP.region ?_))))))))
 obtain ⟨r5, e5, hm⟩ := bind_some hm
 refine ws rfl (os_con call39 rfl rfl (fun w' s => (law16_Two_con   w' H3 s.hold hG r5 e5)) (fun rr4 H4 hle4 hR4 => ?_))
 replace h2 := h2.mono hle4
 replace hG := hG.mono hle4
 obtain ⟨ao4, cap4, rfl, h4, hc4⟩ := hR4
 obtain ⟨r6, e6, hm⟩ := bind_some hm
 refine ws rfl (os_con call17 rfl rfl (fun w' s => (diagram_Switches_con r5 ao4 cap4  w' H4 s.hold h4 hc4 hG r6 e6)) (fun rr5 H5 hle5 hR5 => ?_))
 replace h2 := h2.mono hle5
 replace hG := hG.mono hle5
 obtain ⟨ao5, cap5, rfl, h5, hc5⟩ := hR5
 refine Vm rfl (Ve rfl (Ve rfl (Va rfl (Va rfl (WL.nil (tn (WP.seq (WP.region ?_))))))))
 obtain ⟨r7, e7, hm⟩ := bind_some hm
 refine ws rfl (os_con call39 rfl rfl (fun w' s => (law16_Two_con   w' H5 s.hold hG r7 e7)) (fun rr6 H6 hle6 hR6 => ?_))
 replace h2 := h2.mono hle6
 replace h5 := h5.mono hle6
 replace hG := hG.mono hle6
 obtain ⟨ao6, cap6, rfl, h6, hc6⟩ := hR6
 have rl1 : RL H6 (encInt .i64) ([0, 2] : List Int) [(.int .i64 0), (.int .i64 2)] := RL.cons (cs := [(.int .i64 0)]) (xs := [(.int .i64 2)]) rfl (RL.cons (cs := [(.int .i64 2)]) (xs := []) rfl (RL.nil _ _))
 refine ws rfl (os_buildSlice (cs := [(.int .i64 0), (.int .i64 2)]) (E := 3) (sz := 1) rfl rfl (fun _ => by kernel_rfl) rfl (by decide) (fun b1 => ?_))
 refine WL.held rl1 (fun H7 hc7 hle7 h7 => ?_)
 replace h2 := h2.mono hle7
 replace h5 := h5.mono hle7
 replace h6 := h6.mono hle7
 replace hG := hG.mono hle7
 obtain ⟨r8, e8, hm⟩ := bind_some hm
 refine ws rfl (os_con call20 rfl rfl (fun w' s => (diagram_Marks_con r7 ([0, 2] : List Int) ao6 cap6 (some ⟨b1, 0, none⟩) 2  w' H7 s.hold h6 hc6 h7 hc7 hG r8 e8)) (fun rr7 H8 hle8 hR7 => ?_))
 replace h2 := h2.mono hle8
 replace h5 := h5.mono hle8
 replace hG := hG.mono hle8
 obtain ⟨ao7, cap7, rfl, h8, hc8⟩ := hR7
 refine Vm rfl (Ve rfl (Ve rfl (Va rfl (Va rfl (WL.nil (tn (WP.seq (WP.region ?_))))))))
 have rl2 : RL H8 encStr ([[65, 32, 95, 47, 45, 45, 45, 92, 95], [66, 32, 95, 95, 95, 47, 45, 92, 95], [84, 32, 48, 32, 53, 48, 32, 48]] : List (List UInt8)) [(mkS [65, 32, 95, 47, 45, 45, 45, 92, 95]), (mkS [66, 32, 95, 95, 95, 47, 45, 92, 95]), (mkS [84, 32, 48, 32, 53, 48, 32, 48])] := RL.cons (cs := [(mkS [65, 32, 95, 47, 45, 45, 45, 92, 95])]) (xs := [(mkS [66, 32, 95, 95, 95, 47, 45, 92, 95]), (mkS [84, 32, 48, 32, 53, 48, 32, 48])]) rfl (RL.cons (cs := [(mkS [66, 32, 95, 95, 95, 47, 45, 92, 95])]) (xs := [(mkS [84, 32, 48, 32, 53, 48, 32, 48])]) rfl (RL.cons (cs := [(mkS [84, 32, 48, 32, 53, 48, 32, 48])]) (xs := []) rfl (RL.nil _ _)))
 refine ws rfl (os_buildSlice (cs := [(mkS [65, 32, 95, 47, 45, 45, 45, 92, 95]), (mkS [66, 32, 95, 95, 95, 47, 45, 92, 95]), (mkS [84, 32, 48, 32, 53, 48, 32, 48])]) (E := 9) (sz := 1) rfl rfl (fun _ => by kernel_rfl) rfl (by decide) (fun b2 => ?_))
 refine WL.held rl2 (fun H9 hc9 hle9 h9 => ?_)
 replace h2 := h2.mono hle9
 replace h5 := h5.mono hle9
 replace h8 := h8.mono hle9
 replace hG := hG.mono hle9
 obtain ⟨r9, e9, hm⟩ := bind_some hm
 refine ws rfl (os_con call30 rfl rfl (fun w' s => (diagram_Read_con ([[65, 32, 95, 47, 45, 45, 45, 92, 95], [66, 32, 95, 95, 95, 47, 45, 92, 95], [84, 32, 48, 32, 53, 48, 32, 48]] : List (List UInt8)) (some ⟨b2, 0, none⟩) 3  w' H9 s.hold h9 hc9 hG r9 e9)) (fun rr8 H10 hle10 hR8 => ?_))
 replace h2 := h2.mono hle10
 replace h5 := h5.mono hle10
 replace h8 := h8.mono hle10
 replace hG := hG.mono hle10
 obtain ⟨ao8, cap8, rfl, h10, hc10⟩ := hR8
 refine Vm rfl (Ve rfl (Ve rfl ?_))
 refine ws rfl (os_alloc (cs := [(.int .i64 0), (.slice none 0 0)]) zeroValue24 rfl rfl (fun b3 => ?_))
 refine ws0 rfl (os_store (i := 0) (vs := [(.int .i64 r9.1.actuators), (.slice ao8 r9.1.steps.length cap8)]) (cs' := [(.int .i64 r9.1.actuators), (.slice ao8 r9.1.steps.length cap8)]) sizeOf24 rfl rfl rfl rfl rfl rfl rfl rfl rfl ?_)
 refine Va rfl (WL.nil (tn (WP.seq ?_)))
 obtain ⟨k1, hk1, hm⟩ := joinK_some hm
 refine WP.seq_join (fun g' S' => ∃ (H12 : Heap) (c1 : Bool), Le H10 H12 ∧ Sub [(1, (.slice ao2 r2.1.length cap2)), (5, (.slice ao5 r6.1.length cap5)), (7, (.slice ao7 r8.1.length cap7)), (56, (.bool c1)), (1000000007, (.bool false))] g' ∧ (∀ w', S' w' → St w H [] H12 w') ∧ k1 c1 = some r) ?_ ?_
 ·
  refine WP.region_any (S₀ := St w H [.blk b3 24 [(.int .i64 r9.1.actuators), (.slice ao8 r9.1.steps.length cap8)]] H10) 20 rfl (by kernel_rfl) (fun w' s => s) (fun _ s => s.drew) ?_
  refine TQ 0 (by kernel_rfl) rfl (ov_move rfl rfl) (TQ 1 (by kernel_rfl) rfl (ov_move rfl rfl) (TQ 2 (by kernel_rfl) rfl (ov_add rfl rfl rfl) (TQ 3 (by kernel_rfl) rfl (ov_move rfl rfl) (TQ 4 (by kernel_rfl) rfl (ov_add rfl rfl rfl) (TQ 5 (by kernel_rfl) rfl (ov_move rfl rfl) (TQ 6 (by kernel_rfl) rfl (ov_add rfl rfl rfl) (TQ 7 (by kernel_rfl) rfl (ov_move rfl rfl) (TQ 8 (by kernel_rfl) rfl (ov_add rfl rfl rfl) (TQ 9 (by kernel_rfl) rfl (ov_neq rfl rfl rfl) (TQ 10 (by kernel_rfl) rfl (ov_move rfl rfl) ?_))))))))))
  rcases Bool.eq_false_or_eq_true ((IntKind.wrap .i64 ((IntKind.wrap .i64 ((IntKind.wrap .i64 ((IntKind.wrap .i64 (r2.2 + r4.2)) + r6.2)) + r8.2)) + r9.2)) != 0) with hc11 | hc11
  ·
   replace hm := ite_t hc11 hm
   refine AL.idle (i := 11) rfl (by kernel_rfl) (by kernel_rfl) (by kernel_rfl) (Idle.no rfl rfl rfl hc11) rfl rfl ?_
   refine AL.idle (i := 12) rfl (by kernel_rfl) (by kernel_rfl) (by kernel_rfl) (Idle.no rfl rfl rfl hc11) rfl rfl ?_
   refine AL.idle (i := 13) rfl (by kernel_rfl) (by kernel_rfl) (by kernel_rfl) (Idle.no rfl rfl rfl hc11) rfl rfl ?_
   refine AL.idle (i := 14) rfl (by kernel_rfl) (by kernel_rfl) (by kernel_rfl) (Idle.no rfl rfl rfl hc11) rfl rfl ?_
   refine TQ 15 (by kernel_rfl) rfl (ov_pick_true rfl (guard_eq rfl hc11) rfl) (TQ 16 (by kernel_rfl) rfl (ov_move rfl rfl) ?_)
   refine AL.idle (i := 17) rfl (by kernel_rfl) (by kernel_rfl) (by kernel_rfl) (Idle.no rfl rfl rfl rfl) rfl rfl ?_
   refine AL.idle (i := 18) rfl (by kernel_rfl) (by kernel_rfl) (by kernel_rfl) (Idle.no rfl rfl rfl rfl) rfl rfl ?_
   refine TQ 19 (by kernel_rfl) rfl (ov_pick_true rfl (guard_eq rfl rfl) rfl) ?_
   refine AL.done (by kernel_rfl) ?_
   refine tn ?_
   exact ⟨H10, true, (Le.refl _), (Sub.all rfl), fun w' s => (s.select [] (by decide) rfl), hm⟩
  replace hm := ite_f hc11 hm
  refine AL.take (i := 11) rfl (by kernel_rfl) (by kernel_rfl) (by kernel_rfl) (Runs.yes rfl rfl rfl hc11) rfl rfl (ov_load_whole (i := 0) isAgg24 sizeOf24 rfl rfl rfl rfl) ?_
  refine AL.any (rs := [12]) (by kernel_rfl) (by decide) ?_
  refine ALs.cons (i := 12) rfl (Runs.yes rfl rfl rfl hc11) rfl rfl ?_ ?_
  ·
   obtain ⟨r10, e10, hm⟩ := bind_some hm
   refine os_con call39 rfl rfl (fun w' s => (law16_Two_con   w' H10 s.hold hG r10 e10)) (fun rr9 H11 hle11 hR9 => ?_)
   replace h2 := h2.mono hle11
   replace h5 := h5.mono hle11
   replace h8 := h8.mono hle11
   replace h10 := h10.mono hle11
   replace hG := hG.mono hle11
   obtain ⟨ao9, cap9, rfl, h11, hc12⟩ := hR9
   refine ⟨fun w' s => (s.heap hle11), ?_⟩
   refine AL.any (rs := [13]) (by kernel_rfl) (by decide) ?_
   refine ALs.cons (i := 13) rfl (Runs.yes rfl rfl rfl hc11) rfl rfl ?_ ?_
   ·
    obtain ⟨r11, e11, hm⟩ := bind_some hm
    refine OQ.step (oq_con (r := (.bool r11)) call34 rfl rfl (fun w' s => ⟨_, (ref14_Same_con r9.1 r10 ao8 cap8 ao9 cap9  w' H11 s.hold h10 hc10 h11 hc12 hG r11 e11)⟩)) ?_
    refine ⟨fun w' s => (s.heap hle11), ?_⟩
    refine AL.take (i := 14) rfl (by kernel_rfl) (by kernel_rfl) (by kernel_rfl) (Runs.yes rfl rfl rfl hc11) rfl rfl (ov_not rfl rfl) ?_
    refine TQ 15 (by kernel_rfl) rfl (ov_pick_false rfl (guard_eq rfl hc11) rfl) (TQ 16 (by kernel_rfl) rfl (ov_move rfl rfl) ?_)
    rcases Bool.eq_false_or_eq_true (!r11) with hc13 | hc13
    ·
     replace hm := ite_t hc13 hm
     refine AL.idle (i := 17) rfl (by kernel_rfl) (by kernel_rfl) (by kernel_rfl) (Idle.no rfl rfl rfl hc13) rfl rfl ?_
     refine AL.idle (i := 18) rfl (by kernel_rfl) (by kernel_rfl) (by kernel_rfl) (Idle.no rfl rfl rfl hc13) rfl rfl ?_
     refine TQ 19 (by kernel_rfl) rfl (ov_pick_true rfl (guard_eq rfl hc13) rfl) ?_
     refine AL.done (by kernel_rfl) ?_
     refine tn ?_
     exact ⟨H11, true, hle11, (Sub.all rfl), fun w' s => (s.select [] (by decide) rfl), hm⟩
    replace hm := ite_f hc13 hm
    refine AL.take (i := 17) rfl (by kernel_rfl) (by kernel_rfl) (by kernel_rfl) (Runs.yes rfl rfl rfl hc13) rfl rfl (ov_move rfl rfl) ?_
    refine AL.take (i := 18) rfl (by kernel_rfl) (by kernel_rfl) (by kernel_rfl) (Runs.yes rfl rfl rfl hc13) rfl rfl (ov_sneq rfl rfl rfl) ?_
    refine TQ 19 (by kernel_rfl) rfl (ov_pick_false rfl (guard_eq rfl hc13) rfl) ?_
    refine AL.done (by kernel_rfl) ?_
    refine tn ?_
    exact ⟨H11, (!(r4.1 == [45, 47])), hle11, (Sub.all rfl), fun w' s => (s.select [] (by decide) rfl), hm⟩
   exact ALs.nil
  exact ALs.nil
 rintro g' S' ⟨H12, c1, hle12, hsub1, hS1, hm⟩
 refine WP.sub hsub1 (WP.weaken hS1 ?_)
 replace hm := (congrFun hk1 c1).symm.trans hm
 replace h2 := h2.mono hle12
 replace h5 := h5.mono hle12
 replace h8 := h8.mono hle12
 replace hG := hG.mono hle12
 refine WP.cond rfl (fun hc14 => ?_) (fun hc14 => ?_)
 ·
  replace hm := ite_t hc14 hm
  refine WP.seq (WP.region (Va rfl (WL.nil (tn (WP.ret (then_ret ?_))))))
  obtain rfl := Option.some.inj hm
  refine retQ_ret results12 (Res.tmp rfl Res.nil) rfl (fun w' s => ⟨s.below, ?_⟩)
  exact rfl
 replace hm := ite_f hc14 hm
 refine WP.skip (tn (WP.seq (WP.region (Vm rfl ?_))))
 have rl3 : RL H12 encStr ([[65, 32, 95, 47, 45, 45, 45, 92, 95], [66, 32, 95, 95, 95, 47, 45, 92, 95], [84, 32, 48, 32, 53, 48, 32, 48]] : List (List UInt8)) [(mkS [65, 32, 95, 47, 45, 45, 45, 92, 95]), (mkS [66, 32, 95, 95, 95, 47, 45, 92, 95]), (mkS [84, 32, 48, 32, 53, 48, 32, 48])] := RL.cons (cs := [(mkS [65, 32, 95, 47, 45, 45, 45, 92, 95])]) (xs := [(mkS [66, 32, 95, 95, 95, 47, 45, 92, 95]), (mkS [84, 32, 48, 32, 53, 48, 32, 48])]) rfl (RL.cons (cs := [(mkS [66, 32, 95, 95, 95, 47, 45, 92, 95])]) (xs := [(mkS [84, 32, 48, 32, 53, 48, 32, 48])]) rfl (RL.cons (cs := [(mkS [84, 32, 48, 32, 53, 48, 32, 48])]) (xs := []) rfl (RL.nil _ _)))
 refine ws rfl (os_buildSlice (cs := [(mkS [65, 32, 95, 47, 45, 45, 45, 92, 95]), (mkS [66, 32, 95, 95, 95, 47, 45, 92, 95]), (mkS [84, 32, 48, 32, 53, 48, 32, 48])]) (E := 9) (sz := 1) rfl rfl (fun _ => by kernel_rfl) rfl (by decide) (fun b4 => ?_))
 refine WL.held rl3 (fun H13 hc15 hle13 h12 => ?_)
 replace h2 := h2.mono hle13
 replace h5 := h5.mono hle13
 replace h8 := h8.mono hle13
 replace hG := hG.mono hle13
 obtain ⟨r12, e12, hm⟩ := bind_some hm
 refine wo rfl (oq_con (r := (.bool r12)) call19 rfl rfl (fun w' s => ⟨_, (slices_Equal_stringstring_con r2.1 ([[65, 32, 95, 47, 45, 45, 45, 92, 95], [66, 32, 95, 95, 95, 47, 45, 92, 95], [84, 32, 48, 32, 53, 48, 32, 48]] : List (List UInt8)) ao2 cap2 (some ⟨b4, 0, none⟩) 3  w' H13 s.hold h2 hc2 h12 hc15 hG r12 e12)⟩)) ?_
 refine Vm rfl ?_
 obtain ⟨c2, e13, hm⟩ := bind_some hm
 refine WL.cut_bool 4 64 (x := c2) ?_ ?_
 ·
  rcases Bool.eq_false_or_eq_true r12 with hc16 | hc16
  ·
   replace hm := ite_t hc16 e13
   refine wy hc16 rfl (ov_move rfl rfl) ?_
   have rl4 : RL H13 encStr ([[65, 48, 32, 35, 46, 46, 35], [65, 49, 32, 46, 35, 35, 46], [66, 48, 32, 35, 35, 46, 35], [66, 49, 32, 46, 46, 35, 46]] : List (List UInt8)) [(mkS [65, 48, 32, 35, 46, 46, 35]), (mkS [65, 49, 32, 46, 35, 35, 46]), (mkS [66, 48, 32, 35, 35, 46, 35]), (mkS [66, 49, 32, 46, 46, 35, 46])] := RL.cons (cs := [(mkS [65, 48, 32, 35, 46, 46, 35])]) (xs := [(mkS [65, 49, 32, 46, 35, 35, 46]), (mkS [66, 48, 32, 35, 35, 46, 35]), (mkS [66, 49, 32, 46, 46, 35, 46])]) rfl (RL.cons (cs := [(mkS [65, 49, 32, 46, 35, 35, 46])]) (xs := [(mkS [66, 48, 32, 35, 35, 46, 35]), (mkS [66, 49, 32, 46, 46, 35, 46])]) rfl (RL.cons (cs := [(mkS [66, 48, 32, 35, 35, 46, 35])]) (xs := [(mkS [66, 49, 32, 46, 46, 35, 46])]) rfl (RL.cons (cs := [(mkS [66, 49, 32, 46, 46, 35, 46])]) (xs := []) rfl (RL.nil _ _))))
   refine WL.step (Runs.yes rfl rfl rfl hc16) rfl rfl (os_buildSlice (cs := [(mkS [65, 48, 32, 35, 46, 46, 35]), (mkS [65, 49, 32, 46, 35, 35, 46]), (mkS [66, 48, 32, 35, 35, 46, 35]), (mkS [66, 49, 32, 46, 46, 35, 46])]) (E := 9) (sz := 1) rfl rfl (fun _ => by kernel_rfl) rfl (by decide) (fun b5 => ?_))
   refine WL.held rl4 (fun H14 hc17 hle14 h13 => ?_)
   replace h5 := h5.mono hle14
   replace h8 := h8.mono hle14
   replace hG := hG.mono hle14
   obtain ⟨r13, e14, hm⟩ := bind_some hm
   refine WL.quiet (Runs.yes rfl rfl rfl hc16) rfl rfl (oq_con (r := (.bool r13)) call19 rfl rfl (fun w' s => ⟨_, (slices_Equal_stringstring_con r6.1 ([[65, 48, 32, 35, 46, 46, 35], [65, 49, 32, 46, 35, 35, 46], [66, 48, 32, 35, 35, 46, 35], [66, 49, 32, 46, 46, 35, 46]] : List (List UInt8)) ao5 cap5 (some ⟨b5, 0, none⟩) 4  w' H14 s.hold h5 hc5 h13 hc17 hG r13 e14)⟩)) ?_
   refine V rfl (ov_pick_true rfl (guard_eq rfl hc16) rfl) ?_
   exact WL.nil ⟨Sub.cons' rfl (congrArg Value.bool (Option.some.inj hm)) (Sub.dropn 4 rfl), fun _ s => (s.heap hle14)⟩
  replace hm := ite_f hc16 e13
  refine Vi rfl (Idle.no rfl rfl rfl hc16) (Vi rfl (Idle.no rfl rfl rfl hc16) (Vi rfl (Idle.no rfl rfl rfl hc16) (V rfl (ov_pick_false rfl (guard_eq rfl hc16) rfl) ?_)))
  exact WL.nil ⟨Sub.cons' rfl (congrArg Value.bool (Option.some.inj hm)) (Sub.dropn 4 rfl), fun _ s => s⟩
 refine Vm rfl ?_
 obtain ⟨c3, e15, hm⟩ := bind_some hm
 refine WL.cut_bool 4 69 (x := c3) ?_ ?_
 ·
  rcases Bool.eq_false_or_eq_true c2 with hc18 | hc18
  ·
   replace hm := ite_t hc18 e15
   refine wy hc18 rfl (ov_move rfl rfl) ?_
   have rl5 : RL H13 encStr ([[65, 32, 95, 124, 47, 45, 45, 45, 124, 92, 95], [66, 32, 95, 124, 95, 95, 47, 45, 124, 92, 95]] : List (List UInt8)) [(mkS [65, 32, 95, 124, 47, 45, 45, 45, 124, 92, 95]), (mkS [66, 32, 95, 124, 95, 95, 47, 45, 124, 92, 95])] := RL.cons (cs := [(mkS [65, 32, 95, 124, 47, 45, 45, 45, 124, 92, 95])]) (xs := [(mkS [66, 32, 95, 124, 95, 95, 47, 45, 124, 92, 95])]) rfl (RL.cons (cs := [(mkS [66, 32, 95, 124, 95, 95, 47, 45, 124, 92, 95])]) (xs := []) rfl (RL.nil _ _))
   refine WL.step (Runs.yes rfl rfl rfl hc18) rfl rfl (os_buildSlice (cs := [(mkS [65, 32, 95, 124, 47, 45, 45, 45, 124, 92, 95]), (mkS [66, 32, 95, 124, 95, 95, 47, 45, 124, 92, 95])]) (E := 9) (sz := 1) rfl rfl (fun _ => by kernel_rfl) rfl (by decide) (fun b6 => ?_))
   refine WL.held rl5 (fun H15 hc19 hle15 h14 => ?_)
   replace h8 := h8.mono hle15
   replace hG := hG.mono hle15
   obtain ⟨r14, e16, hm⟩ := bind_some hm
   refine WL.quiet (Runs.yes rfl rfl rfl hc18) rfl rfl (oq_con (r := (.bool r14)) call19 rfl rfl (fun w' s => ⟨_, (slices_Equal_stringstring_con r8.1 ([[65, 32, 95, 124, 47, 45, 45, 45, 124, 92, 95], [66, 32, 95, 124, 95, 95, 47, 45, 124, 92, 95]] : List (List UInt8)) ao7 cap7 (some ⟨b6, 0, none⟩) 2  w' H15 s.hold h8 hc8 h14 hc19 hG r14 e16)⟩)) ?_
   refine V rfl (ov_pick_true rfl (guard_eq rfl hc18) rfl) ?_
   exact WL.nil ⟨Sub.cons' rfl (congrArg Value.bool (Option.some.inj hm)) (Sub.dropn 4 rfl), fun _ s => (s.heap hle15)⟩
  replace hm := ite_f hc18 e15
  refine Vi rfl (Idle.no rfl rfl rfl hc18) (Vi rfl (Idle.no rfl rfl rfl hc18) (Vi rfl (Idle.no rfl rfl rfl hc18) (V rfl (ov_pick_false rfl (guard_eq rfl hc18) rfl) ?_)))
  exact WL.nil ⟨Sub.cons' rfl (congrArg Value.bool (Option.some.inj hm)) (Sub.dropn 4 rfl), fun _ s => s⟩
 refine Va rfl (WL.nil (tn (WP.ret ?_)))
 obtain rfl := Option.some.inj hm
 refine retQ_ret results12 (Res.tmp rfl Res.nil) rfl (fun w' s => ⟨s.below, ?_⟩)
 exact rfl
end Go.Proofs.YtbckcjjffbgidaaGreatDoor.W
