/- The walks. Written by our own program gen.py; Lean checks it. -/
import Derived.Test.YtbckcjjffbgidaaGreatDoorPlain
import Derived.Test.YtbckcjjffbgidaaGreatDoorEqs
import Derived.Test.YtbckcjjffbgidaaGreatDoorProg
import Derived.Test.YtbckcjjffbgidaaGreatDoorExt
import Derived.Test.YtbckcjjffbgidaaGreatDoorBuild
import Derived.Test.YtbckcjjffbgidaaGreatDoorClone
import Derived.Test.YtbckcjjffbgidaaGreatDoorWalk1
import Derived.Test.YtbckcjjffbgidaaGreatDoorWalk7
import Derived.Test.YtbckcjjffbgidaaGreatDoorWalk8
set_option linter.unusedVariables false
set_option maxRecDepth 100000
set_option maxHeartbeats 4000000
namespace Go.Proofs.YtbckcjjffbgidaaGreatDoor.W
open Go Go.RowKit Go.Proofs.Tryz
theorem diagram_Read_con (p_l : (List (List UInt8))) (ao1 : Option Addr) (cap1 : Nat) (w : World) (H : Heap) (hH : Le H (hp w)) (h1 : SL H encStr ao1 p_l) (hc1 : p_l.length ≤ cap1) (hG : Glob H) (r : (Sequence × Int)) (hm : diagram_Read p_l = some r) :
  Con prog 30 [(.slice ao1 p_l.length cap1)] w H (fun v H' => ∃ (ao2 : Option Addr) (cap2 : Nat), v = (.tuple #[(.agg #[(.int .i64 r.1.actuators), (.slice ao2 r.1.steps.length cap2)]), (.int .i64 r.2)]) ∧ SL H' encStep ao2 r.1.steps ∧ r.1.steps.length ≤ cap2) := by
 unfold diagram_Read at hm
 refine con_of hH func30 rfl 86 ntmps30 rfl ?_
 refine WP.seq (WP.region ?_)
 refine ws rfl (os_alloc (cs := [(.int .i64 0), (.slice none 0 0)]) zeroValue24 rfl rfl (fun b1 => ?_))
 refine Va rfl (WL.nil (tn (WP.seq (WP.seq (WP.region (Vm rfl ?_))))))
 obtain ⟨r1, e1, hm⟩ := bind_some hm
 refine wo rfl (oq_con (r := (.int .i64 r1)) call66 rfl rfl (fun w' s => ⟨_, (diagram_given_con p_l 7 ao1 cap1  w' H s.hold h1 hc1 hG r1 e1)⟩)) ?_
 refine Va rfl (WL.nil (tn (WP.seq (WP.region (Vm rfl (V rfl (ov_neq rfl rfl rfl) (WL.nil (tn ?_))))))))
 refine WP.cond rfl (fun hc3 => ?_) (fun hc3 => ?_)
 ·
  replace hm := ite_t hc3 hm
  refine WP.seq (WP.region (V rfl (ov_build (r := (.agg #[(.int .i64 0), (.slice none 0 0)])) rfl rfl (fun _ => by kernel_rfl)) (Vm rfl ?_)))
  refine ws0 rfl (os_store (i := 0) (vs := [(.int .i64 0), (.slice none 0 0)]) (cs' := [(.int .i64 0), (.slice none 0 0)]) sizeOf24 rfl rfl rfl rfl rfl rfl rfl rfl rfl ?_)
  refine Va rfl (WL.nil (tn (WP.ret (then_ret ?_))))
  obtain rfl := Option.some.inj hm
  refine retQ_ret results30 (Res.cell rfl (box_loads (i := 0) isAgg24 sizeOf24 rfl rfl) (Res.tmp rfl Res.nil)) rfl (fun w' s => ⟨s.below, ?_⟩)
  exact ⟨none, 0, rfl, SL.nil _ _ _, Nat.le_refl _⟩
 replace hm := ite_f hc3 hm
 refine WP.skip (tn (WP.seq (WP.region (Vm rfl (Va rfl (Va rfl (WL.nil (tn ?_))))))))
 obtain ⟨k1, hk1, hm⟩ := joinK_some hm
 refine WP.seq_join (fun g' S' => ∃ (l2 : (List (List UInt8))) (ao4 : Option Addr) (cap4 : Nat) (s1 : (List UInt8)), SL H encStr ao4 l2 ∧ l2.length ≤ cap4 ∧ Sub [(0, (.slice ao1 p_l.length cap1)), (2, (pB b1 0)), (5, (.slice ao4 l2.length cap4)), (6, (mkS s1)), (1000000007, (.bool false))] g' ∧ (∀ w', S' w' → St w H [.blk b1 24 [(.int .i64 0), (.slice none 0 0)]] H w') ∧ k1 l2 s1 = some r) ?_ ?_
 ·
  refine WP.seq (WP.region (Vm rfl (V rfl (ov_len_slice underlying27 rfl rfl) (Va rfl (WL.nil (tn (WP.seq (WP.region (Vm rfl (V rfl (ov_gtr rfl rfl rfl) (Vm rfl ?_)))))))))))
  obtain ⟨c1, e2, hm⟩ := bind_some hm
  refine WL.cut_bool 7 28 (x := c1) ?_ ?_
  ·
   rcases Bool.eq_false_or_eq_true (decide ((p_l.length : Int) > 0)) with hc4 | hc4
   ·
    replace hm := ite_t hc4 e2
    refine wy hc4 rfl (ov_move rfl rfl) ?_
    refine wy hc4 rfl (ov_move rfl rfl) ?_
    refine wy hc4 rfl (ov_sub rfl rfl rfl) ?_
    obtain ⟨x1, e3, hm⟩ := bind_some hm
    obtain ⟨h3, h4, h5, cs1, h6, h7⟩ := h1.get e3 (by decide)
    obtain rfl : cs1 = [(mkS x1)] := h6
    refine wy hc4 rfl (ov_indexAddr underlying27 sizeOf9 rfl rfl rfl h3 h4 h5) ?_
    refine wy hc4 rfl (ov_load_elem (v := (mkS x1)) isAgg9 rfl rfl h7) ?_
    obtain ⟨r2, e4, hm⟩ := bind_some hm
    refine WL.quiet (Runs.yes rfl rfl rfl hc4) rfl rfl (oq_con (r := (.bool r2)) call67 rfl rfl (fun w' s => ⟨_, (strings_HasPrefix_con x1 [84]  w' H s.hold hG r2 e4)⟩)) ?_
    refine V rfl (ov_pick_true rfl (guard_eq rfl hc4) rfl) ?_
    exact WL.nil ⟨Sub.cons' rfl (congrArg Value.bool (Option.some.inj hm)) (Sub.dropn 7 rfl), fun _ s => s⟩
   replace hm := ite_f hc4 e2
   refine Vi rfl (Idle.no rfl rfl rfl hc4) (Vi rfl (Idle.no rfl rfl rfl hc4) (Vi rfl (Idle.no rfl rfl rfl hc4) (Vi rfl (Idle.no rfl rfl rfl hc4) (Vi rfl (Idle.no rfl rfl rfl hc4) (Vi rfl (Idle.no rfl rfl rfl hc4) (V rfl (ov_pick_false rfl (guard_eq rfl hc4) rfl) ?_))))))
   exact WL.nil ⟨Sub.cons' rfl (congrArg Value.bool (Option.some.inj hm)) (Sub.dropn 7 rfl), fun _ s => s⟩
  refine WL.nil (tn ?_)
  refine WP.cond rfl (fun hc5 => ?_) (fun hc5 => ?_)
  ·
   replace hm := ite_t hc5 hm
   refine WP.region_draws (by kernel_rfl) (by kernel_rfl) (fun _ s => s.drew) ?_
   refine qf rfl (ov_move rfl rfl) ?_
   refine qf rfl (ov_move rfl rfl) ?_
   refine qf rfl (ov_sub rfl rfl rfl) ?_
   obtain ⟨l1, e5, hm⟩ := bind_some hm
   obtain ⟨ao3, cap3, h8, h9, hc6⟩ := sl_h h1 hc1 e5
   refine qf rfl (h8 underlying27 sizeOf9 rfl rfl rfl ) ?_
   refine qf rfl (ov_move rfl rfl) ?_
   refine qf rfl (ov_move rfl rfl) ?_
   refine qf rfl (ov_sub rfl rfl rfl) ?_
   obtain ⟨x2, e6, hm⟩ := bind_some hm
   obtain ⟨h10, h11, h12, cs2, h13, h14⟩ := h1.get e6 (by decide)
   obtain rfl : cs2 = [(mkS x2)] := h13
   refine qf rfl (ov_indexAddr underlying27 sizeOf9 rfl rfl rfl h10 h11 h12) ?_
   refine qf rfl (ov_load_elem (v := (mkS x2)) isAgg9 rfl rfl h14) ?_
   refine qf rfl (ov_assign rfl rfl) ?_
   refine qf rfl (ov_assign rfl rfl) ?_
   refine QL.nil ?_
   refine tn ?_
   exact ⟨l1, ao3, cap3, x2, h9, hc6, (Sub.all rfl), fun w' s => s, hm⟩
  replace hm := ite_f hc5 hm
  refine WP.skip (tn ?_)
  exact ⟨p_l, ao1, cap1, [], h1, hc1, (Sub.all rfl), fun w' s => s, hm⟩
 rintro g' S' ⟨l2, ao4, cap4, s1, h15, hc7, hsub1, hS1, hm⟩
 refine WP.sub hsub1 (WP.weaken hS1 ?_)
 replace hm := (congrFun (congrFun hk1 l2) s1).symm.trans hm
 refine WP.seq (WP.region (Vm rfl (V rfl (ov_len_slice underlying27 rfl rfl) (V rfl (ov_build (r := (.agg #[(.int .i64 (l2.length : Int)), (.slice none 0 0)])) rfl rfl (fun _ => by kernel_rfl)) ?_))))
 refine ws rfl (os_alloc (cs := [(.int .i64 0), (.slice none 0 0)]) zeroValue24 rfl rfl (fun b2 => ?_))
 refine ws0 rfl (os_store (i := 0) (vs := [(.int .i64 (l2.length : Int)), (.slice none 0 0)]) (cs' := [(.int .i64 (l2.length : Int)), (.slice none 0 0)]) sizeOf24 rfl rfl rfl rfl rfl rfl rfl rfl rfl ?_)
 refine WL.nil (tn ?_)
 have rl1 := RL.nil (α := Step) H encStep
 refine WP.weaken (fun _ s => s.nilrow 45 (encStep).size) ?_
 obtain ⟨k2, hk2, hm⟩ := joinK_some hm
 refine WP.seq_join (fun g' S' => ∃ (H3 : Heap) (l9 : (List Step)) (ao11 : Option Addr) (cap11 : Nat) (xs5 : List Value), Le H H3 ∧ RL H3 encStep l9 xs5 ∧ Sub [(0, (.slice ao1 p_l.length cap1)), (2, (pB b1 0)), (6, (mkS s1)), (8, (pB b2 0)), (1000000007, (.bool false))] g' ∧ (∀ w', S' w' → St w H [.row 45 (encStep).size l9.length (.slice ao11 l9.length cap11) xs5, .blk b2 24 [(.int .i64 (l2.length : Int)), (.slice ao11 l9.length cap11)], .blk b1 24 [(.int .i64 0), (.slice none 0 0)]] H3 w') ∧ k2 l9 = some r) ?_ ?_
 ·
  refine WP.seq (WP.region (Vm rfl (V rfl (ov_len_slice underlying27 rfl rfl) (V rfl (ov_gtr rfl rfl rfl) (WL.nil (tn ?_))))))
  refine WP.cond rfl (fun hc8 => ?_) (fun hc8 => ?_)
  ·
   replace hm := ite_t hc8 hm
   refine WP.seq (WP.region (Va rfl (WL.nil (tn (WP.block ?_)))))
   refine WP.loop (fun m1 g' S' => ∃ (H1 : Heap) (i1 : Int) (l3 : (List Step)) (ao5 : Option Addr) (cap5 : Nat) (xs1 : List Value), Le H H1 ∧ RL H1 encStep l3 xs1 ∧ Sub [(0, (.slice ao1 p_l.length cap1)), (2, (pB b1 0)), (5, (.slice ao4 l2.length cap4)), (6, (mkS s1)), (8, (pB b2 0)), (9, (.int .i64 i1)), (1000000007, (.bool false))] g' ∧ (∀ w', S' w' → St w H [.row 45 (encStep).size l3.length (.slice ao5 l3.length cap5) xs1, .blk b2 24 [(.int .i64 (l2.length : Int)), (.slice ao5 l3.length cap5)], .blk b1 24 [(.int .i64 0), (.slice none 0 0)]] H1 w') ∧ diagram_Read_loop1 l2 k2 m1 i1 l3 = some r) (70) ⟨H, 3, ([] : List Step), none, 0, [], (Le.refl _), rl1, (Sub.all rfl), fun w' s => s, hm⟩ ?_ ?_
   ·
    rintro g' S' ⟨_, _, _, _, _, _, _, _, _, _, hm⟩
    exact none_some hm
   rintro m1 g' S' ⟨H1, i1, l3, ao5, cap5, xs1, hle1, rl2, hsub2, hS2, hm⟩
   refine WP.sub hsub2 (WP.weaken hS2 ?_)
   rw [diagram_Read_loop1] at hm
   replace h1 := h1.mono hle1
   replace h15 := h15.mono hle1
   replace hG := hG.mono hle1
   refine WP.seq (WP.seq (WP.region (Vm rfl (V rfl (ov_add rfl rfl rfl) (Vm rfl ?_)))))
   obtain ⟨x3, e7, hm⟩ := bind_some hm
   obtain ⟨h16, h17, h18, cs3, h19, h20⟩ := h15.get e7 (by decide)
   obtain rfl : cs3 = [(mkS x3)] := h19
   refine V rfl (ov_indexAddr underlying27 sizeOf9 rfl rfl rfl h16 h17 h18) (V rfl (ov_load_elem (v := (mkS x3)) isAgg9 rfl rfl h20) (V rfl (ov_len_string underlying9 rfl rfl) (V rfl (ov_lss rfl rfl rfl) (Vm rfl ?_))))
   refine WL.cut_bool 5 56 (x := ((decide ((IntKind.wrap .i64 (i1 + 1)) < (x3.length : Int))) && (decide ((l3.length : Int) ≤ 64)))) ?_ ?_
   ·
    rcases Bool.eq_false_or_eq_true (decide ((IntKind.wrap .i64 (i1 + 1)) < (x3.length : Int))) with hc9 | hc9
    ·
     refine wy hc9 rfl (ov_fieldAddr underlying24 rfl rfl rfl sizeOf22 rfl rfl) ?_
     refine wy hc9 rfl (ov_load_box (i := 1) isAgg22 rfl rfl rfl rfl) ?_
     refine wy hc9 rfl (ov_len_slice underlying22 rfl rfl) ?_
     refine wy hc9 rfl (ov_leq rfl rfl rfl) ?_
     refine V rfl (ov_pick_true rfl (guard_eq rfl hc9) rfl) ?_
     exact WL.nil ⟨Sub.cons' rfl (congrArg Value.bool (andT hc9)) (Sub.dropn 5 rfl), fun _ s => s⟩
    refine Vi rfl (Idle.no rfl rfl rfl hc9) (Vi rfl (Idle.no rfl rfl rfl hc9) (Vi rfl (Idle.no rfl rfl rfl hc9) (Vi rfl (Idle.no rfl rfl rfl hc9) (V rfl (ov_pick_false rfl (guard_eq rfl hc9) rfl) ?_))))
    exact WL.nil ⟨Sub.cons' rfl (congrArg Value.bool (andF hc9)) (Sub.dropn 5 rfl), fun _ s => s⟩
   refine WL.nil (tn ?_)
   refine WP.cond rfl (fun hc10 => ?_) (fun hc10 => ?_)
   ·
    replace hm := ite_t hc10 hm
    refine WP.skip (tn (WP.seq (WP.block ?_)))
    refine WP.region_any (S₀ := St w H [.blk b1 24 [(.int .i64 0), (.slice none 0 0)]] H1) 10 rfl (by kernel_rfl) (fun w' s => (s.select [2] (by decide) rfl)) (fun _ s => s.drew) ?_
    refine TQ 0 (by kernel_rfl) rfl (ov_fieldAddr underlying24 rfl rfl rfl sizeOf22 rfl rfl) (TQ 2 (by kernel_rfl) rfl (ov_build (r := (.agg #[(.slice none 0 0), (.int .i64 0)])) rfl rfl (fun _ => by kernel_rfl)) (TQ 3 (by kernel_rfl) rfl (ov_move rfl rfl) (TQ 4 (by kernel_rfl) rfl (ov_move rfl rfl) ?_)))
    refine AL.any (rs := [1, 5]) (by kernel_rfl) (by decide) ?_
    refine ALs.cons (i := 1) rfl (Runs.free rfl) rfl rfl ?_ ?_
    ·
     refine OQ.step (OV.quiet (ov_load_box (i := 1) isAgg22 rfl rfl rfl rfl)) ?_
     refine ⟨fun w' s => (s.select [2] (by decide) rfl), ?_⟩
     refine AL.any (rs := [5]) (by kernel_rfl) (by decide) ?_
     refine ALs.cons (i := 5) rfl (Runs.free rfl) rfl rfl ?_ ?_
     ·
      refine os_inline (cap := []) (vs := [(.agg #[(.slice none 0 0), (.int .i64 0)]), (.slice ao4 l2.length cap4), (.int .i64 i1)]) call68 rfl rfl rfl func68 rfl 39 ntmps68 rfl (fun w' s => ?_)
      refine WP.seq (WP.region ?_)
      refine ws rfl (os_box (cs := [(.slice none 0 0), (.int .i64 0)]) rfl rfl rfl (fun b3 => ?_))
      refine ws rfl (os_alloc (cs := [(.slice none 0 0), (.int .i64 0)]) zeroValue45 rfl rfl (fun b4 => ?_))
      refine WL.nil (tn ?_)
      obtain ⟨k3, hk3, hm⟩ := joinK_some hm
      refine WP.seq_join (fun g' S' => ∃ (l7 : (List Stroke)) (ao9 : Option Addr) (cap9 : Nat) (xs4 : List Value), RL H1 encStroke l7 xs4 ∧ Sub [(3, (pB b3 0)), (6, (pB b4 0)), (1000000007, (.bool false))] g' ∧ (∀ w', S' w' → St w H [.row 48 (encStroke).size l7.length (.slice ao9 l7.length cap9) xs4, .blk b4 45 [(.slice none 0 0), (.int .i64 0)], .blk b3 45 [(.slice ao9 l7.length cap9), (.int .i64 0)], .row 45 (encStep).size l3.length (.slice ao5 l3.length cap5) xs1, .blk b2 24 [(.int .i64 (l2.length : Int)), (.slice ao5 l3.length cap5)], .blk b1 24 [(.int .i64 0), (.slice none 0 0)]] H1 w') ∧ k3 l7 = some r) ?_ ?_
      ·
       refine WP.seq (WP.region (Vm rfl (V rfl (ov_len_slice underlying27 rfl rfl) (Vm rfl (WL.nil (tn (WP.block ?_)))))))
       have rl3 := RL.nil (α := Stroke) H1 encStroke
       refine WP.weaken (fun _ s => s.nilrow 48 (encStroke).size) ?_
       refine WP.loop (fun m2 g' S' => ∃ (i2 : Int) (l4 : (List Stroke)) (ao6 : Option Addr) (cap6 : Nat) (xs2 : List Value), RL H1 encStroke l4 xs2 ∧ Sub [(2, (.int .i64 i1)), (3, (pB b3 0)), (6, (pB b4 0)), (10, (.slice ao4 l2.length cap4)), (11, (.int .i64 (l2.length : Int))), (12, (.int .i64 i2)), (1000000007, (.bool false))] g' ∧ (∀ w', S' w' → St w H [.row 48 (encStroke).size l4.length (.slice ao6 l4.length cap6) xs2, .blk b4 45 [(.slice none 0 0), (.int .i64 0)], .blk b3 45 [(.slice ao6 l4.length cap6), (.int .i64 0)], .row 45 (encStep).size l3.length (.slice ao5 l3.length cap5) xs1, .blk b2 24 [(.int .i64 (l2.length : Int)), (.slice ao5 l3.length cap5)], .blk b1 24 [(.int .i64 0), (.slice none 0 0)]] H1 w') ∧ diagram_Read_loop2 l2 i1 k3 m2 i2 l4 = some r) ((Int.toNat ((l2.length : Int) - 0) + 1)) ⟨0, ([] : List Stroke), none, 0, [], rl3, (Sub.all rfl), fun w' s => s, hm⟩ ?_ ?_
       ·
        rintro g' S' ⟨_, _, _, _, _, _, _, _, hm⟩
        exact none_some hm
       rintro m2 g' S' ⟨i2, l4, ao6, cap6, xs2, rl4, hsub3, hS3, hm⟩
       refine WP.sub hsub3 (WP.weaken hS3 ?_)
       rw [diagram_Read_loop2] at hm
       refine WP.seq (WP.region (V rfl (ov_lss rfl rfl rfl) (WL.nil (tn (WP.seq ?_)))))
       refine WP.cond rfl (fun hc11 => ?_) (fun hc11 => ?_)
       ·
        replace hm := ite_t hc11 hm
        refine WP.skip (tn ?_)
        obtain ⟨k4, hk4, hm⟩ := joinK_some hm
        refine WP.seq_join (fun g' S' => ∃ (l6 : (List Stroke)) (ao8 : Option Addr) (cap8 : Nat) (xs3 : List Value), RL H1 encStroke l6 xs3 ∧ Sub [(2, (.int .i64 i1)), (3, (pB b3 0)), (6, (pB b4 0)), (10, (.slice ao4 l2.length cap4)), (11, (.int .i64 (l2.length : Int))), (12, (.int .i64 i2)), (1000000007, (.bool false))] g' ∧ (∀ w', S' w' → St w H [.row 48 (encStroke).size l6.length (.slice ao8 l6.length cap8) xs3, .blk b4 45 [(.slice none 0 0), (.int .i64 0)], .blk b3 45 [(.slice ao8 l6.length cap8), (.int .i64 0)], .row 45 (encStep).size l3.length (.slice ao5 l3.length cap5) xs1, .blk b2 24 [(.int .i64 (l2.length : Int)), (.slice ao5 l3.length cap5)], .blk b1 24 [(.int .i64 0), (.slice none 0 0)]] H1 w') ∧ k4 l6 = some r) ?_ ?_
        ·
         refine WP.block (WP.seq (WP.region (Vm rfl ?_)))
         obtain ⟨x4, e8, hm⟩ := bind_some hm
         obtain ⟨h21, h22, h23, cs4, h24, h25⟩ := h15.get e8 (by decide)
         obtain rfl : cs4 = [(mkS x4)] := h24
         refine V rfl (ov_indexAddr underlying27 sizeOf9 rfl rfl rfl h21 h22 h23) (V rfl (ov_load_elem (v := (mkS x4)) isAgg9 rfl rfl h25) (Va rfl (Va rfl (WL.nil (tn (WP.seq (WP.seq (WP.region (Vm rfl (Vm rfl (V rfl (ov_len_string underlying9 rfl rfl) (V rfl (ov_geq rfl rfl rfl) (WL.nil ?_)))))))))))))
         refine tn ?_
         refine WP.cond rfl (fun hc12 => ?_) (fun hc12 => ?_)
         ·
          replace hm := ite_t hc12 hm
          refine WP.exit (then_exit (block_here (tn ?_)))
          exact ⟨l4, ao6, cap6, xs2, rl4, (Sub.all rfl), fun w' s => s, hm⟩
         replace hm := ite_f hc12 hm
         refine WP.skip (tn (WP.seq ?_))
         refine WP.region_draws (by kernel_rfl) (by kernel_rfl) (fun _ s => s.drew) ?_
         have h26 : SL H1 (encInt .u8) (some ⟨1, 0, none⟩) diag_going := hG.1.1.2
         have hc13 : diag_going.length ≤ 2 := by decide
         refine qf rfl (ov_slice_arr underlying84 sizeOf5 rfl rfl rfl) ?_
         refine qf rfl (ov_move rfl rfl) ?_
         refine qf rfl (ov_move rfl rfl) ?_
         obtain ⟨b5, e9, hm⟩ := bind_some hm
         refine qf rfl (ov_index_string underlying9 rfl rfl rfl e9) ?_
         obtain ⟨r3, e10, hm⟩ := bind_some hm
         refine QL.quiet (Runs.free rfl) rfl rfl (oq_con (r := (.int .i64 r3)) call105 rfl rfl (fun w' s => ⟨_, (slices_Index_bytebyte_con diag_going (b5.toNat : Int) (some ⟨1, 0, none⟩) 2  w' H1 s.hold h26 hc13 hG r3 e10)⟩)) ?_
         refine qf rfl (ov_assign rfl rfl) ?_
         refine QL.nil ?_
         refine tn (WP.seq (WP.region (Vm rfl (V rfl (ov_geq rfl rfl rfl) (WL.nil (tn ?_))))))
         refine WP.cond rfl (fun hc14 => ?_) (fun hc14 => ?_)
         ·
          replace hm := ite_t hc14 hm
          refine WP.region (V rfl (ov_fieldAddr underlying45 rfl rfl rfl sizeOf43 rfl rfl) (Vl 2 isAgg43 rfl (Vm rfl (Vm rfl (V rfl (ov_eql rfl rfl rfl) (V rfl (ov_build (r := (.agg #[(.int .i64 i2), (.bool (r3 == 1))])) rfl rfl (fun _ => by kernel_rfl)) ?_))))))
          have rl5 : RL H1 encStroke ([(Stroke.mk i2 (r3 == 1))] : List Stroke) [(.int .i64 i2), (.bool (r3 == 1))] := RL.cons (cs := [(.int .i64 i2), (.bool (r3 == 1))]) (xs := []) rfl (RL.nil _ _)
          refine ws rfl (os_buildSlice (cs := [(.int .i64 i2), (.bool (r3 == 1))]) (E := 48) (sz := 2) rfl rfl (fun _ => by kernel_rfl) rfl (by decide) (fun b6 => ?_))
          obtain ⟨l5, e11, hm⟩ := bind_some hm
          refine ws rfl (os_app (i := 1) (j := 0) (En := encStroke) (xs := xs2) (ys := [(.int .i64 i2), (.bool (r3 == 1))]) underlying43 (by kernel_rfl : (prog.info? 48).map (fun i => (i.zero, i.size, i.bytes)) = some (some (.agg #[(.int .i64 0), (.bool false)]), (encStroke).size, 16)) rfl (by decide) rfl rfl rfl rfl rfl rfl rl4 rl5 e11 (fun ao7 cap7 rl6 => ?_))
          refine V rfl (ov_fieldAddr underlying45 rfl rfl rfl sizeOf43 rfl rfl) ?_
          refine ws0 rfl (os_store (i := 3) (vs := [(.slice ao7 (l4 ++ ([(Stroke.mk i2 (r3 == 1))] : List Stroke)).length cap7)]) (cs' := [(.slice ao7 (l4 ++ ([(Stroke.mk i2 (r3 == 1))] : List Stroke)).length cap7), (.int .i64 0)]) sizeOf43 rfl rfl rfl rfl rfl rfl rfl rfl rfl ?_)
          refine WL.nil (bn (tn ?_))
          exact ⟨(l4 ++ ([(Stroke.mk i2 (r3 == 1))] : List Stroke)), ao7, cap7, (xs2 ++ [(.int .i64 i2), (.bool (r3 == 1))]), rl6, (Sub.all rfl), fun w' s => (s.select [1, 2, 3, 4, 5, 6] (by decide) rfl), hm⟩
         replace hm := ite_f hc14 hm
         refine WP.skip (bn (tn ?_))
         exact ⟨l4, ao6, cap6, xs2, rl4, (Sub.all rfl), fun w' s => s, hm⟩
        rintro g' S' ⟨l6, ao8, cap8, xs3, rl7, hsub4, hS4, hm⟩
        refine WP.sub hsub4 (WP.weaken hS4 ?_)
        replace hm := (congrFun hk4 l6).symm.trans hm
        refine WP.region (V rfl (ov_add rfl rfl rfl) (Vm rfl (WL.nil (tn ?_))))
        exact ⟨(IntKind.wrap .i64 (i2 + 1)), l6, ao8, cap8, xs3, rl7, (Sub.all rfl), fun w' s => s, hm⟩
       replace hm := ite_f hc11 hm
       refine WP.exit (then_exit (then_exit (block_here (tn ?_))))
       exact ⟨l4, ao6, cap6, xs2, rl4, (Sub.all rfl), fun w' s => s, hm⟩
      rintro g' S' ⟨l7, ao9, cap9, xs4, rl8, hsub5, hS5, hm⟩
      refine WP.sub hsub5 (WP.weaken hS5 ?_)
      replace hm := (congrFun hk3 l7).symm.trans hm
      refine WP.seq (WP.region (V rfl (ov_load_whole (i := 2) isAgg45 sizeOf45 rfl rfl rfl rfl) ?_))
      refine ws0 rfl (os_store (i := 1) (vs := [(.slice ao9 l7.length cap9), (.int .i64 0)]) (cs' := [(.slice ao9 l7.length cap9), (.int .i64 0)]) sizeOf45 rfl rfl rfl rfl rfl rfl rfl rfl rfl ?_)
      refine WL.nil (tn (WP.ret ?_))
      refine retQ_ret (v := (.agg #[(.slice ao9 l7.length cap9), (.int .i64 0)])) results68 (Res.cell rfl (box_loads (i := 1) isAgg45 sizeOf45 rfl rfl) Res.nil) rfl (fun w' s => ⟨_, ?_, s⟩)
      refine ⟨fun w' s => (s.select [5] (by decide) rfl), ?_⟩
      refine AL.any (rs := [6]) (by kernel_rfl) (by decide) ?_
      refine ALs.cons (i := 6) rfl (Runs.free rfl) rfl rfl ?_ ?_
      ·
       refine OS.held rl8 (fun H2 hc15 hle2 h27 => ?_)
       replace h1 := h1.mono hle2
       replace h15 := h15.mono hle2
       replace rl2 := rl2.mono hle2
       replace hG := hG.mono hle2
       have rl9 : RL H2 encStep ([(Step.mk l7 0)] : List Step) [(.slice ao9 l7.length cap9), (.int .i64 0)] := RL.cons (cs := [(.slice ao9 l7.length cap9), (.int .i64 0)]) (xs := []) ⟨ao9, cap9, rfl, h27, hc15⟩ (RL.nil _ _)
       refine os_buildSlice (cs := [(.slice ao9 l7.length cap9), (.int .i64 0)]) (E := 45) (sz := 2) rfl rfl (fun _ => by kernel_rfl) rfl (by decide) (fun b7 => ?_)
       refine ⟨fun w' s => ((s.select [5] (by decide) rfl).heap hle2), ?_⟩
       refine AL.any (rs := [7]) (by kernel_rfl) (by decide) ?_
       refine ALs.cons (i := 7) rfl (Runs.free rfl) rfl rfl ?_ ?_
       ·
        obtain ⟨l8, e12, hm⟩ := bind_some hm
        refine os_app (i := 3) (j := 0) (En := encStep) (xs := xs1) (ys := [(.slice ao9 l7.length cap9), (.int .i64 0)]) underlying22 (by kernel_rfl : (prog.info? 45).map (fun i => (i.zero, i.size, i.bytes)) = some (some (.agg #[(.slice none 0 0), (.int .i64 0)]), (encStep).size, 32)) rfl (by decide) rfl rfl rfl rfl rfl rfl rl2 rl9 e12 (fun ao10 cap10 rl10 => ?_)
        refine ⟨fun w' s => ((s.select [5] (by decide) rfl).heap hle2), ?_⟩
        refine TQ 8 (by kernel_rfl) rfl (ov_fieldAddr underlying24 rfl rfl rfl sizeOf22 rfl rfl) ?_
        refine AL.any (rs := [9]) (by kernel_rfl) (by decide) ?_
        refine ALs.cons0 (i := 9) rfl (Runs.free rfl) rfl ?_ ?_
        ·
         refine os_store (i := 4) (vs := [(.slice ao10 (l3 ++ ([(Step.mk l7 0)] : List Step)).length cap10)]) (cs' := [(.int .i64 (l2.length : Int)), (.slice ao10 (l3 ++ ([(Step.mk l7 0)] : List Step)).length cap10)]) sizeOf22 rfl rfl rfl rfl rfl rfl rfl rfl rfl ?_
         refine ⟨fun w' s => ((s.select [5] (by decide) rfl).heap hle2), ?_⟩
         refine AL.done (by kernel_rfl) ?_
         refine bn (tn (WP.region (Vm rfl (V rfl (ov_add rfl rfl rfl) (Va rfl (WL.nil (tn ?_)))))))
         exact ⟨H2, (IntKind.wrap .i64 (i1 + 2)), (l3 ++ ([(Step.mk l7 0)] : List Step)), ao10, cap10, (xs1 ++ [(.slice ao9 l7.length cap9), (.int .i64 0)]), (hle1.trans hle2), rl10, (Sub.all rfl), fun w' s => (s.select [3, 4, 5] (by decide) rfl), hm⟩
        exact ALs.nil
       exact ALs.nil
      exact ALs.nil
     exact ALs.nil
    refine ALs.cons (i := 5) rfl (Runs.free rfl) rfl rfl ?_ ?_
    ·
     refine os_inline (cap := []) (vs := [(.agg #[(.slice none 0 0), (.int .i64 0)]), (.slice ao4 l2.length cap4), (.int .i64 i1)]) call68 rfl rfl rfl func68 rfl 39 ntmps68 rfl (fun w' s => ?_)
     refine WP.seq (WP.region ?_)
     refine ws rfl (os_box (cs := [(.slice none 0 0), (.int .i64 0)]) rfl rfl rfl (fun b3 => ?_))
     refine ws rfl (os_alloc (cs := [(.slice none 0 0), (.int .i64 0)]) zeroValue45 rfl rfl (fun b4 => ?_))
     refine WL.nil (tn ?_)
     obtain ⟨k3, hk3, hm⟩ := joinK_some hm
     refine WP.seq_join (fun g' S' => ∃ (l7 : (List Stroke)) (ao9 : Option Addr) (cap9 : Nat) (xs4 : List Value), RL H1 encStroke l7 xs4 ∧ Sub [(3, (pB b3 0)), (6, (pB b4 0)), (1000000007, (.bool false))] g' ∧ (∀ w', S' w' → St w H [.row 48 (encStroke).size l7.length (.slice ao9 l7.length cap9) xs4, .blk b4 45 [(.slice none 0 0), (.int .i64 0)], .blk b3 45 [(.slice ao9 l7.length cap9), (.int .i64 0)], .row 45 (encStep).size l3.length (.slice ao5 l3.length cap5) xs1, .blk b2 24 [(.int .i64 (l2.length : Int)), (.slice ao5 l3.length cap5)], .blk b1 24 [(.int .i64 0), (.slice none 0 0)]] H1 w') ∧ k3 l7 = some r) ?_ ?_
     ·
      refine WP.seq (WP.region (Vm rfl (V rfl (ov_len_slice underlying27 rfl rfl) (Vm rfl (WL.nil (tn (WP.block ?_)))))))
      have rl3 := RL.nil (α := Stroke) H1 encStroke
      refine WP.weaken (fun _ s => s.nilrow 48 (encStroke).size) ?_
      refine WP.loop (fun m2 g' S' => ∃ (i2 : Int) (l4 : (List Stroke)) (ao6 : Option Addr) (cap6 : Nat) (xs2 : List Value), RL H1 encStroke l4 xs2 ∧ Sub [(2, (.int .i64 i1)), (3, (pB b3 0)), (6, (pB b4 0)), (10, (.slice ao4 l2.length cap4)), (11, (.int .i64 (l2.length : Int))), (12, (.int .i64 i2)), (1000000007, (.bool false))] g' ∧ (∀ w', S' w' → St w H [.row 48 (encStroke).size l4.length (.slice ao6 l4.length cap6) xs2, .blk b4 45 [(.slice none 0 0), (.int .i64 0)], .blk b3 45 [(.slice ao6 l4.length cap6), (.int .i64 0)], .row 45 (encStep).size l3.length (.slice ao5 l3.length cap5) xs1, .blk b2 24 [(.int .i64 (l2.length : Int)), (.slice ao5 l3.length cap5)], .blk b1 24 [(.int .i64 0), (.slice none 0 0)]] H1 w') ∧ diagram_Read_loop2 l2 i1 k3 m2 i2 l4 = some r) ((Int.toNat ((l2.length : Int) - 0) + 1)) ⟨0, ([] : List Stroke), none, 0, [], rl3, (Sub.all rfl), fun w' s => s, hm⟩ ?_ ?_
      ·
       rintro g' S' ⟨_, _, _, _, _, _, _, _, hm⟩
       exact none_some hm
      rintro m2 g' S' ⟨i2, l4, ao6, cap6, xs2, rl4, hsub3, hS3, hm⟩
      refine WP.sub hsub3 (WP.weaken hS3 ?_)
      rw [diagram_Read_loop2] at hm
      refine WP.seq (WP.region (V rfl (ov_lss rfl rfl rfl) (WL.nil (tn (WP.seq ?_)))))
      refine WP.cond rfl (fun hc11 => ?_) (fun hc11 => ?_)
      ·
       replace hm := ite_t hc11 hm
       refine WP.skip (tn ?_)
       obtain ⟨k4, hk4, hm⟩ := joinK_some hm
       refine WP.seq_join (fun g' S' => ∃ (l6 : (List Stroke)) (ao8 : Option Addr) (cap8 : Nat) (xs3 : List Value), RL H1 encStroke l6 xs3 ∧ Sub [(2, (.int .i64 i1)), (3, (pB b3 0)), (6, (pB b4 0)), (10, (.slice ao4 l2.length cap4)), (11, (.int .i64 (l2.length : Int))), (12, (.int .i64 i2)), (1000000007, (.bool false))] g' ∧ (∀ w', S' w' → St w H [.row 48 (encStroke).size l6.length (.slice ao8 l6.length cap8) xs3, .blk b4 45 [(.slice none 0 0), (.int .i64 0)], .blk b3 45 [(.slice ao8 l6.length cap8), (.int .i64 0)], .row 45 (encStep).size l3.length (.slice ao5 l3.length cap5) xs1, .blk b2 24 [(.int .i64 (l2.length : Int)), (.slice ao5 l3.length cap5)], .blk b1 24 [(.int .i64 0), (.slice none 0 0)]] H1 w') ∧ k4 l6 = some r) ?_ ?_
       ·
        refine WP.block (WP.seq (WP.region (Vm rfl ?_)))
        obtain ⟨x4, e8, hm⟩ := bind_some hm
        obtain ⟨h21, h22, h23, cs4, h24, h25⟩ := h15.get e8 (by decide)
        obtain rfl : cs4 = [(mkS x4)] := h24
        refine V rfl (ov_indexAddr underlying27 sizeOf9 rfl rfl rfl h21 h22 h23) (V rfl (ov_load_elem (v := (mkS x4)) isAgg9 rfl rfl h25) (Va rfl (Va rfl (WL.nil (tn (WP.seq (WP.seq (WP.region (Vm rfl (Vm rfl (V rfl (ov_len_string underlying9 rfl rfl) (V rfl (ov_geq rfl rfl rfl) (WL.nil ?_)))))))))))))
        refine tn ?_
        refine WP.cond rfl (fun hc12 => ?_) (fun hc12 => ?_)
        ·
         replace hm := ite_t hc12 hm
         refine WP.exit (then_exit (block_here (tn ?_)))
         exact ⟨l4, ao6, cap6, xs2, rl4, (Sub.all rfl), fun w' s => s, hm⟩
        replace hm := ite_f hc12 hm
        refine WP.skip (tn (WP.seq ?_))
        refine WP.region_draws (by kernel_rfl) (by kernel_rfl) (fun _ s => s.drew) ?_
        have h26 : SL H1 (encInt .u8) (some ⟨1, 0, none⟩) diag_going := hG.1.1.2
        have hc13 : diag_going.length ≤ 2 := by decide
        refine qf rfl (ov_slice_arr underlying84 sizeOf5 rfl rfl rfl) ?_
        refine qf rfl (ov_move rfl rfl) ?_
        refine qf rfl (ov_move rfl rfl) ?_
        obtain ⟨b5, e9, hm⟩ := bind_some hm
        refine qf rfl (ov_index_string underlying9 rfl rfl rfl e9) ?_
        obtain ⟨r3, e10, hm⟩ := bind_some hm
        refine QL.quiet (Runs.free rfl) rfl rfl (oq_con (r := (.int .i64 r3)) call105 rfl rfl (fun w' s => ⟨_, (slices_Index_bytebyte_con diag_going (b5.toNat : Int) (some ⟨1, 0, none⟩) 2  w' H1 s.hold h26 hc13 hG r3 e10)⟩)) ?_
        refine qf rfl (ov_assign rfl rfl) ?_
        refine QL.nil ?_
        refine tn (WP.seq (WP.region (Vm rfl (V rfl (ov_geq rfl rfl rfl) (WL.nil (tn ?_))))))
        refine WP.cond rfl (fun hc14 => ?_) (fun hc14 => ?_)
        ·
         replace hm := ite_t hc14 hm
         refine WP.region (V rfl (ov_fieldAddr underlying45 rfl rfl rfl sizeOf43 rfl rfl) (Vl 2 isAgg43 rfl (Vm rfl (Vm rfl (V rfl (ov_eql rfl rfl rfl) (V rfl (ov_build (r := (.agg #[(.int .i64 i2), (.bool (r3 == 1))])) rfl rfl (fun _ => by kernel_rfl)) ?_))))))
         have rl5 : RL H1 encStroke ([(Stroke.mk i2 (r3 == 1))] : List Stroke) [(.int .i64 i2), (.bool (r3 == 1))] := RL.cons (cs := [(.int .i64 i2), (.bool (r3 == 1))]) (xs := []) rfl (RL.nil _ _)
         refine ws rfl (os_buildSlice (cs := [(.int .i64 i2), (.bool (r3 == 1))]) (E := 48) (sz := 2) rfl rfl (fun _ => by kernel_rfl) rfl (by decide) (fun b6 => ?_))
         obtain ⟨l5, e11, hm⟩ := bind_some hm
         refine ws rfl (os_app (i := 1) (j := 0) (En := encStroke) (xs := xs2) (ys := [(.int .i64 i2), (.bool (r3 == 1))]) underlying43 (by kernel_rfl : (prog.info? 48).map (fun i => (i.zero, i.size, i.bytes)) = some (some (.agg #[(.int .i64 0), (.bool false)]), (encStroke).size, 16)) rfl (by decide) rfl rfl rfl rfl rfl rfl rl4 rl5 e11 (fun ao7 cap7 rl6 => ?_))
         refine V rfl (ov_fieldAddr underlying45 rfl rfl rfl sizeOf43 rfl rfl) ?_
         refine ws0 rfl (os_store (i := 3) (vs := [(.slice ao7 (l4 ++ ([(Stroke.mk i2 (r3 == 1))] : List Stroke)).length cap7)]) (cs' := [(.slice ao7 (l4 ++ ([(Stroke.mk i2 (r3 == 1))] : List Stroke)).length cap7), (.int .i64 0)]) sizeOf43 rfl rfl rfl rfl rfl rfl rfl rfl rfl ?_)
         refine WL.nil (bn (tn ?_))
         exact ⟨(l4 ++ ([(Stroke.mk i2 (r3 == 1))] : List Stroke)), ao7, cap7, (xs2 ++ [(.int .i64 i2), (.bool (r3 == 1))]), rl6, (Sub.all rfl), fun w' s => (s.select [1, 2, 3, 4, 5, 6] (by decide) rfl), hm⟩
        replace hm := ite_f hc14 hm
        refine WP.skip (bn (tn ?_))
        exact ⟨l4, ao6, cap6, xs2, rl4, (Sub.all rfl), fun w' s => s, hm⟩
       rintro g' S' ⟨l6, ao8, cap8, xs3, rl7, hsub4, hS4, hm⟩
       refine WP.sub hsub4 (WP.weaken hS4 ?_)
       replace hm := (congrFun hk4 l6).symm.trans hm
       refine WP.region (V rfl (ov_add rfl rfl rfl) (Vm rfl (WL.nil (tn ?_))))
       exact ⟨(IntKind.wrap .i64 (i2 + 1)), l6, ao8, cap8, xs3, rl7, (Sub.all rfl), fun w' s => s, hm⟩
      replace hm := ite_f hc11 hm
      refine WP.exit (then_exit (then_exit (block_here (tn ?_))))
      exact ⟨l4, ao6, cap6, xs2, rl4, (Sub.all rfl), fun w' s => s, hm⟩
     rintro g' S' ⟨l7, ao9, cap9, xs4, rl8, hsub5, hS5, hm⟩
     refine WP.sub hsub5 (WP.weaken hS5 ?_)
     replace hm := (congrFun hk3 l7).symm.trans hm
     refine WP.seq (WP.region (V rfl (ov_load_whole (i := 2) isAgg45 sizeOf45 rfl rfl rfl rfl) ?_))
     refine ws0 rfl (os_store (i := 1) (vs := [(.slice ao9 l7.length cap9), (.int .i64 0)]) (cs' := [(.slice ao9 l7.length cap9), (.int .i64 0)]) sizeOf45 rfl rfl rfl rfl rfl rfl rfl rfl rfl ?_)
     refine WL.nil (tn (WP.ret ?_))
     refine retQ_ret (v := (.agg #[(.slice ao9 l7.length cap9), (.int .i64 0)])) results68 (Res.cell rfl (box_loads (i := 1) isAgg45 sizeOf45 rfl rfl) Res.nil) rfl (fun w' s => ⟨_, ?_, s⟩)
     refine ⟨fun w' s => (s.select [5] (by decide) rfl), ?_⟩
     refine AL.any (rs := [1, 6]) (by kernel_rfl) (by decide) ?_
     refine ALs.cons (i := 1) rfl (Runs.free rfl) rfl rfl ?_ ?_
     ·
      refine OQ.step (OV.quiet (ov_load_box (i := 4) isAgg22 rfl rfl rfl rfl)) ?_
      refine ⟨fun w' s => (s.select [5] (by decide) rfl), ?_⟩
      refine AL.any (rs := [6]) (by kernel_rfl) (by decide) ?_
      refine ALs.cons (i := 6) rfl (Runs.free rfl) rfl rfl ?_ ?_
      ·
       refine OS.held rl8 (fun H2 hc15 hle2 h27 => ?_)
       replace h1 := h1.mono hle2
       replace rl2 := rl2.mono hle2
       replace hG := hG.mono hle2
       have rl9 : RL H2 encStep ([(Step.mk l7 0)] : List Step) [(.slice ao9 l7.length cap9), (.int .i64 0)] := RL.cons (cs := [(.slice ao9 l7.length cap9), (.int .i64 0)]) (xs := []) ⟨ao9, cap9, rfl, h27, hc15⟩ (RL.nil _ _)
       refine os_buildSlice (cs := [(.slice ao9 l7.length cap9), (.int .i64 0)]) (E := 45) (sz := 2) rfl rfl (fun _ => by kernel_rfl) rfl (by decide) (fun b7 => ?_)
       refine ⟨fun w' s => ((s.select [5] (by decide) rfl).heap hle2), ?_⟩
       refine AL.any (rs := [7]) (by kernel_rfl) (by decide) ?_
       refine ALs.cons (i := 7) rfl (Runs.free rfl) rfl rfl ?_ ?_
       ·
        obtain ⟨l8, e12, hm⟩ := bind_some hm
        refine os_app (i := 3) (j := 0) (En := encStep) (xs := xs1) (ys := [(.slice ao9 l7.length cap9), (.int .i64 0)]) underlying22 (by kernel_rfl : (prog.info? 45).map (fun i => (i.zero, i.size, i.bytes)) = some (some (.agg #[(.slice none 0 0), (.int .i64 0)]), (encStep).size, 32)) rfl (by decide) rfl rfl rfl rfl rfl rfl rl2 rl9 e12 (fun ao10 cap10 rl10 => ?_)
        refine ⟨fun w' s => ((s.select [5] (by decide) rfl).heap hle2), ?_⟩
        refine TQ 8 (by kernel_rfl) rfl (ov_fieldAddr underlying24 rfl rfl rfl sizeOf22 rfl rfl) ?_
        refine AL.any (rs := [9]) (by kernel_rfl) (by decide) ?_
        refine ALs.cons0 (i := 9) rfl (Runs.free rfl) rfl ?_ ?_
        ·
         refine os_store (i := 4) (vs := [(.slice ao10 (l3 ++ ([(Step.mk l7 0)] : List Step)).length cap10)]) (cs' := [(.int .i64 (l2.length : Int)), (.slice ao10 (l3 ++ ([(Step.mk l7 0)] : List Step)).length cap10)]) sizeOf22 rfl rfl rfl rfl rfl rfl rfl rfl rfl ?_
         refine ⟨fun w' s => ((s.select [5] (by decide) rfl).heap hle2), ?_⟩
         refine AL.done (by kernel_rfl) ?_
         refine bn (tn (WP.region (Vm rfl (V rfl (ov_add rfl rfl rfl) (Va rfl (WL.nil (tn ?_)))))))
         exact ⟨H2, (IntKind.wrap .i64 (i1 + 2)), (l3 ++ ([(Step.mk l7 0)] : List Step)), ao10, cap10, (xs1 ++ [(.slice ao9 l7.length cap9), (.int .i64 0)]), (hle1.trans hle2), rl10, (Sub.all rfl), fun w' s => (s.select [3, 4, 5] (by decide) rfl), hm⟩
        exact ALs.nil
       exact ALs.nil
      exact ALs.nil
     refine ALs.cons (i := 6) rfl (Runs.free rfl) rfl rfl ?_ ?_
     ·
      refine OS.held rl8 (fun H2 hc15 hle2 h27 => ?_)
      replace h1 := h1.mono hle2
      replace rl2 := rl2.mono hle2
      replace hG := hG.mono hle2
      have rl9 : RL H2 encStep ([(Step.mk l7 0)] : List Step) [(.slice ao9 l7.length cap9), (.int .i64 0)] := RL.cons (cs := [(.slice ao9 l7.length cap9), (.int .i64 0)]) (xs := []) ⟨ao9, cap9, rfl, h27, hc15⟩ (RL.nil _ _)
      refine os_buildSlice (cs := [(.slice ao9 l7.length cap9), (.int .i64 0)]) (E := 45) (sz := 2) rfl rfl (fun _ => by kernel_rfl) rfl (by decide) (fun b7 => ?_)
      refine ⟨fun w' s => ((s.select [5] (by decide) rfl).heap hle2), ?_⟩
      refine AL.any (rs := [1]) (by kernel_rfl) (by decide) ?_
      refine ALs.cons (i := 1) rfl (Runs.free rfl) rfl rfl ?_ ?_
      ·
       refine OQ.step (OV.quiet (ov_load_box (i := 4) isAgg22 rfl rfl rfl rfl)) ?_
       refine ⟨fun w' s => ((s.select [5] (by decide) rfl).heap hle2), ?_⟩
       refine AL.any (rs := [7]) (by kernel_rfl) (by decide) ?_
       refine ALs.cons (i := 7) rfl (Runs.free rfl) rfl rfl ?_ ?_
       ·
        obtain ⟨l8, e12, hm⟩ := bind_some hm
        refine os_app (i := 3) (j := 0) (En := encStep) (xs := xs1) (ys := [(.slice ao9 l7.length cap9), (.int .i64 0)]) underlying22 (by kernel_rfl : (prog.info? 45).map (fun i => (i.zero, i.size, i.bytes)) = some (some (.agg #[(.slice none 0 0), (.int .i64 0)]), (encStep).size, 32)) rfl (by decide) rfl rfl rfl rfl rfl rfl rl2 rl9 e12 (fun ao10 cap10 rl10 => ?_)
        refine ⟨fun w' s => ((s.select [5] (by decide) rfl).heap hle2), ?_⟩
        refine TQ 8 (by kernel_rfl) rfl (ov_fieldAddr underlying24 rfl rfl rfl sizeOf22 rfl rfl) ?_
        refine AL.any (rs := [9]) (by kernel_rfl) (by decide) ?_
        refine ALs.cons0 (i := 9) rfl (Runs.free rfl) rfl ?_ ?_
        ·
         refine os_store (i := 4) (vs := [(.slice ao10 (l3 ++ ([(Step.mk l7 0)] : List Step)).length cap10)]) (cs' := [(.int .i64 (l2.length : Int)), (.slice ao10 (l3 ++ ([(Step.mk l7 0)] : List Step)).length cap10)]) sizeOf22 rfl rfl rfl rfl rfl rfl rfl rfl rfl ?_
         refine ⟨fun w' s => ((s.select [5] (by decide) rfl).heap hle2), ?_⟩
         refine AL.done (by kernel_rfl) ?_
         refine bn (tn (WP.region (Vm rfl (V rfl (ov_add rfl rfl rfl) (Va rfl (WL.nil (tn ?_)))))))
         exact ⟨H2, (IntKind.wrap .i64 (i1 + 2)), (l3 ++ ([(Step.mk l7 0)] : List Step)), ao10, cap10, (xs1 ++ [(.slice ao9 l7.length cap9), (.int .i64 0)]), (hle1.trans hle2), rl10, (Sub.all rfl), fun w' s => (s.select [3, 4, 5] (by decide) rfl), hm⟩
        exact ALs.nil
       exact ALs.nil
      exact ALs.nil
     exact ALs.nil
    exact ALs.nil
   replace hm := ite_f hc10 hm
   refine WP.exit (then_exit (then_exit (block_here (tn ?_))))
   exact ⟨H1, l3, ao5, cap5, xs1, hle1, rl2, (Sub.all rfl), fun w' s => s, hm⟩
  replace hm := ite_f hc8 hm
  refine WP.skip (tn ?_)
  exact ⟨H, ([] : List Step), none, 0, [], (Le.refl _), rl1, (Sub.all rfl), fun w' s => s, hm⟩
 rintro g' S' ⟨H3, l9, ao11, cap11, xs5, hle3, rl11, hsub6, hS6, hm⟩
 refine WP.sub hsub6 (WP.weaken hS6 ?_)
 replace hm := (congrFun hk2 l9).symm.trans hm
 replace h1 := h1.mono hle3
 replace hG := hG.mono hle3
 obtain ⟨k5, hk5, hm⟩ := joinK_some hm
 refine WP.seq_join (fun g' S' => ∃ (H8 : Heap) (l13 : (List Step)) (ao17 : Option Addr) (cap17 : Nat) (xs8 : List Value), Le H3 H8 ∧ RL H8 encStep l13 xs8 ∧ Sub [(0, (.slice ao1 p_l.length cap1)), (2, (pB b1 0)), (8, (pB b2 0)), (1000000007, (.bool false))] g' ∧ (∀ w', S' w' → St w H [.row 45 (encStep).size l13.length (.slice ao17 l13.length cap17) xs8, .blk b2 24 [(.int .i64 (l2.length : Int)), (.slice ao17 l13.length cap17)], .blk b1 24 [(.int .i64 0), (.slice none 0 0)]] H8 w') ∧ k5 l13 = some r) ?_ ?_
 ·
  refine WP.seq (WP.region (Vm rfl (V rfl (ov_sneq rfl rfl rfl) (WL.nil (tn ?_)))))
  refine WP.cond rfl (fun hc16 => ?_) (fun hc16 => ?_)
  ·
   replace hm := ite_t hc16 hm
   refine WP.region (V rfl (ov_fieldAddr underlying24 rfl rfl rfl sizeOf22 rfl rfl) (Vl 1 isAgg22 rfl (Vm rfl ?_)))
   refine ws rfl (os_inline (cap := []) (vs := [(.slice ao11 l9.length cap11), (mkS s1)]) call69 rfl rfl rfl func69 rfl 34 ntmps69 rfl (fun w' s => ?_))
   refine WP.seq (WP.region (Vm rfl ?_))
   obtain ⟨r4, e13, hm⟩ := bind_some hm
   refine ws rfl (os_con call106 rfl rfl (fun w' s => (splitS_con s1 [32]  w' H3 s.hold hG r4 e13)) (fun rr1 H4 hle4 hR1 => ?_))
   replace h1 := h1.mono hle4
   replace rl11 := rl11.mono hle4
   replace hG := hG.mono hle4
   obtain ⟨ao12, cap12, rfl, h28, hc17⟩ := hR1
   obtain ⟨l10, e14, hm⟩ := bind_some hm
   obtain ⟨ao13, cap13, h29, h30, hc18⟩ := sl_l h28 hc17 e14
   refine V rfl (h29 underlying27 sizeOf9 rfl rfl rfl ) (V rfl (ov_len_slice underlying27 rfl rfl) (Vm rfl (WL.nil (tn (WP.block ?_)))))
   refine WP.loop (fun m3 g' S' => ∃ (H5 : Heap) (i3 : Int) (l11 : (List Step)) (ao14 : Option Addr) (cap14 : Nat) (xs6 : List Value), Le H4 H5 ∧ RL H5 encStep l11 xs6 ∧ Sub [(0, (.slice ao14 l11.length cap14)), (8, (.slice ao13 l10.length cap13)), (9, (.int .i64 (l10.length : Int))), (10, (.int .i64 i3)), (1000000007, (.bool false))] g' ∧ (∀ w', S' w' → St w H [.row 45 (encStep).size l11.length (.slice ao14 l11.length cap14) xs6, .blk b2 24 [(.int .i64 (l2.length : Int)), (.slice ao14 l11.length cap14)], .blk b1 24 [(.int .i64 0), (.slice none 0 0)]] H5 w') ∧ diagram_Read_loop3 k5 l10 m3 i3 l11 = some r) ((Int.toNat ((l10.length : Int) - 0) + 1)) ⟨H4, 0, l9, ao11, cap11, xs5, (Le.refl _), rl11, (Sub.all rfl), fun w' s => s, hm⟩ ?_ ?_
   ·
    rintro g' S' ⟨_, _, _, _, _, _, _, _, _, _, hm⟩
    exact none_some hm
   rintro m3 g' S' ⟨H5, i3, l11, ao14, cap14, xs6, hle5, rl12, hsub7, hS7, hm⟩
   refine WP.sub hsub7 (WP.weaken hS7 ?_)
   rw [diagram_Read_loop3] at hm
   replace h30 := h30.mono hle5
   replace h1 := h1.mono hle5
   replace hG := hG.mono hle5
   refine WP.seq (WP.region (V rfl (ov_lss rfl rfl rfl) (WL.nil (tn (WP.seq ?_)))))
   refine WP.cond rfl (fun hc19 => ?_) (fun hc19 => ?_)
   ·
    replace hm := ite_t hc19 hm
    refine WP.skip (tn ?_)
    obtain ⟨k6, hk6, hm⟩ := joinK_some hm
    refine WP.seq_join (fun g' S' => ∃ (H7 : Heap) (l12 : (List Step)) (ao16 : Option Addr) (cap16 : Nat) (xs7 : List Value), Le H5 H7 ∧ RL H7 encStep l12 xs7 ∧ Sub [(0, (.slice ao16 l12.length cap16)), (8, (.slice ao13 l10.length cap13)), (9, (.int .i64 (l10.length : Int))), (10, (.int .i64 i3)), (1000000007, (.bool false))] g' ∧ (∀ w', S' w' → St w H [.row 45 (encStep).size l12.length (.slice ao16 l12.length cap16) xs7, .blk b2 24 [(.int .i64 (l2.length : Int)), (.slice ao16 l12.length cap16)], .blk b1 24 [(.int .i64 0), (.slice none 0 0)]] H7 w') ∧ k6 l12 = some r) ?_ ?_
    ·
     refine WP.block (WP.seq (WP.region (Vm rfl ?_)))
     obtain ⟨x5, e15, hm⟩ := bind_some hm
     obtain ⟨h31, h32, h33, cs5, h34, h35⟩ := h30.get e15 (by decide)
     obtain rfl : cs5 = [(mkS x5)] := h34
     refine V rfl (ov_indexAddr underlying27 sizeOf9 rfl rfl rfl h31 h32 h33) (V rfl (ov_load_elem (v := (mkS x5)) isAgg9 rfl rfl h35) (Va rfl (Va rfl (WL.nil (tn (WP.seq (WP.region (Vm rfl (Vm rfl (V rfl (ov_len_slice underlying22 rfl rfl) (V rfl (ov_lss rfl rfl rfl) (Vm rfl ?_))))))))))))
     refine WL.cut_bool 4 23 (x := ((decide (i3 < (l11.length : Int))) && (decide ((x5.length : Int) ≤ 7)))) ?_ ?_
     ·
      rcases Bool.eq_false_or_eq_true (decide (i3 < (l11.length : Int))) with hc20 | hc20
      ·
       refine wy hc20 rfl (ov_move rfl rfl) ?_
       refine wy hc20 rfl (ov_len_string underlying9 rfl rfl) ?_
       refine wy hc20 rfl (ov_leq rfl rfl rfl) ?_
       refine V rfl (ov_pick_true rfl (guard_eq rfl hc20) rfl) ?_
       exact WL.nil ⟨Sub.cons' rfl (congrArg Value.bool (andT hc20)) (Sub.dropn 4 rfl), fun _ s => s⟩
      refine Vi rfl (Idle.no rfl rfl rfl hc20) (Vi rfl (Idle.no rfl rfl rfl hc20) (Vi rfl (Idle.no rfl rfl rfl hc20) (V rfl (ov_pick_false rfl (guard_eq rfl hc20) rfl) ?_)))
      exact WL.nil ⟨Sub.cons' rfl (congrArg Value.bool (andF hc20)) (Sub.dropn 4 rfl), fun _ s => s⟩
     refine WL.nil (tn ?_)
     refine WP.cond rfl (fun hc21 => ?_) (fun hc21 => ?_)
     ·
      replace hm := ite_t hc21 hm
      refine WP.region (Vm rfl (Vm rfl (Vm rfl ?_)))
      obtain ⟨r5, e16, hm⟩ := bind_some hm
      refine ws rfl (os_con call107 rfl rfl (fun w' s => (atoiE_con x5  w' H5 s.hold hG r5 e16)) (fun rr2 H6 hle6 hR2 => ?_))
      replace h1 := h1.mono hle6
      replace rl12 := rl12.mono hle6
      replace hG := hG.mono hle6
      obtain ⟨v1, rfl⟩ := hR2
      refine Vm rfl (Ve rfl (Ve rfl ?_))
      obtain ⟨x6, e17, hm⟩ := bind_some hm
      obtain ⟨h37, h38, h39, cs6, h40, h41⟩ := RL.get rl12 e17
      obtain ⟨ao15, cap15, rfl, h36, hc22⟩ := h40
      refine V rfl (ov_indexAddr_own (i := 0) underlying22 sizeOf45 rfl rfl rfl rfl h37 h38) (V rfl (ov_fieldAddrE underlying45 rfl rfl rfl sizeOf3 rfl rfl) ?_)
      have rl13 := RL.set rl12 (y := (Step.mk x6.strokes r5.1)) (off := 1) (vs := [(.int .i64 r5.1)]) e17 h41 ⟨ao15, cap15, rfl, h36, hc22⟩ (Nat.le_of_ble_eq_true rfl)
      have e18 := at?_set (y := (Step.mk x6.strokes r5.1)) e17
      refine ws0 rfl (os_store_own (i := 0) (vs := [(.int .i64 r5.1)]) sizeOf3 rfl rfl rfl rfl (own_pos h37 h38) rfl rfl (elem_le (off := 1) h39 (Nat.le_of_ble_eq_true rfl)) rfl ?_)
      rw [show l11.length = (List.set l11 (Int.toNat i3) (Step.mk x6.strokes r5.1)).length from List.length_set.symm]
      refine WL.nil (bn (tn ?_))
      exact ⟨H6, (List.set l11 (Int.toNat i3) (Step.mk x6.strokes r5.1)), ao14, cap14, (spl xs6 (Int.toNat i3 * encStep.size + 1) [(.int .i64 r5.1)]), hle6, rl13, (Sub.all rfl), fun w' s => s, hm⟩
     replace hm := ite_f hc21 hm
     refine WP.skip (bn (tn ?_))
     exact ⟨H5, l11, ao14, cap14, xs6, (Le.refl _), rl12, (Sub.all rfl), fun w' s => s, hm⟩
    rintro g' S' ⟨H7, l12, ao16, cap16, xs7, hle7, rl14, hsub8, hS8, hm⟩
    refine WP.sub hsub8 (WP.weaken hS8 ?_)
    replace hm := (congrFun hk6 l12).symm.trans hm
    replace h1 := h1.mono hle7
    replace hG := hG.mono hle7
    refine WP.region (V rfl (ov_add rfl rfl rfl) (Vm rfl (WL.nil (tn ?_))))
    exact ⟨H7, (IntKind.wrap .i64 (i3 + 1)), l12, ao16, cap16, xs7, (hle5.trans hle7), rl14, (Sub.all rfl), fun w' s => s, hm⟩
   replace hm := ite_f hc19 hm
   refine WP.exit (then_exit (then_exit (block_here ?_)))
   refine retQ_end (v := (.tuple #[])) results69 Res.nil rfl (fun w' s => ⟨_, ?_, s⟩)
   refine WL.nil (tn ?_)
   exact ⟨H5, l11, ao14, cap14, xs6, (hle4.trans hle5), rl12, (Sub.all rfl), fun w' s => s, hm⟩
  replace hm := ite_f hc16 hm
  refine WP.skip (tn ?_)
  exact ⟨H3, l9, ao11, cap11, xs5, (Le.refl _), rl11, (Sub.all rfl), fun w' s => s, hm⟩
 rintro g' S' ⟨H8, l13, ao17, cap17, xs8, hle8, rl15, hsub9, hS9, hm⟩
 refine WP.sub hsub9 (WP.weaken hS9 ?_)
 replace hm := (congrFun hk5 l13).symm.trans hm
 replace h1 := h1.mono hle8
 replace hG := hG.mono hle8
 refine WP.seq (WP.seq (WP.region (V rfl (ov_load_whole (i := 1) isAgg24 sizeOf24 rfl rfl rfl rfl) ?_)))
 obtain ⟨r6, e19, hm⟩ := bind_some hm
 refine wo rfl (oq_con (r := (.int .i64 r6)) call40 rfl rfl (fun w' s => ⟨_, (sequence_Check_con (Sequence.mk (l2.length : Int) l13) ao17 cap17 w' (hp w') (Le.refl _) (s.row_arg (i := 0) rfl rl15).1 (s.row_arg (i := 0) rfl rl15).2 (hG.mono s.hold) r6 e19)⟩)) ?_
 refine V rfl (ov_neq rfl rfl rfl) (Vm rfl ?_)
 refine WL.held rl15 (fun H9 hc23 hle9 h47 => ?_)
 replace h1 := h1.mono hle9
 replace hG := hG.mono hle9
 obtain ⟨c2, e20, hm⟩ := bind_some hm
 refine WL.cut_bool 6 83 (x := c2) ?_ ?_
 ·
  rcases Bool.eq_false_or_eq_true (r6 != 0) with hc24 | hc24
  ·
   replace hm := ite_t hc24 e20
   refine Vi rfl (Idle.no rfl rfl rfl hc24) (Vi rfl (Idle.no rfl rfl rfl hc24) (Vi rfl (Idle.no rfl rfl rfl hc24) (Vi rfl (Idle.no rfl rfl rfl hc24) (Vi rfl (Idle.no rfl rfl rfl hc24) (V rfl (ov_pick_true rfl (guard_eq rfl hc24) rfl) ?_)))))
   exact WL.nil ⟨Sub.cons' rfl (congrArg Value.bool (Option.some.inj hm)) (Sub.dropn 6 rfl), fun _ s => s⟩
  replace hm := ite_f hc24 e20
  refine wy hc24 rfl (ov_load_whole (i := 0) isAgg24 sizeOf24 rfl rfl rfl rfl) ?_
  obtain ⟨r7, e21, hm⟩ := bind_some hm
  refine WL.step (Runs.yes rfl rfl rfl hc24) rfl rfl (os_con call41 rfl rfl (fun w' s => (diagram_draw_con (Sequence.mk (l2.length : Int) l13) ao17 cap17  w' H9 s.hold h47 hc23 hG r7 e21)) (fun rr3 H10 hle10 hR3 => ?_))
  replace h1 := h1.mono hle10
  replace h47 := h47.mono hle10
  replace hG := hG.mono hle10
  obtain ⟨ao18, cap18, rfl, h48, hc25⟩ := hR3
  refine wy hc24 rfl (ov_move rfl rfl) ?_
  obtain ⟨r8, e22, hm⟩ := bind_some hm
  refine WL.quiet (Runs.yes rfl rfl rfl hc24) rfl rfl (oq_con (r := (.bool r8)) call19 rfl rfl (fun w' s => ⟨_, (slices_Equal_stringstring_con r7 p_l ao18 cap18 ao1 cap1  w' H10 s.hold h48 hc25 h1 hc1 hG r8 e22)⟩)) ?_
  refine wy hc24 rfl (ov_not rfl rfl) ?_
  refine V rfl (ov_pick_false rfl (guard_eq rfl hc24) rfl) ?_
  exact WL.nil ⟨Sub.cons' rfl (congrArg Value.bool (Option.some.inj hm)) (Sub.dropn 6 rfl), fun _ s => (s.heap hle10)⟩
 refine WL.nil (tn ?_)
 refine WP.cond rfl (fun hc26 => ?_) (fun hc26 => ?_)
 ·
  replace hm := ite_t hc26 hm
  refine WP.seq (WP.region (V rfl (ov_build (r := (.agg #[(.int .i64 0), (.slice none 0 0)])) rfl rfl (fun _ => by kernel_rfl)) ?_))
  refine ws0 rfl (os_store (i := 1) (vs := [(.int .i64 0), (.slice none 0 0)]) (cs' := [(.int .i64 0), (.slice none 0 0)]) sizeOf24 rfl rfl rfl rfl rfl rfl rfl rfl rfl ?_)
  refine Va rfl (WL.nil (tn (WP.ret (then_ret ?_))))
  obtain rfl := Option.some.inj hm
  refine retQ_ret results30 (Res.cell rfl (box_loads (i := 1) isAgg24 sizeOf24 rfl rfl) (Res.tmp rfl Res.nil)) rfl (fun w' s => ⟨s.below, ?_⟩)
  exact ⟨none, 0, rfl, SL.nil _ _ _, Nat.le_refl _⟩
 replace hm := ite_f hc26 hm
 refine WP.skip (tn (WP.seq (WP.region (V rfl (ov_load_whole (i := 0) isAgg24 sizeOf24 rfl rfl rfl rfl) ?_))))
 refine ws0 rfl (os_store (i := 1) (vs := [(.int .i64 (l2.length : Int)), (.slice ao17 l13.length cap17)]) (cs' := [(.int .i64 (l2.length : Int)), (.slice ao17 l13.length cap17)]) sizeOf24 rfl rfl rfl rfl rfl rfl rfl rfl rfl ?_)
 refine Va rfl (WL.nil (tn (WP.ret ?_)))
 obtain rfl := Option.some.inj hm
 refine retQ_ret results30 (Res.cell rfl (box_loads (i := 1) isAgg24 sizeOf24 rfl rfl) (Res.tmp rfl Res.nil)) rfl (fun w' s => ⟨s.below, ?_⟩)
 exact ⟨ao17, cap17, rfl, h47.mono s.le_newer, hc23⟩
end Go.Proofs.YtbckcjjffbgidaaGreatDoor.W
