import Derived.Test.YtkgijoddkibapaaGreatDoorPlain
import Derived.Test.YtkgijoddkibapaaGreatDoorEqs
import Derived.Test.YtkgijoddkibapaaGreatDoorProg
import Derived.Test.YtkgijoddkibapaaGreatDoorExt
import Derived.Test.YtkgijoddkibapaaGreatDoorBuild
import Derived.Test.YtkgijoddkibapaaGreatDoorClone
import Derived.Test.YtkgijoddkibapaaGreatDoorCells
import Derived.Test.YtkgijoddkibapaaGreatDoorWalk3
import Derived.Test.YtkgijoddkibapaaGreatDoorWalk4
import Derived.Test.YtkgijoddkibapaaGreatDoorWalk7
import Derived.Test.YtkgijoddkibapaaGreatDoorWalk8
set_option linter.unusedVariables false
set_option maxRecDepth 100000
set_option maxHeartbeats 4000000
namespace Go.Proofs.YtkgijoddkibapaaGreatDoor.W
open Go Go.RowKit Go.Proofs.Tryz
theorem program_Sequence_con (p_n : Node) (p_on : (List (List UInt8))) (ao1 : Option Addr) (cap1 : Nat) (ao2 : Option Addr) (cap2 : Nat) (ao3 : Option Addr) (cap3 : Nat) (w : World) (H : Heap) (hH : Le H (hp w)) (h1 : SL H encStroke ao1 p_n.step.strokes) (hc1 : p_n.step.strokes.length ≤ cap1) (h2 : SL H encNode ao2 p_n.nodes) (hc2 : p_n.nodes.length ≤ cap2) (h3 : SL H encStr ao3 p_on) (hc3 : p_on.length ≤ cap3) (hG : Glob H) (r : (Sequence × Int)) (hm : program_Sequence p_n p_on = some r) :
  Con prog 19 [(.agg #[(.int .i64 p_n.kind), (.slice ao1 p_n.step.strokes.length cap1), (.int .i64 p_n.step.wait), (.int .i64 p_n.count), (mkS p_n.name), (.slice ao2 p_n.nodes.length cap2)]), (.slice ao3 p_on.length cap3)] w H (fun v H' => ∃ (ao4 : Option Addr) (cap4 : Nat), v = (.tuple #[(.agg #[(.int .i64 r.1.actuators), (.slice ao4 r.1.steps.length cap4)]), (.int .i64 r.2)]) ∧ SL H' encStep ao4 r.1.steps ∧ r.1.steps.length ≤ cap4) := by
 unfold program_Sequence at hm
 refine con_of hH func19 rfl 18 ntmps19 rfl ?_
 refine WP.seq (WP.region ?_)
 refine ws rfl (os_box (cs := [(.int .i64 p_n.kind), (.slice ao1 p_n.step.strokes.length cap1), (.int .i64 p_n.step.wait), (.int .i64 p_n.count), (mkS p_n.name), (.slice ao2 p_n.nodes.length cap2)]) rfl rfl rfl (fun b1 => ?_))
 refine ws rfl (os_alloc (cs := [(.int .i64 0), (.slice none 0 0)]) zeroValue24 rfl rfl (fun b2 => ?_))
 refine Va rfl (WL.nil (tn (WP.seq (WP.seq (WP.region (V rfl (ov_load_whole (i := 1) isAgg62 sizeOf62 rfl rfl rfl rfl) ?_))))))
 obtain ⟨r1, e1, hm⟩ := bind_some hm
 refine wo rfl (oq_con (r := (.int .i64 r1)) call40 rfl rfl (fun w' s => ⟨_, (program_Check_con p_n ao1 cap1 ao2 cap2  w' H s.hold h1 hc1 h2 hc2 hG r1 e1)⟩)) ?_
 refine Va rfl (WL.nil (tn (WP.seq (WP.region (Vm rfl (V rfl (ov_neq rfl rfl rfl) (WL.nil (tn ?_))))))))
 refine WP.cond rfl (fun hc5 => ?_) (fun hc5 => ?_)
 ·
  replace hm := ite_t hc5 hm
  refine WP.seq (WP.region (V rfl (ov_build (r := (.agg #[(.int .i64 0), (.slice none 0 0)])) rfl rfl (fun _ => by kernel_rfl)) (Vm rfl ?_)))
  refine ws0 rfl (os_store (i := 0) (vs := [(.int .i64 0), (.slice none 0 0)]) (cs' := [(.int .i64 0), (.slice none 0 0)]) sizeOf24 rfl rfl rfl rfl rfl rfl rfl rfl rfl ?_)
  refine Va rfl (WL.nil (tn (WP.ret (then_ret ?_))))
  obtain rfl := Option.some.inj hm
  refine retQ_ret results19 (Res.cell rfl (box_loads (i := 0) isAgg24 sizeOf24 rfl rfl) (Res.tmp rfl Res.nil)) rfl (fun w' s => ⟨s.below, ?_⟩)
  exact ⟨none, 0, rfl, SL.nil _ _ _, Nat.le_refl _⟩
 replace hm := ite_f hc5 hm
 refine WP.skip (tn (WP.seq (WP.region (V rfl (ov_load_whole (i := 1) isAgg62 sizeOf62 rfl rfl rfl rfl) (Vm rfl ?_)))))
 obtain ⟨r2, e2, hm⟩ := bind_some hm
 refine ws rfl (os_con call41 rfl rfl (fun w' s => (program_done_con p_n p_on ao1 cap1 ao2 cap2 ao3 cap3  w' H s.hold h1 hc1 h2 hc2 h3 hc3 hG r2 e2)) (fun rr1 H1 hle1 hR1 => ?_))
 obtain ⟨ao5, cap5, rfl, h5, hc6⟩ := hR1
 refine Ve rfl (Ve rfl ?_)
 refine ws0 rfl (os_store (i := 0) (vs := [(.int .i64 r2.1.actuators), (.slice ao5 r2.1.steps.length cap5)]) (cs' := [(.int .i64 r2.1.actuators), (.slice ao5 r2.1.steps.length cap5)]) sizeOf24 rfl rfl rfl rfl rfl rfl rfl rfl rfl ?_)
 refine Va rfl (WL.nil (tn (WP.ret ?_)))
 obtain rfl := Option.some.inj hm
 refine retQ_ret results19 (Res.cell rfl (box_loads (i := 0) isAgg24 sizeOf24 rfl rfl) (Res.tmp rfl Res.nil)) rfl (fun w' s => ⟨s.below, ?_⟩)
 exact ⟨ao5, cap5, rfl, h5.mono s.le_newer, hc6⟩
theorem diagram_letter_con (p_a : Int) (w : World) (H : Heap) (hH : Le H (hp w)) (hG : Glob H) (r : (List UInt8)) (hm : diagram_letter p_a = some r) :
  Con prog 86 [(.int .i64 p_a)] w H (fun v _ => v = (mkS r)) := by
 unfold diagram_letter at hm
 refine con_of hH func86 rfl 7 ntmps86 rfl ?_
 refine WP.seq (WP.region (Va rfl (WL.nil (tn (WP.seq (WP.region (Vm rfl (V rfl (ov_add rfl rfl rfl) (V rfl (ov_convert_int underlying3 underlying21 rfl rfl) (V rfl (ov_convert_rune' underlying21 underlying9 rfl rfl) (Va rfl (WL.nil (tn ?_)))))))))))))
 refine WP.ret ?_
 obtain rfl := Option.some.inj hm
 refine retQ_ret results86 (Res.tmp rfl Res.nil) rfl (fun w' s => ⟨s.below, ?_⟩)
 exact rfl
theorem slices_IndexFunc_api_Stepapi_Step_diagram_draw_1_con (p_s : (List Step)) (ao1 : Option Addr) (cap1 : Nat) (w : World) (H : Heap) (hH : Le H (hp w)) (h1 : SL H encStep ao1 p_s) (hc1 : p_s.length ≤ cap1) (hG : Glob H) (r : Int) (hm : slices_IndexFunc_api_Stepapi_Step_diagram_draw_1 p_s = some r) :
  Con prog 105 [(.slice ao1 p_s.length cap1), (.func (.func 75) #[] #[])] w H (fun v _ => v = (.int .i64 r)) := by
 unfold slices_IndexFunc_api_Stepapi_Step_diagram_draw_1 at hm
 refine con_of hH func105 rfl 19 ntmps105 rfl ?_
 refine WP.seq (WP.region (Va rfl (WL.nil (tn ?_))))
 obtain ⟨k1, hk1, hm⟩ := joinK_some hm
 refine WP.seq_join (fun g' S' => Sub [(1000000007, (.bool false))] g' ∧ (∀ w', S' w' → St w H [] H w') ∧ k1 = some r) ?_ ?_
 ·
  refine WP.seq (WP.region (Vm rfl (V rfl (ov_len_slice underlying22 rfl rfl) (Vm rfl (WL.nil (tn (WP.block ?_)))))))
  refine WP.loop (fun m1 g' S' => ∃ (i1 : Int), Sub [(0, (.slice ao1 p_s.length cap1)), (1, (.func (.func 75) #[] #[])), (7, (.int .i64 (p_s.length : Int))), (8, (.int .i64 i1)), (1000000007, (.bool false))] g' ∧ (∀ w', S' w' → St w H [] H w') ∧ slices_IndexFunc_api_Stepapi_Step_diagram_draw_1_loop1 p_s k1 m1 i1 = some r) ((Int.toNat ((p_s.length : Int) - 0) + 1)) ⟨0, (Sub.all rfl), fun w' s => s, hm⟩ ?_ ?_
  ·
   rintro g' S' ⟨_, _, _, hm⟩
   exact none_some hm
  rintro m1 g' S' ⟨i1, hsub1, hS1, hm⟩
  refine WP.sub hsub1 (WP.weaken hS1 ?_)
  rw [slices_IndexFunc_api_Stepapi_Step_diagram_draw_1_loop1] at hm
  refine WP.seq (WP.region (V rfl (ov_lss rfl rfl rfl) (WL.nil (tn (WP.seq ?_)))))
  refine WP.cond rfl (fun hc2 => ?_) (fun hc2 => ?_)
  ·
   replace hm := ite_t hc2 hm
   refine WP.skip (tn (WP.seq (WP.block (WP.seq (WP.region (Vm rfl (Va rfl (WL.nil (tn (WP.seq (WP.region (Vm rfl (Vm rfl ?_)))))))))))))
   refine Vm rfl ?_
   obtain ⟨x1, e1, hm⟩ := bind_some hm
   obtain ⟨h3, h4, h5, cs1, h6, h7⟩ := h1.get e1 (by decide)
   obtain ⟨ao2, cap2, rfl, h2, hc3⟩ := h6
   refine V rfl (ov_indexAddr underlying22 sizeOf55 rfl rfl rfl h3 h4 h5) (V rfl (ov_load_elems (vs := [(.slice ao2 x1.strokes.length cap2), (.int .i64 x1.wait)]) isAgg55 sizeOf55 rfl rfl rfl h7 h5) ?_)
   refine ws rfl (os_inline (cap := []) (vs := [(.agg #[(.slice ao2 x1.strokes.length cap2), (.int .i64 x1.wait)])]) call75 rfl rfl rfl func75 rfl 6 ntmps75 rfl (fun w' s => ?_))
   refine WP.seq (WP.region ?_)
   refine ws rfl (os_box (cs := [(.slice ao2 x1.strokes.length cap2), (.int .i64 x1.wait)]) rfl rfl rfl (fun b1 => ?_))
   refine Va rfl (WL.nil (tn (WP.seq (WP.region (V rfl (ov_fieldAddr underlying55 rfl rfl rfl sizeOf3 rfl rfl) (Vl 0 isAgg3 rfl (V rfl (ov_neq rfl rfl rfl) (Va rfl (WL.nil (tn (WP.ret ?_)))))))))))
   refine retQ_ret (v := (.bool (x1.wait != 0))) results75 (Res.tmp rfl Res.nil) rfl (fun w' s => ⟨_, ?_, s⟩)
   refine WL.nil (tn ?_)
   refine WP.cond rfl (fun hc4 => ?_) (fun hc4 => ?_)
   ·
    replace hm := ite_t hc4 hm
    refine WP.seq (WP.region (Vm rfl (Va rfl (WL.nil (tn (WP.ret (block_ret (then_ret (then_ret (block_ret (then_ret ?_)))))))))))
    obtain rfl := Option.some.inj hm
    refine retQ_ret results105 (Res.tmp rfl Res.nil) rfl (fun w' s => ⟨s.below, ?_⟩)
    exact rfl
   replace hm := ite_f hc4 hm
   refine WP.skip (bn (tn (WP.region (V rfl (ov_add rfl rfl rfl) (Vm rfl (WL.nil (tn ?_)))))))
   exact ⟨(IntKind.wrap .i64 (i1 + 1)), (Sub.all rfl), fun w' s => (s.select [] (by decide) rfl), hm⟩
  replace hm := ite_f hc2 hm
  refine WP.exit (then_exit (then_exit (block_here (tn ?_))))
  exact ⟨(Sub.all rfl), fun w' s => s, hm⟩
 rintro g' S' ⟨hsub2, hS2, hm⟩
 refine WP.sub hsub2 (WP.weaken hS2 ?_)
 replace hm := hk1.symm.trans hm
 refine WP.seq (WP.region (Va rfl (WL.nil (tn (WP.ret ?_)))))
 obtain rfl := Option.some.inj hm
 refine retQ_ret results105 (Res.tmp rfl Res.nil) rfl (fun w' s => ⟨s.below, ?_⟩)
 exact rfl
theorem slices_ContainsFunc_api_Stepapi_Step_diagram_draw_1_con (p_s : (List Step)) (ao1 : Option Addr) (cap1 : Nat) (w : World) (H : Heap) (hH : Le H (hp w)) (h1 : SL H encStep ao1 p_s) (hc1 : p_s.length ≤ cap1) (hG : Glob H) (r : Bool) (hm : slices_ContainsFunc_api_Stepapi_Step_diagram_draw_1 p_s = some r) :
  Con prog 74 [(.slice ao1 p_s.length cap1), (.func (.func 75) #[] #[])] w H (fun v _ => v = (.bool r)) := by
 unfold slices_ContainsFunc_api_Stepapi_Step_diagram_draw_1 at hm
 refine con_of hH func74 rfl 9 ntmps74 rfl ?_
 refine WP.seq (WP.region (Va rfl (WL.nil (tn (WP.seq (WP.region (Vm rfl (Vm rfl ?_))))))))
 obtain ⟨r1, e1, hm⟩ := bind_some hm
 refine wo rfl (oq_con (r := (.int .i64 r1)) call105 rfl rfl (fun w' s => ⟨_, (slices_IndexFunc_api_Stepapi_Step_diagram_draw_1_con p_s ao1 cap1  w' H s.hold h1 hc1 hG r1 e1)⟩)) ?_
 refine V rfl (ov_geq rfl rfl rfl) (Va rfl (WL.nil (tn (WP.ret ?_))))
 obtain rfl := Option.some.inj hm
 refine retQ_ret results74 (Res.tmp rfl Res.nil) rfl (fun w' s => ⟨s.below, ?_⟩)
 exact rfl
theorem diagram_draw_con (p_s : Sequence) (ao1 : Option Addr) (cap1 : Nat) (w : World) (H : Heap) (hH : Le H (hp w)) (h1 : SL H encStep ao1 p_s.steps) (hc1 : p_s.steps.length ≤ cap1) (hG : Glob H) (r : (List (List UInt8))) (hm : diagram_draw p_s = some r) :
  Con prog 42 [(.agg #[(.int .i64 p_s.actuators), (.slice ao1 p_s.steps.length cap1)])] w H (fun v H' => ∃ (ao2 : Option Addr) (cap2 : Nat), v = (.slice ao2 r.length cap2) ∧ SL H' encStr ao2 r ∧ r.length ≤ cap2) := by
 unfold diagram_draw at hm
 refine con_of hH func42 rfl 36 ntmps42 rfl ?_
 refine WP.seq (WP.region ?_)
 refine ws rfl (os_box (cs := [(.int .i64 p_s.actuators), (.slice ao1 p_s.steps.length cap1)]) rfl rfl rfl (fun b1 => ?_))
 refine Va rfl (WL.nil (tn (WP.seq (WP.region (V rfl (ov_load_whole (i := 0) isAgg24 sizeOf24 rfl rfl rfl rfl) ?_)))))
 refine ws rfl (os_inline (cap := []) (vs := [(.agg #[(.int .i64 p_s.actuators), (.slice ao1 p_s.steps.length cap1)]), (.func (.func 73) #[] #[])]) call49 rfl rfl rfl func49 rfl 46 ntmps49 rfl (fun w' s => ?_))
 refine WP.seq (WP.region ?_)
 refine ws rfl (os_box (cs := [(.int .i64 p_s.actuators), (.slice ao1 p_s.steps.length cap1)]) rfl rfl rfl (fun b2 => ?_))
 refine Va rfl (WL.nil (tn (WP.seq (WP.region (Va rfl (WL.nil (tn ?_)))))))
 obtain ⟨k1, hk1, hm⟩ := joinK_some hm
 refine WP.seq_join (fun g' S' => ∃ (H2 : Heap) (l9 : (List (List UInt8))) (ao13 : Option Addr) (cap13 : Nat) (xs5 : List Value), Le H H2 ∧ RL H2 encStr l9 xs5 ∧ Sub [(5, (.slice ao13 l9.length cap13)), (1000000007, (.bool false))] g' ∧ (∀ w', S' w' → St w H [.row 9 (encStr).size l9.length (.slice ao13 l9.length cap13) xs5, .blk b1 24 [(.int .i64 p_s.actuators), (.slice ao1 p_s.steps.length cap1)]] H2 w') ∧ k1 l9 = some r) ?_ ?_
 ·
  refine WP.seq (WP.region (V rfl (ov_load_whole (i := 0) isAgg24 sizeOf24 rfl rfl rfl rfl) ?_))
  obtain ⟨r1, e1, hm⟩ := bind_some hm
  refine ws rfl (os_con call85 rfl rfl (fun w' s => (cellsG_con p_s ao1 cap1  w' H s.hold h1 hc1 hG r1 e1)) (fun rr1 H1 hle1 hR1 => ?_))
  replace h1 := h1.mono hle1
  replace hG := hG.mono hle1
  obtain ⟨ao3, cap3, rfl, h3, hc3⟩ := hR1
  refine V rfl (ov_len_slice underlying154 rfl rfl) (Vm rfl (WL.nil (tn (WP.block ?_))))
  have rl1 := RL.nil (α := (List UInt8)) H1 encStr
  refine WP.weaken (fun _ s => s.nilrow 9 (encStr).size) ?_
  refine WP.loop (fun m1 g' S' => ∃ (i1 : Int) (l1 : (List (List UInt8))) (ao4 : Option Addr) (cap4 : Nat) (xs1 : List Value), RL H1 encStr l1 xs1 ∧ Sub [(1, (.func (.func 73) #[] #[])), (5, (.slice ao4 l1.length cap4)), (12, (.slice ao3 r1.length cap3)), (13, (.int .i64 (r1.length : Int))), (14, (.int .i64 i1)), (1000000007, (.bool false))] g' ∧ (∀ w', S' w' → St w H [.row 9 (encStr).size l1.length (.slice ao4 l1.length cap4) xs1, .blk b1 24 [(.int .i64 p_s.actuators), (.slice ao1 p_s.steps.length cap1)]] H1 w') ∧ diagram_draw_loop1 k1 r1 m1 i1 l1 = some r) ((Int.toNat ((r1.length : Int) - 0) + 1)) ⟨0, ([] : List (List UInt8)), none, 0, [], rl1, (Sub.all rfl), fun w' s => (s.select [0, 2] (by decide) rfl), hm⟩ ?_ ?_
  ·
   rintro g' S' ⟨_, _, _, _, _, _, _, _, hm⟩
   exact none_some hm
  rintro m1 g' S' ⟨i1, l1, ao4, cap4, xs1, rl2, hsub1, hS1, hm⟩
  refine WP.sub hsub1 (WP.weaken hS1 ?_)
  rw [diagram_draw_loop1] at hm
  refine WP.seq (WP.region (V rfl (ov_lss rfl rfl rfl) (WL.nil (tn (WP.seq ?_)))))
  refine WP.cond rfl (fun hc4 => ?_) (fun hc4 => ?_)
  ·
   replace hm := ite_t hc4 hm
   refine WP.skip (tn ?_)
   obtain ⟨k2, hk2, hm⟩ := joinK_some hm
   refine WP.seq_join (fun g' S' => ∃ (l8 : (List (List UInt8))) (ao12 : Option Addr) (cap12 : Nat) (xs4 : List Value), RL H1 encStr l8 xs4 ∧ Sub [(1, (.func (.func 73) #[] #[])), (5, (.slice ao12 l8.length cap12)), (12, (.slice ao3 r1.length cap3)), (13, (.int .i64 (r1.length : Int))), (14, (.int .i64 i1)), (1000000007, (.bool false))] g' ∧ (∀ w', S' w' → St w H [.row 9 (encStr).size l8.length (.slice ao12 l8.length cap12) xs4, .blk b1 24 [(.int .i64 p_s.actuators), (.slice ao1 p_s.steps.length cap1)]] H1 w') ∧ k2 l8 = some r) ?_ ?_
   ·
    refine WP.block (WP.seq (WP.region (Vm rfl ?_)))
    obtain ⟨x1, e2, hm⟩ := bind_some hm
    obtain ⟨h5, h6, h7, cs1, h8, h9⟩ := h3.get e2 (by decide)
    obtain ⟨ao5, cap5, rfl, h4, hc5⟩ := h8
    refine V rfl (ov_indexAddr underlying154 sizeOf156 rfl rfl rfl h5 h6 h7) (V rfl (ov_load_elem (v := (.slice ao5 x1.length cap5)) isAgg156 rfl rfl h9) (Va rfl (Va rfl (WL.nil (tn (WP.seq (WP.region (V rfl (ov_build (r := (.agg #[(.pointer none), (.slice none 0 0)])) rfl rfl (fun _ => by kernel_rfl)) ?_))))))))
    refine WL.within (fun w1 s1 => ?_)
    have sv1 := h3
    replace h3 := h3.mono s1.hold
    have sv2 := h9
    replace h9 := h9.mono s1.hold
    have sv3 := h4
    replace h4 := h4.mono s1.hold
    have sv4 := h1
    replace h1 := h1.mono s1.hold
    have sv5 := rl2
    replace rl2 := rl2.mono s1.hold
    have sv6 := hG
    replace hG := hG.mono s1.hold
    have h10 : RowAt (hp w1) (some ⟨b1, 0, none⟩) 0 [(.int .i64 p_s.actuators), (.slice ao1 p_s.steps.length cap1)] := s1.box_row (i := 1) rfl
    refine ws rfl (os_box (cs := [(.pointer none), (.slice none 0 0)]) rfl rfl rfl (fun b3 => ?_))
    refine Va rfl (WL.nil (tn (WP.seq (WP.region (Vm rfl (Vm rfl ?_))))))
    obtain ⟨r2, e3, hm⟩ := bind_some hm
    refine wo rfl (oq_con (r := (mkS r2)) call86 rfl rfl (fun w' s => ⟨_, (diagram_letter_con i1  w' (hp w1) s.hold hG r2 e3)⟩)) ?_
    obtain ⟨s2, e4, hm⟩ := bind_some hm
    refine V rfl (ov_sadd' e4 rfl rfl rfl) ?_
    refine ws rfl (os_inline (cap := []) (vs := [(pB b3 0), (mkS s2)]) call51 rfl rfl rfl func51 rfl 19 ntmps51 rfl (fun w' s => ?_))
    refine WP.seq (WP.region (Va rfl (Va rfl (WL.nil (tn (WP.seq (WP.region (Vm rfl ?_))))))))
    refine ws rfl (os_copyCheck (i := 0) rfl rfl rfl (.inl rfl) ?_)
    refine WL.nil (tn (WP.seq (WP.region (Vm rfl (Vm rfl (V rfl (ov_nilCheckB rfl rfl) (V rfl (ov_fieldAddr underlying146 rfl rfl rfl sizeOf123 rfl rfl) (Vl 0 isAgg123 rfl (Vm rfl ?_)))))))))
    have rl3 := RL.nil (α := UInt8) (hp w1) encByte
    refine WL.weaken (fun _ s => s.nilrow 5 (encByte).size) ?_
    obtain ⟨l2, e5, hm⟩ := bind_some hm
    refine ws rfl (os_app_str (i := 0) (xs := []) underlying123 underlying9 (by kernel_rfl : (prog.info? 5).map (fun i => (i.zero, i.size, i.bytes)) = some (some (.int .u8 0), 1, 1)) rfl rfl rfl rfl rl3 e5 (fun ao6 cap6 ys1 rl4 => ?_))
    refine V rfl (ov_nilCheckB rfl rfl) (V rfl (ov_fieldAddr underlying146 rfl rfl rfl sizeOf123 rfl rfl) ?_)
    refine ws0 rfl (os_store (i := 1) (vs := [(.slice ao6 (([] : List UInt8) ++ s2).length cap6)]) (cs' := [(pB b3 0), (.slice ao6 (([] : List UInt8) ++ s2).length cap6)]) sizeOf123 rfl rfl rfl rfl rfl rfl rfl rfl rfl ?_)
    refine WL.nil (tn (WP.seq (WP.region (Vm rfl (V rfl (ov_len_string underlying9 rfl rfl) (Va rfl (Va rfl (WL.nil (tn (WP.ret ?_))))))))))
    refine retQ_ret (v := (.tuple #[(.int .i64 (s2.length : Int)), .nilIface])) results51 (Res.tmp rfl (Res.tmp rfl Res.nil)) rfl (fun w' s => ⟨_, ?_, s⟩)
    refine WL.nil (tn ?_)
    obtain ⟨k3, hk3, hm⟩ := joinK_some hm
    refine WP.seq_join (fun g' S' => ∃ (l6 : (List UInt8)) (ao10 : Option Addr) (cap10 : Nat) (xs3 : List Value), RL (hp w1) encByte l6 xs3 ∧ Sub [(1, (.func (.func 73) #[] #[])), (5, (.slice ao4 l1.length cap4)), (8, (pB b3 0)), (12, (.slice ao3 r1.length cap3)), (13, (.int .i64 (r1.length : Int))), (14, (.int .i64 i1)), (1000000007, (.bool false))] g' ∧ (∀ w', S' w' → St w1 (hp w1) [.row 5 (encByte).size l6.length (.slice ao10 l6.length cap10) xs3, .blk b3 146 [(pB b3 0), (.slice ao10 l6.length cap10)]] (hp w1) w') ∧ k3 l6 = some r) ?_ ?_
    ·
     refine WP.seq (WP.region (Vm rfl (V rfl (ov_len_slice underlying156 rfl rfl) (Vm rfl (WL.nil (tn (WP.block ?_)))))))
     refine WP.loop (fun m2 g' S' => ∃ (i2 : Int) (l3 : (List UInt8)) (ao7 : Option Addr) (cap7 : Nat) (xs2 : List Value), RL (hp w1) encByte l3 xs2 ∧ Sub [(1, (.func (.func 73) #[] #[])), (5, (.slice ao4 l1.length cap4)), (8, (pB b3 0)), (12, (.slice ao3 r1.length cap3)), (13, (.int .i64 (r1.length : Int))), (14, (.int .i64 i1)), (26, (.slice ao5 x1.length cap5)), (27, (.int .i64 (x1.length : Int))), (28, (.int .i64 i2)), (1000000007, (.bool false))] g' ∧ (∀ w', S' w' → St w1 (hp w1) [.row 5 (encByte).size l3.length (.slice ao7 l3.length cap7) xs2, .blk b3 146 [(pB b3 0), (.slice ao7 l3.length cap7)]] (hp w1) w') ∧ diagram_draw_loop2 x1 k3 m2 i2 l3 = some r) ((Int.toNat ((x1.length : Int) - 0) + 1)) ⟨0, (([] : List UInt8) ++ s2), ao6, cap6, ([] ++ ys1), rl4, (Sub.all rfl), fun w' s => s, hm⟩ ?_ ?_
     ·
      rintro g' S' ⟨_, _, _, _, _, _, _, _, hm⟩
      exact none_some hm
     rintro m2 g' S' ⟨i2, l3, ao7, cap7, xs2, rl5, hsub2, hS2, hm⟩
     refine WP.sub hsub2 (WP.weaken hS2 ?_)
     rw [diagram_draw_loop2] at hm
     refine WP.seq (WP.region (V rfl (ov_lss rfl rfl rfl) (WL.nil (tn (WP.seq ?_)))))
     refine WP.cond rfl (fun hc6 => ?_) (fun hc6 => ?_)
     ·
      replace hm := ite_t hc6 hm
      refine WP.skip (tn (WP.seq (WP.block (WP.seq (WP.region (Vm rfl ?_))))))
      obtain ⟨x2, e6, hm⟩ := bind_some hm
      obtain ⟨h11, h12, h13, cs2, h14, h15⟩ := h4.get e6 (by decide)
      obtain rfl : cs2 = [(.int .u8 x2.first), (.int .u8 x2.second)] := h14
      refine V rfl (ov_indexAddr underlying156 sizeOf112 rfl rfl rfl h11 h12 h13) (V rfl (ov_load_elems (vs := [(.int .u8 x2.first), (.int .u8 x2.second)]) isAgg112 sizeOf112 rfl rfl rfl h15 h13) ?_)
      refine ws rfl (os_alloc (cs := [(.int .u8 0), (.int .u8 0)]) zeroValue112 rfl rfl (fun b4 => ?_))
      refine Va rfl ?_
      refine ws0 rfl (os_store (i := 0) (vs := [(.int .u8 x2.first), (.int .u8 x2.second)]) (cs' := [(.int .u8 x2.first), (.int .u8 x2.second)]) sizeOf112 rfl rfl rfl rfl rfl rfl rfl rfl rfl ?_)
      refine WL.nil (tn (WP.region (Vm rfl (Vm rfl (Vm rfl (V rfl (ov_load_whole (i := 0) isAgg112 sizeOf112 rfl rfl rfl rfl) ?_))))))
      refine ws rfl (os_inline (cap := []) (vs := [(pB b3 0), (.int .i64 i2), (.agg #[(.int .u8 x2.first), (.int .u8 x2.second)])]) call73 rfl rfl rfl func73 rfl 14 ntmps73 rfl (fun w' s => ?_))
      refine WP.seq (WP.region ?_)
      refine ws rfl (os_box (cs := [(.int .u8 x2.first), (.int .u8 x2.second)]) rfl rfl rfl (fun b5 => ?_))
      refine WL.nil (tn (WP.seq (WP.region (Vm rfl (V rfl (ov_fieldAddr underlying112 rfl rfl rfl sizeOf5 rfl rfl) (Vl 0 isAgg5 rfl ?_))))))
      refine ws rfl (os_inline (cap := []) (vs := [(pB b3 0), (.int .u8 x2.first)]) call53 rfl rfl rfl func53 rfl 17 ntmps53 rfl (fun w' s => ?_))
      refine WP.seq (WP.region (Va rfl (WL.nil (tn (WP.seq (WP.region (Vm rfl ?_)))))))
      refine ws rfl (os_copyCheck (i := 3) rfl rfl rfl (.inr rfl) ?_)
      refine WL.nil (tn (WP.seq (WP.region (Vm rfl (Vm rfl (V rfl (ov_nilCheckB rfl rfl) (V rfl (ov_fieldAddr underlying146 rfl rfl rfl sizeOf123 rfl rfl) (Vl 3 isAgg123 rfl (Vm rfl ?_)))))))))
      obtain ⟨u1, e7, hm⟩ := bind_some hm
      replace e7 := guardO_some e7
      have rl6 : RL (hp w1) encByte ([(UInt8.ofNat (Int.toNat x2.first))] : List UInt8) [(.int .u8 x2.first)] := RL.byte1 e7
      refine ws rfl (os_buildSlice (cs := [(.int .u8 x2.first)]) (E := 5) (sz := 1) rfl rfl (fun _ => by kernel_rfl) rfl (by decide) (fun b6 => ?_))
      obtain ⟨l4, e8, hm⟩ := bind_some hm
      refine ws rfl (os_app (i := 3) (j := 0) (En := encByte) (xs := xs2) (ys := [(.int .u8 x2.first)]) underlying123 (by kernel_rfl : (prog.info? 5).map (fun i => (i.zero, i.size, i.bytes)) = some (some (.int .u8 0), (encByte).size, 1)) rfl (by decide) rfl rfl rfl rfl rfl rfl rl5 rl6 e8 (fun ao8 cap8 rl7 => ?_))
      refine V rfl (ov_nilCheckB rfl rfl) (V rfl (ov_fieldAddr underlying146 rfl rfl rfl sizeOf123 rfl rfl) ?_)
      refine ws0 rfl (os_store (i := 4) (vs := [(.slice ao8 (l3 ++ ([(UInt8.ofNat (Int.toNat x2.first))] : List UInt8)).length cap8)]) (cs' := [(pB b3 0), (.slice ao8 (l3 ++ ([(UInt8.ofNat (Int.toNat x2.first))] : List UInt8)).length cap8)]) sizeOf123 rfl rfl rfl rfl rfl rfl rfl rfl rfl ?_)
      refine WL.nil (tn (WP.seq (WP.region (Va rfl (WL.nil (tn (WP.ret ?_)))))))
      refine retQ_ret (v := .nilIface) results53 (Res.tmp rfl Res.nil) rfl (fun w' s => ⟨_, ?_, s⟩)
      refine WL.nil (tn (WP.region (Vm rfl (V rfl (ov_fieldAddr underlying112 rfl rfl rfl sizeOf5 rfl rfl) (Vl 1 isAgg5 rfl ?_)))))
      refine ws rfl (os_inline (cap := []) (vs := [(pB b3 0), (.int .u8 x2.second)]) call53 rfl rfl rfl func53 rfl 17 ntmps53 rfl (fun w' s => ?_))
      refine WP.seq (WP.region (Va rfl (WL.nil (tn (WP.seq (WP.region (Vm rfl ?_)))))))
      refine ws rfl (os_copyCheck (i := 4) rfl rfl rfl (.inr rfl) ?_)
      refine WL.nil (tn (WP.seq (WP.region (Vm rfl (Vm rfl (V rfl (ov_nilCheckB rfl rfl) (V rfl (ov_fieldAddr underlying146 rfl rfl rfl sizeOf123 rfl rfl) (Vl 4 isAgg123 rfl (Vm rfl ?_)))))))))
      obtain ⟨u2, e9, hm⟩ := bind_some hm
      replace e9 := guardO_some e9
      have rl8 : RL (hp w1) encByte ([(UInt8.ofNat (Int.toNat x2.second))] : List UInt8) [(.int .u8 x2.second)] := RL.byte1 e9
      refine ws rfl (os_buildSlice (cs := [(.int .u8 x2.second)]) (E := 5) (sz := 1) rfl rfl (fun _ => by kernel_rfl) rfl (by decide) (fun b7 => ?_))
      obtain ⟨l5, e10, hm⟩ := bind_some hm
      refine ws rfl (os_app (i := 4) (j := 0) (En := encByte) (xs := (xs2 ++ [(.int .u8 x2.first)])) (ys := [(.int .u8 x2.second)]) underlying123 (by kernel_rfl : (prog.info? 5).map (fun i => (i.zero, i.size, i.bytes)) = some (some (.int .u8 0), (encByte).size, 1)) rfl (by decide) rfl rfl rfl rfl rfl rfl rl7 rl8 e10 (fun ao9 cap9 rl9 => ?_))
      refine V rfl (ov_nilCheckB rfl rfl) (V rfl (ov_fieldAddr underlying146 rfl rfl rfl sizeOf123 rfl rfl) ?_)
      refine ws0 rfl (os_store (i := 5) (vs := [(.slice ao9 ((l3 ++ ([(UInt8.ofNat (Int.toNat x2.first))] : List UInt8)) ++ ([(UInt8.ofNat (Int.toNat x2.second))] : List UInt8)).length cap9)]) (cs' := [(pB b3 0), (.slice ao9 ((l3 ++ ([(UInt8.ofNat (Int.toNat x2.first))] : List UInt8)) ++ ([(UInt8.ofNat (Int.toNat x2.second))] : List UInt8)).length cap9)]) sizeOf123 rfl rfl rfl rfl rfl rfl rfl rfl rfl ?_)
      refine WL.nil (tn (WP.seq (WP.region (Va rfl (WL.nil (tn (WP.ret ?_)))))))
      refine retQ_ret (v := .nilIface) results53 (Res.tmp rfl Res.nil) rfl (fun w' s => ⟨_, ?_, s⟩)
      refine WL.nil ?_
      refine retQ_end (v := (.tuple #[])) results73 Res.nil rfl (fun w' s => ⟨_, ?_, s⟩)
      refine WL.nil (bn (tn (WP.region (V rfl (ov_add rfl rfl rfl) (Vm rfl (WL.nil (tn ?_)))))))
      exact ⟨(IntKind.wrap .i64 (i2 + 1)), ((l3 ++ ([(UInt8.ofNat (Int.toNat x2.first))] : List UInt8)) ++ ([(UInt8.ofNat (Int.toNat x2.second))] : List UInt8)), ao9, cap9, ((xs2 ++ [(.int .u8 x2.first)]) ++ [(.int .u8 x2.second)]), rl9, (Sub.all rfl), fun w' s => (s.select [4, 5] (by decide) rfl), hm⟩
     replace hm := ite_f hc6 hm
     refine WP.exit (then_exit (then_exit (block_here (tn ?_))))
     exact ⟨l3, ao7, cap7, xs2, rl5, (Sub.all rfl), fun w' s => s, hm⟩
    rintro g' S' ⟨l6, ao10, cap10, xs3, rl10, hsub3, hS3, hm⟩
    refine WP.sub hsub3 (WP.weaken hS3 ?_)
    replace hm := (congrFun hk3 l6).symm.trans hm
    refine WP.region (Vm rfl (Vm rfl ?_))
    have h3 := sv1
    have h9 := sv2
    have h4 := sv3
    have h1 := sv4
    have rl2 := sv5
    have hG := sv6
    refine ws rfl (os_bstring_in s1 (i := 1) (j := 0) rfl rfl rfl rfl (.inr rfl) rl10 ?_)
    have rl11 : RL H1 encStr ([l6] : List (List UInt8)) [(mkS l6)] := RL.cons (cs := [(mkS l6)]) (xs := []) rfl (RL.nil _ _)
    refine ws rfl (os_buildSlice (cs := [(mkS l6)]) (E := 9) (sz := 1) rfl rfl (fun _ => by kernel_rfl) rfl (by decide) (fun b8 => ?_))
    obtain ⟨l7, e11, hm⟩ := bind_some hm
    refine ws rfl (os_app (i := 1) (j := 0) (En := encStr) (xs := xs1) (ys := [(mkS l6)]) underlying41 (by kernel_rfl : (prog.info? 9).map (fun i => (i.zero, i.size, i.bytes)) = some (some (mkS []), (encStr).size, 16)) rfl (by decide) rfl rfl rfl rfl rfl rfl rl2 rl11 e11 (fun ao11 cap11 rl12 => ?_))
    refine Va rfl (WL.nil (bn (tn ?_)))
    exact ⟨(l1 ++ ([l6] : List (List UInt8))), ao11, cap11, (xs1 ++ [(mkS l6)]), rl12, (Sub.all rfl), fun w' s => (s.select [1, 2] (by decide) rfl), hm⟩
   rintro g' S' ⟨l8, ao12, cap12, xs4, rl13, hsub4, hS4, hm⟩
   refine WP.sub hsub4 (WP.weaken hS4 ?_)
   replace hm := (congrFun hk2 l8).symm.trans hm
   refine WP.region (V rfl (ov_add rfl rfl rfl) (Vm rfl (WL.nil (tn ?_))))
   exact ⟨(IntKind.wrap .i64 (i1 + 1)), l8, ao12, cap12, xs4, rl13, (Sub.all rfl), fun w' s => s, hm⟩
  replace hm := ite_f hc4 hm
  refine WP.exit (then_exit (then_exit (block_here (tn ?_))))
  exact ⟨H1, l1, ao4, cap4, xs1, hle1, rl2, (Sub.all rfl), fun w' s => s, hm⟩
 rintro g' S' ⟨H2, l9, ao13, cap13, xs5, hle2, rl14, hsub5, hS5, hm⟩
 refine WP.sub hsub5 (WP.weaken hS5 ?_)
 replace hm := (congrFun hk1 l9).symm.trans hm
 replace h1 := h1.mono hle2
 replace hG := hG.mono hle2
 refine WP.seq (WP.region (Vm rfl (Va rfl (WL.nil (tn (WP.ret ?_))))))
 refine retQ_ret (v := (.slice ao13 l9.length cap13)) results49 (Res.tmp rfl Res.nil) rfl (fun w' s => ⟨_, ?_, s⟩)
 refine Va rfl (WL.nil (tn ?_))
 obtain ⟨k4, hk4, hm⟩ := joinK_some hm
 refine WP.seq_join (fun g' S' => ∃ (l15 : (List (List UInt8))) (ao20 : Option Addr) (cap20 : Nat) (xs8 : List Value), RL H2 encStr l15 xs8 ∧ Sub [(3, (.slice ao20 l15.length cap20)), (1000000007, (.bool false))] g' ∧ (∀ w', S' w' → St w H [.row 9 (encStr).size l15.length (.slice ao20 l15.length cap20) xs8] H2 w') ∧ k4 l15 = some r) ?_ ?_
 ·
  refine WP.seq (WP.region (V rfl (ov_fieldAddr underlying24 rfl rfl rfl sizeOf22 rfl rfl) (Vl 1 isAgg22 rfl ?_)))
  obtain ⟨r3, e12, hm⟩ := bind_some hm
  refine wo rfl (oq_con (r := (.bool r3)) call74 rfl rfl (fun w' s => ⟨_, (slices_ContainsFunc_api_Stepapi_Step_diagram_draw_1_con p_s.steps ao1 cap1  w' H2 s.hold h1 hc1 hG r3 e12)⟩)) ?_
  refine WL.nil (tn ?_)
  refine WP.cond rfl (fun hc7 => ?_) (fun hc7 => ?_)
  ·
   replace hm := ite_t hc7 hm
   refine WP.seq (WP.region (V rfl (ov_build (r := (.agg #[(.pointer none), (.slice none 0 0)])) rfl rfl (fun _ => by kernel_rfl)) ?_))
   refine WL.within (fun w2 s3 => ?_)
   have sv7 := h1
   replace h1 := h1.mono s3.hold
   have sv8 := rl14
   replace rl14 := rl14.mono s3.hold
   have sv9 := hG
   replace hG := hG.mono s3.hold
   have h16 : RowAt (hp w2) (some ⟨b1, 0, none⟩) 0 [(.int .i64 p_s.actuators), (.slice ao1 p_s.steps.length cap1)] := s3.box_row (i := 1) rfl
   refine ws rfl (os_box (cs := [(.pointer none), (.slice none 0 0)]) rfl rfl rfl (fun b9 => ?_))
   refine Va rfl (WL.nil (tn (WP.seq (WP.region (Vm rfl ?_)))))
   refine ws rfl (os_inline (cap := []) (vs := [(pB b9 0), (mkS [84])]) call51 rfl rfl rfl func51 rfl 19 ntmps51 rfl (fun w' s => ?_))
   refine WP.seq (WP.region (Va rfl (Va rfl (WL.nil (tn (WP.seq (WP.region (Vm rfl ?_))))))))
   refine ws rfl (os_copyCheck (i := 0) rfl rfl rfl (.inl rfl) ?_)
   refine WL.nil (tn (WP.seq (WP.region (Vm rfl (Vm rfl (V rfl (ov_nilCheckB rfl rfl) (V rfl (ov_fieldAddr underlying146 rfl rfl rfl sizeOf123 rfl rfl) (Vl 0 isAgg123 rfl (Vm rfl ?_)))))))))
   have rl15 := RL.nil (α := UInt8) (hp w2) encByte
   refine WL.weaken (fun _ s => s.nilrow 5 (encByte).size) ?_
   obtain ⟨l10, e13, hm⟩ := bind_some hm
   refine ws rfl (os_app_str (i := 0) (xs := []) underlying123 underlying9 (by kernel_rfl : (prog.info? 5).map (fun i => (i.zero, i.size, i.bytes)) = some (some (.int .u8 0), 1, 1)) rfl rfl rfl rfl rl15 e13 (fun ao14 cap14 ys2 rl16 => ?_))
   refine V rfl (ov_nilCheckB rfl rfl) (V rfl (ov_fieldAddr underlying146 rfl rfl rfl sizeOf123 rfl rfl) ?_)
   refine ws0 rfl (os_store (i := 1) (vs := [(.slice ao14 (([] : List UInt8) ++ [84]).length cap14)]) (cs' := [(pB b9 0), (.slice ao14 (([] : List UInt8) ++ [84]).length cap14)]) sizeOf123 rfl rfl rfl rfl rfl rfl rfl rfl rfl ?_)
   refine WL.nil (tn (WP.seq (WP.region (Vm rfl (V rfl (ov_len_string underlying9 rfl rfl) (Va rfl (Va rfl (WL.nil (tn (WP.ret ?_))))))))))
   refine retQ_ret (v := (.tuple #[(.int .i64 (([84] : List UInt8).length : Int)), .nilIface])) results51 (Res.tmp rfl (Res.tmp rfl Res.nil)) rfl (fun w' s => ⟨_, ?_, s⟩)
   refine WL.nil (tn ?_)
   obtain ⟨k5, hk5, hm⟩ := joinK_some hm
   refine WP.seq_join (fun g' S' => ∃ (l13 : (List UInt8)) (ao18 : Option Addr) (cap18 : Nat) (xs7 : List Value), RL (hp w2) encByte l13 xs7 ∧ Sub [(3, (.slice ao13 l9.length cap13)), (4, (pB b9 0)), (1000000007, (.bool false))] g' ∧ (∀ w', S' w' → St w2 (hp w2) [.row 5 (encByte).size l13.length (.slice ao18 l13.length cap18) xs7, .blk b9 146 [(pB b9 0), (.slice ao18 l13.length cap18)]] (hp w2) w') ∧ k5 l13 = some r) ?_ ?_
   ·
    refine WP.seq (WP.region (V rfl (ov_fieldAddrE (ao := (some ⟨b1, 0, none⟩)) (k := 0) underlying24 rfl rfl rfl sizeOf22 rfl rfl) ?_))
    refine V rfl (ov_load_elem (v := (.slice ao1 p_s.steps.length cap1)) isAgg22 rfl rfl (h16.one (off := 1) rfl)) (V rfl (ov_len_slice underlying22 rfl rfl) (Vm rfl (WL.nil (tn (WP.block ?_)))))
    refine WP.loop (fun m3 g' S' => ∃ (i3 : Int) (l11 : (List UInt8)) (ao15 : Option Addr) (cap15 : Nat) (xs6 : List Value), RL (hp w2) encByte l11 xs6 ∧ Sub [(3, (.slice ao13 l9.length cap13)), (4, (pB b9 0)), (17, (.slice ao1 p_s.steps.length cap1)), (18, (.int .i64 (p_s.steps.length : Int))), (19, (.int .i64 i3)), (1000000007, (.bool false))] g' ∧ (∀ w', S' w' → St w2 (hp w2) [.row 5 (encByte).size l11.length (.slice ao15 l11.length cap15) xs6, .blk b9 146 [(pB b9 0), (.slice ao15 l11.length cap15)]] (hp w2) w') ∧ diagram_draw_loop3 p_s k5 m3 i3 l11 = some r) ((Int.toNat ((p_s.steps.length : Int) - 0) + 1)) ⟨0, (([] : List UInt8) ++ [84]), ao14, cap14, ([] ++ ys2), rl16, (Sub.all rfl), fun w' s => s, hm⟩ ?_ ?_
    ·
     rintro g' S' ⟨_, _, _, _, _, _, _, _, hm⟩
     exact none_some hm
    rintro m3 g' S' ⟨i3, l11, ao15, cap15, xs6, rl17, hsub6, hS6, hm⟩
    refine WP.sub hsub6 (WP.weaken hS6 ?_)
    rw [diagram_draw_loop3] at hm
    refine WP.seq (WP.region (V rfl (ov_lss rfl rfl rfl) (WL.nil (tn (WP.seq ?_)))))
    refine WP.cond rfl (fun hc8 => ?_) (fun hc8 => ?_)
    ·
     replace hm := ite_t hc8 hm
     refine WP.skip (tn (WP.seq (WP.block (WP.seq (WP.region ?_)))))
     obtain ⟨x3, e14, hm⟩ := bind_some hm
     obtain ⟨h18, h19, h20, cs3, h21, h22⟩ := h1.get e14 (by decide)
     obtain ⟨ao16, cap16, rfl, h17, hc9⟩ := h21
     refine V rfl (ov_indexAddr underlying22 sizeOf55 rfl rfl rfl h18 h19 h20) (V rfl (ov_load_elems (vs := [(.slice ao16 x3.strokes.length cap16), (.int .i64 x3.wait)]) isAgg55 sizeOf55 rfl rfl rfl h22 h20) ?_)
     refine ws rfl (os_alloc (cs := [(.slice none 0 0), (.int .i64 0)]) zeroValue55 rfl rfl (fun b10 => ?_))
     refine ws0 rfl (os_store (i := 0) (vs := [(.slice ao16 x3.strokes.length cap16), (.int .i64 x3.wait)]) (cs' := [(.slice ao16 x3.strokes.length cap16), (.int .i64 x3.wait)]) sizeOf55 rfl rfl rfl rfl rfl rfl rfl rfl rfl ?_)
     refine WL.nil (tn (WP.region (Vm rfl (V rfl (ov_fieldAddr underlying55 rfl rfl rfl sizeOf3 rfl rfl) (Vl 0 isAgg3 rfl ?_)))))
     obtain ⟨r4, e15, hm⟩ := bind_some hm
     refine wo rfl (oq_con (r := (mkS r4)) call76 rfl rfl (fun w' s => ⟨_, (itoa_con x3.wait  w' (hp w2) s.hold hG r4 e15)⟩)) ?_
     obtain ⟨s4, e16, hm⟩ := bind_some hm
     refine V rfl (ov_sadd' e16 rfl rfl rfl) ?_
     refine ws rfl (os_inline (cap := []) (vs := [(pB b9 0), (mkS s4)]) call51 rfl rfl rfl func51 rfl 19 ntmps51 rfl (fun w' s => ?_))
     refine WP.seq (WP.region (Va rfl (Va rfl (WL.nil (tn (WP.seq (WP.region (Vm rfl ?_))))))))
     refine ws rfl (os_copyCheck (i := 2) rfl rfl rfl (.inr rfl) ?_)
     refine WL.nil (tn (WP.seq (WP.region (Vm rfl (Vm rfl (V rfl (ov_nilCheckB rfl rfl) (V rfl (ov_fieldAddr underlying146 rfl rfl rfl sizeOf123 rfl rfl) (Vl 2 isAgg123 rfl (Vm rfl ?_)))))))))
     obtain ⟨l12, e17, hm⟩ := bind_some hm
     refine ws rfl (os_app_str (i := 1) (xs := xs6) underlying123 underlying9 (by kernel_rfl : (prog.info? 5).map (fun i => (i.zero, i.size, i.bytes)) = some (some (.int .u8 0), 1, 1)) rfl rfl rfl rfl rl17 e17 (fun ao17 cap17 ys3 rl18 => ?_))
     refine V rfl (ov_nilCheckB rfl rfl) (V rfl (ov_fieldAddr underlying146 rfl rfl rfl sizeOf123 rfl rfl) ?_)
     refine ws0 rfl (os_store (i := 2) (vs := [(.slice ao17 (l11 ++ s4).length cap17)]) (cs' := [(pB b9 0), (.slice ao17 (l11 ++ s4).length cap17)]) sizeOf123 rfl rfl rfl rfl rfl rfl rfl rfl rfl ?_)
     refine WL.nil (tn (WP.seq (WP.region (Vm rfl (V rfl (ov_len_string underlying9 rfl rfl) (Va rfl (Va rfl (WL.nil (tn (WP.ret ?_))))))))))
     refine retQ_ret (v := (.tuple #[(.int .i64 (s4.length : Int)), .nilIface])) results51 (Res.tmp rfl (Res.tmp rfl Res.nil)) rfl (fun w' s => ⟨_, ?_, s⟩)
     refine WL.nil (bn (tn (WP.region (V rfl (ov_add rfl rfl rfl) (Vm rfl (WL.nil (tn ?_)))))))
     exact ⟨(IntKind.wrap .i64 (i3 + 1)), (l11 ++ s4), ao17, cap17, (xs6 ++ ys3), rl18, (Sub.all rfl), fun w' s => (s.select [1, 2] (by decide) rfl), hm⟩
    replace hm := ite_f hc8 hm
    refine WP.exit (then_exit (then_exit (block_here (tn ?_))))
    exact ⟨l11, ao15, cap15, xs6, rl17, (Sub.all rfl), fun w' s => s, hm⟩
   rintro g' S' ⟨l13, ao18, cap18, xs7, rl19, hsub7, hS7, hm⟩
   refine WP.sub hsub7 (WP.weaken hS7 ?_)
   replace hm := (congrFun hk5 l13).symm.trans hm
   refine WP.region (Vm rfl (Vm rfl ?_))
   have h1 := sv7
   have rl14 := sv8
   have hG := sv9
   refine ws rfl (os_bstring_in s3 (i := 1) (j := 0) rfl rfl rfl rfl (.inr rfl) rl19 ?_)
   have rl20 : RL H2 encStr ([l13] : List (List UInt8)) [(mkS l13)] := RL.cons (cs := [(mkS l13)]) (xs := []) rfl (RL.nil _ _)
   refine ws rfl (os_buildSlice (cs := [(mkS l13)]) (E := 9) (sz := 1) rfl rfl (fun _ => by kernel_rfl) rfl (by decide) (fun b11 => ?_))
   obtain ⟨l14, e18, hm⟩ := bind_some hm
   refine ws rfl (os_app (i := 1) (j := 0) (En := encStr) (xs := xs5) (ys := [(mkS l13)]) underlying41 (by kernel_rfl : (prog.info? 9).map (fun i => (i.zero, i.size, i.bytes)) = some (some (mkS []), (encStr).size, 16)) rfl (by decide) rfl rfl rfl rfl rfl rfl rl14 rl20 e18 (fun ao19 cap19 rl21 => ?_))
   refine Va rfl (WL.nil (tn ?_))
   exact ⟨(l9 ++ ([l13] : List (List UInt8))), ao19, cap19, (xs5 ++ [(mkS l13)]), rl21, (Sub.all rfl), fun w' s => (s.select [1] (by decide) rfl), hm⟩
  replace hm := ite_f hc7 hm
  refine WP.skip (tn ?_)
  exact ⟨l9, ao13, cap13, xs5, rl14, (Sub.all rfl), fun w' s => (s.select [0] (by decide) rfl), hm⟩
 rintro g' S' ⟨l15, ao20, cap20, xs8, rl22, hsub8, hS8, hm⟩
 refine WP.sub hsub8 (WP.weaken hS8 ?_)
 replace hm := (congrFun hk4 l15).symm.trans hm
 refine WP.seq (WP.region (Vm rfl (Va rfl (WL.nil (tn (WP.ret ?_))))))
 obtain rfl := Option.some.inj hm
 refine retQ_ret results42 (Res.tmp rfl Res.nil) rfl (fun w' s => ⟨s.below, ?_⟩)
 obtain ⟨h23, hc10⟩ := s.ret_row (i := 0) rfl rl22
 exact ⟨ao20, cap20, rfl, h23, hc10⟩
theorem diagram_Draw_con (p_s : Sequence) (ao1 : Option Addr) (cap1 : Nat) (w : World) (H : Heap) (hH : Le H (hp w)) (h1 : SL H encStep ao1 p_s.steps) (hc1 : p_s.steps.length ≤ cap1) (hG : Glob H) (r : ((List (List UInt8)) × Int)) (hm : diagram_Draw p_s = some r) :
  Con prog 20 [(.agg #[(.int .i64 p_s.actuators), (.slice ao1 p_s.steps.length cap1)])] w H (fun v H' => ∃ (ao2 : Option Addr) (cap2 : Nat), v = (.tuple #[(.slice ao2 r.1.length cap2), (.int .i64 r.2)]) ∧ SL H' encStr ao2 r.1 ∧ r.1.length ≤ cap2) := by
 unfold diagram_Draw at hm
 refine con_of hH func20 rfl 12 ntmps20 rfl ?_
 refine WP.seq (WP.region ?_)
 refine ws rfl (os_box (cs := [(.int .i64 p_s.actuators), (.slice ao1 p_s.steps.length cap1)]) rfl rfl rfl (fun b1 => ?_))
 refine Va rfl (Va rfl (WL.nil (tn (WP.seq (WP.seq (WP.region (V rfl (ov_load_whole (i := 0) isAgg24 sizeOf24 rfl rfl rfl rfl) ?_)))))))
 obtain ⟨r1, e1, hm⟩ := bind_some hm
 refine wo rfl (oq_con (r := (.int .i64 r1)) call27 rfl rfl (fun w' s => ⟨_, (sequence_Check_con p_s ao1 cap1  w' H s.hold h1 hc1 hG r1 e1)⟩)) ?_
 refine Va rfl (WL.nil (tn (WP.seq (WP.region (Vm rfl (V rfl (ov_neq rfl rfl rfl) (WL.nil (tn ?_))))))))
 refine WP.cond rfl (fun hc3 => ?_) (fun hc3 => ?_)
 ·
  replace hm := ite_t hc3 hm
  refine WP.seq (WP.region (Vm rfl (Va rfl (Va rfl (WL.nil (tn (WP.ret (then_ret ?_))))))))
  obtain rfl := Option.some.inj hm
  refine retQ_ret results20 (Res.tmp rfl (Res.tmp rfl Res.nil)) rfl (fun w' s => ⟨s.below, ?_⟩)
  exact ⟨none, 0, rfl, SL.nil _ _ _, Nat.le_refl _⟩
 replace hm := ite_f hc3 hm
 refine WP.skip (tn (WP.seq (WP.region (V rfl (ov_load_whole (i := 0) isAgg24 sizeOf24 rfl rfl rfl rfl) ?_))))
 obtain ⟨r2, e2, hm⟩ := bind_some hm
 refine ws rfl (os_con call42 rfl rfl (fun w' s => (diagram_draw_con p_s ao1 cap1  w' H s.hold h1 hc1 hG r2 e2)) (fun rr1 H1 hle1 hR1 => ?_))
 obtain ⟨ao3, cap3, rfl, h3, hc4⟩ := hR1
 refine Va rfl (Va rfl (WL.nil (tn (WP.ret ?_))))
 obtain rfl := Option.some.inj hm
 refine retQ_ret results20 (Res.tmp rfl (Res.tmp rfl Res.nil)) rfl (fun w' s => ⟨s.below, ?_⟩)
 exact ⟨ao3, cap3, rfl, h3.mono s.le_newer, hc4⟩
theorem slices_Equal_stringstring_con (p_s1 : (List (List UInt8))) (p_s2 : (List (List UInt8))) (ao1 : Option Addr) (cap1 : Nat) (ao2 : Option Addr) (cap2 : Nat) (w : World) (H : Heap) (hH : Le H (hp w)) (h1 : SL H encStr ao1 p_s1) (hc1 : p_s1.length ≤ cap1) (h2 : SL H encStr ao2 p_s2) (hc2 : p_s2.length ≤ cap2) (hG : Glob H) (r : Bool) (hm : slices_Equal_stringstring p_s1 p_s2 = some r) :
  Con prog 21 [(.slice ao1 p_s1.length cap1), (.slice ao2 p_s2.length cap2)] w H (fun v _ => v = (.bool r)) := by
 unfold slices_Equal_stringstring at hm
 refine con_of hH func21 rfl 26 ntmps21 rfl ?_
 refine WP.seq (WP.region (Va rfl (WL.nil (tn (WP.seq (WP.seq (WP.region (Vm rfl (V rfl (ov_len_slice underlying41 rfl rfl) (Vm rfl (V rfl (ov_len_slice underlying41 rfl rfl) (V rfl (ov_neq rfl rfl rfl) (WL.nil ?_)))))))))))))
 refine tn ?_
 refine WP.cond rfl (fun hc3 => ?_) (fun hc3 => ?_)
 ·
  replace hm := ite_t hc3 hm
  refine WP.seq (WP.region (Va rfl (WL.nil (tn (WP.ret (then_ret ?_))))))
  obtain rfl := Option.some.inj hm
  refine retQ_ret results21 (Res.tmp rfl Res.nil) rfl (fun w' s => ⟨s.below, ?_⟩)
  exact rfl
 replace hm := ite_f hc3 hm
 refine WP.skip (tn ?_)
 obtain ⟨k1, hk1, hm⟩ := joinK_some hm
 refine WP.seq_join (fun g' S' => Sub [(1000000007, (.bool false))] g' ∧ (∀ w', S' w' → St w H [] H w') ∧ k1 = some r) ?_ ?_
 ·
  refine WP.seq (WP.region (Vm rfl (V rfl (ov_len_slice underlying41 rfl rfl) (Vm rfl (WL.nil (tn (WP.block ?_)))))))
  refine WP.loop (fun m1 g' S' => ∃ (i1 : Int), Sub [(0, (.slice ao1 p_s1.length cap1)), (1, (.slice ao2 p_s2.length cap2)), (12, (.int .i64 (p_s1.length : Int))), (13, (.int .i64 i1)), (1000000007, (.bool false))] g' ∧ (∀ w', S' w' → St w H [] H w') ∧ slices_Equal_stringstring_loop1 p_s1 p_s2 k1 m1 i1 = some r) ((Int.toNat ((p_s1.length : Int) - 0) + 1)) ⟨0, (Sub.all rfl), fun w' s => s, hm⟩ ?_ ?_
  ·
   rintro g' S' ⟨_, _, _, hm⟩
   exact none_some hm
  rintro m1 g' S' ⟨i1, hsub1, hS1, hm⟩
  refine WP.sub hsub1 (WP.weaken hS1 ?_)
  rw [slices_Equal_stringstring_loop1] at hm
  refine WP.seq (WP.region (V rfl (ov_lss rfl rfl rfl) (WL.nil (tn (WP.seq ?_)))))
  refine WP.cond rfl (fun hc4 => ?_) (fun hc4 => ?_)
  ·
   replace hm := ite_t hc4 hm
   refine WP.skip (tn (WP.seq (WP.block (WP.seq (WP.region (Vm rfl (Va rfl (WL.nil (tn (WP.seq ?_))))))))))
   refine WP.region_draws (by kernel_rfl) (by kernel_rfl) (fun _ s => s.drew) ?_
   refine qf rfl (ov_move rfl rfl) ?_
   refine qf rfl (ov_move rfl rfl) ?_
   obtain ⟨x1, e1, hm⟩ := bind_some hm
   obtain ⟨h3, h4, h5, cs1, h6, h7⟩ := h1.get e1 (by decide)
   obtain rfl : cs1 = [(mkS x1)] := h6
   refine qf rfl (ov_indexAddr underlying41 sizeOf9 rfl rfl rfl h3 h4 h5) ?_
   refine qf rfl (ov_load_elem (v := (mkS x1)) isAgg9 rfl rfl h7) ?_
   refine qf rfl (ov_move rfl rfl) ?_
   refine qf rfl (ov_move rfl rfl) ?_
   obtain ⟨x2, e2, hm⟩ := bind_some hm
   obtain ⟨h8, h9, h10, cs2, h11, h12⟩ := h2.get e2 (by decide)
   obtain rfl : cs2 = [(mkS x2)] := h11
   refine qf rfl (ov_indexAddr underlying41 sizeOf9 rfl rfl rfl h8 h9 h10) ?_
   refine qf rfl (ov_load_elem (v := (mkS x2)) isAgg9 rfl rfl h12) ?_
   refine qf rfl (ov_sneq rfl rfl rfl) ?_
   refine QL.nil ?_
   refine tn ?_
   refine WP.cond rfl (fun hc5 => ?_) (fun hc5 => ?_)
   ·
    replace hm := ite_t hc5 hm
    refine WP.seq (WP.region (Va rfl (WL.nil (tn (WP.ret (block_ret (then_ret (then_ret (block_ret (then_ret ?_))))))))))
    obtain rfl := Option.some.inj hm
    refine retQ_ret results21 (Res.tmp rfl Res.nil) rfl (fun w' s => ⟨s.below, ?_⟩)
    exact rfl
   replace hm := ite_f hc5 hm
   refine WP.skip (bn (tn (WP.region (V rfl (ov_add rfl rfl rfl) (Vm rfl (WL.nil (tn ?_)))))))
   exact ⟨(IntKind.wrap .i64 (i1 + 1)), (Sub.all rfl), fun w' s => s, hm⟩
  replace hm := ite_f hc4 hm
  refine WP.exit (then_exit (then_exit (block_here (tn ?_))))
  exact ⟨(Sub.all rfl), fun w' s => s, hm⟩
 rintro g' S' ⟨hsub2, hS2, hm⟩
 refine WP.sub hsub2 (WP.weaken hS2 ?_)
 replace hm := hk1.symm.trans hm
 refine WP.seq (WP.region (Va rfl (WL.nil (tn (WP.ret ?_)))))
 obtain rfl := Option.some.inj hm
 refine retQ_ret results21 (Res.tmp rfl Res.nil) rfl (fun w' s => ⟨s.below, ?_⟩)
 exact rfl
theorem top_runMotion_con  (w : World) (H : Heap) (hH : Le H (hp w)) (hG : Glob H) (r : Bool) (hm : top_runMotion  = some r) :
  Con prog 7 [] w H (fun v _ => v = (.bool r)) := by
 unfold top_runMotion at hm
 refine con_of hH func7 rfl 56 ntmps7 rfl ?_
 refine WP.seq (WP.region (Va rfl (WL.nil (tn (WP.seq (WP.region ?_))))))
 obtain ⟨r1, e1, hm⟩ := bind_some hm
 refine ws rfl (os_con call18 rfl rfl (fun w' s => (program_Parse_con [123, 32, 65, 43, 59, 32, 114, 101, 112, 101, 97, 116, 32, 50, 32, 123, 32, 66, 43, 59, 32, 66, 45, 32, 49, 48, 32, 125, 59, 32, 65, 45, 32, 125]  w' H s.hold hG r1 e1)) (fun rr1 H1 hle1 hR1 => ?_))
 replace hG := hG.mono hle1
 obtain ⟨ao1, cap1, ao2, cap2, rfl, h1, hc1, h2, hc2⟩ := hR1
 refine Vm rfl (Ve rfl (Ve rfl (Ve rfl ?_)))
 refine ws rfl (os_alloc (cs := [(.int .i64 0), (.slice none 0 0), (.int .i64 0), (.int .i64 0), (mkS []), (.slice none 0 0)]) zeroValue62 rfl rfl (fun b1 => ?_))
 refine ws0 rfl (os_store (i := 0) (vs := [(.int .i64 r1.1.kind), (.slice ao1 r1.1.step.strokes.length cap1), (.int .i64 r1.1.step.wait), (.int .i64 r1.1.count), (mkS r1.1.name), (.slice ao2 r1.1.nodes.length cap2)]) (cs' := [(.int .i64 r1.1.kind), (.slice ao1 r1.1.step.strokes.length cap1), (.int .i64 r1.1.step.wait), (.int .i64 r1.1.count), (mkS r1.1.name), (.slice ao2 r1.1.nodes.length cap2)]) sizeOf62 rfl rfl rfl rfl rfl rfl rfl rfl rfl ?_)
 refine Va rfl (Va rfl (WL.nil (tn (WP.seq (WP.region (V rfl (ov_load_whole (i := 0) isAgg62 sizeOf62 rfl rfl rfl rfl) ?_))))))
 obtain ⟨r2, e2, hm⟩ := bind_some hm
 refine ws rfl (os_con call19 rfl rfl (fun w' s => (program_Sequence_con r1.1 [] ao1 cap1 ao2 cap2 none 0  w' H1 s.hold h1 hc1 h2 hc2 (SL.nil _ _ _) (Nat.le_refl _) hG r2 e2)) (fun rr2 H2 hle2 hR2 => ?_))
 replace hG := hG.mono hle2
 obtain ⟨ao3, cap3, rfl, h3, hc3⟩ := hR2
 refine Vm rfl (Ve rfl (Ve rfl ?_))
 refine ws rfl (os_alloc (cs := [(.int .i64 0), (.slice none 0 0)]) zeroValue24 rfl rfl (fun b2 => ?_))
 refine ws0 rfl (os_store (i := 0) (vs := [(.int .i64 r2.1.actuators), (.slice ao3 r2.1.steps.length cap3)]) (cs' := [(.int .i64 r2.1.actuators), (.slice ao3 r2.1.steps.length cap3)]) sizeOf24 rfl rfl rfl rfl rfl rfl rfl rfl rfl ?_)
 refine Va rfl (WL.nil (tn (WP.seq (WP.region (V rfl (ov_load_whole (i := 0) isAgg24 sizeOf24 rfl rfl rfl rfl) ?_)))))
 obtain ⟨r3, e3, hm⟩ := bind_some hm
 refine ws rfl (os_con call20 rfl rfl (fun w' s => (diagram_Draw_con r2.1 ao3 cap3  w' H2 s.hold h3 hc3 hG r3 e3)) (fun rr3 H3 hle3 hR3 => ?_))
 replace h3 := h3.mono hle3
 replace hG := hG.mono hle3
 obtain ⟨ao4, cap4, rfl, h4, hc4⟩ := hR3
 refine Vm rfl (Ve rfl (Ve rfl (Va rfl (Va rfl (WL.nil (tn (WP.seq (WP.region (V rfl (ov_load_whole (i := 0) isAgg24 sizeOf24 rfl rfl rfl rfl) (V rfl (ov_build (r := (.agg #[(.int .i64 5), (.int .i64 6)])) rfl rfl (fun _ => by kernel_rfl)) (V rfl (ov_build (r := (.agg #[(.int .i64 7), (.int .i64 7)])) rfl rfl (fun _ => by kernel_rfl)) (V rfl (ov_build (r := (.agg #[(.int .i64 5), (.int .i64 6), (.int .i64 7), (.int .i64 7)])) rfl rfl (fun _ => by kernel_rfl)) (V rfl (ov_build (r := (.agg #[(.int .i64 1), (.int .i64 2)])) rfl rfl (fun _ => by kernel_rfl)) ?_)))))))))))))
 refine V rfl (ov_build (r := (.agg #[(.int .i64 3), (.int .i64 3)])) rfl rfl (fun _ => by kernel_rfl)) (V rfl (ov_build (r := (.agg #[(.int .i64 1), (.int .i64 2), (.int .i64 3), (.int .i64 3)])) rfl rfl (fun _ => by kernel_rfl)) ?_)
 have rl1 : RL H3 encTravel ([(Travel.mk (Span.mk 5 6) (Span.mk 7 7)), (Travel.mk (Span.mk 1 2) (Span.mk 3 3))] : List Travel) [(.int .i64 5), (.int .i64 6), (.int .i64 7), (.int .i64 7), (.int .i64 1), (.int .i64 2), (.int .i64 3), (.int .i64 3)] := RL.cons (cs := [(.int .i64 5), (.int .i64 6), (.int .i64 7), (.int .i64 7)]) (xs := [(.int .i64 1), (.int .i64 2), (.int .i64 3), (.int .i64 3)]) rfl (RL.cons (cs := [(.int .i64 1), (.int .i64 2), (.int .i64 3), (.int .i64 3)]) (xs := []) rfl (RL.nil _ _))
 refine ws rfl (os_buildSlice (cs := [(.int .i64 5), (.int .i64 6), (.int .i64 7), (.int .i64 7), (.int .i64 1), (.int .i64 2), (.int .i64 3), (.int .i64 3)]) (E := 51) (sz := 4) rfl rfl (fun _ => by kernel_rfl) rfl (by decide) (fun b3 => ?_))
 refine WL.held rl1 (fun H4 hc5 hle4 h5 => ?_)
 replace h3 := h3.mono hle4
 replace h4 := h4.mono hle4
 replace hG := hG.mono hle4
 refine V rfl (ov_build (r := (.agg #[(.slice (some ⟨b3, 0, none⟩) ([(Travel.mk (Span.mk 5 6) (Span.mk 7 7)), (Travel.mk (Span.mk 1 2) (Span.mk 3 3))] : List Travel).length 2)])) rfl rfl (fun _ => by kernel_rfl)) ?_
 obtain ⟨r4, e4, hm⟩ := bind_some hm
 refine wo rfl (oq_con (r := (.tuple #[(.agg #[(.int .i64 r4.1.low), (.int .i64 r4.1.high)]), (.int .i64 r4.2)])) call9 rfl rfl (fun w' s => ⟨_, (schedule_Cycle_con r2.1 (Plant.mk ([(Travel.mk (Span.mk 5 6) (Span.mk 7 7)), (Travel.mk (Span.mk 1 2) (Span.mk 3 3))] : List Travel)) ao3 cap3 (some ⟨b3, 0, none⟩) 2  w' H4 s.hold h3 hc3 h5 hc5 hG r4 e4)⟩)) ?_
 refine Vm rfl (Ve rfl (Ve rfl ?_))
 refine ws rfl (os_alloc (cs := [(.int .i64 0), (.int .i64 0)]) zeroValue38 rfl rfl (fun b4 => ?_))
 refine ws0 rfl (os_store (i := 0) (vs := [(.int .i64 r4.1.low), (.int .i64 r4.1.high)]) (cs' := [(.int .i64 r4.1.low), (.int .i64 r4.1.high)]) sizeOf38 rfl rfl rfl rfl rfl rfl rfl rfl rfl ?_)
 refine Va rfl (WL.nil (tn (WP.seq (WP.region (Vm rfl (Vm rfl (V rfl (ov_add rfl rfl rfl) (Vm rfl (V rfl (ov_add rfl rfl rfl) (Vm rfl (V rfl (ov_add rfl rfl rfl) (V rfl (ov_eql rfl rfl rfl) (Vm rfl ?_)))))))))))))
 obtain ⟨c1, e5, hm⟩ := bind_some hm
 refine WL.cut_bool 4 50 (x := c1) ?_ ?_
 ·
  rcases Bool.eq_false_or_eq_true ((IntKind.wrap .i64 ((IntKind.wrap .i64 ((IntKind.wrap .i64 (r1.2.2 + r2.2)) + r3.2)) + r4.2)) == 0) with hc6 | hc6
  ·
   replace hm := ite_t hc6 e5
   refine wy hc6 rfl (ov_move rfl rfl) ?_
   have rl2 : RL H4 encStr ([[65, 32, 95, 47, 45, 45, 45, 45, 45, 45, 45, 45, 45, 92, 95], [66, 32, 95, 95, 95, 47, 45, 92, 95, 47, 45, 92, 95, 95, 95], [84, 32, 48, 32, 48, 32, 49, 48, 32, 48, 32, 49, 48, 32, 48]] : List (List UInt8)) [(mkS [65, 32, 95, 47, 45, 45, 45, 45, 45, 45, 45, 45, 45, 92, 95]), (mkS [66, 32, 95, 95, 95, 47, 45, 92, 95, 47, 45, 92, 95, 95, 95]), (mkS [84, 32, 48, 32, 48, 32, 49, 48, 32, 48, 32, 49, 48, 32, 48])] := RL.cons (cs := [(mkS [65, 32, 95, 47, 45, 45, 45, 45, 45, 45, 45, 45, 45, 92, 95])]) (xs := [(mkS [66, 32, 95, 95, 95, 47, 45, 92, 95, 47, 45, 92, 95, 95, 95]), (mkS [84, 32, 48, 32, 48, 32, 49, 48, 32, 48, 32, 49, 48, 32, 48])]) rfl (RL.cons (cs := [(mkS [66, 32, 95, 95, 95, 47, 45, 92, 95, 47, 45, 92, 95, 95, 95])]) (xs := [(mkS [84, 32, 48, 32, 48, 32, 49, 48, 32, 48, 32, 49, 48, 32, 48])]) rfl (RL.cons (cs := [(mkS [84, 32, 48, 32, 48, 32, 49, 48, 32, 48, 32, 49, 48, 32, 48])]) (xs := []) rfl (RL.nil _ _)))
   refine WL.step (Runs.yes rfl rfl rfl hc6) rfl rfl (os_buildSlice (cs := [(mkS [65, 32, 95, 47, 45, 45, 45, 45, 45, 45, 45, 45, 45, 92, 95]), (mkS [66, 32, 95, 95, 95, 47, 45, 92, 95, 47, 45, 92, 95, 95, 95]), (mkS [84, 32, 48, 32, 48, 32, 49, 48, 32, 48, 32, 49, 48, 32, 48])]) (E := 9) (sz := 1) rfl rfl (fun _ => by kernel_rfl) rfl (by decide) (fun b5 => ?_))
   refine WL.held rl2 (fun H5 hc7 hle5 h6 => ?_)
   replace h4 := h4.mono hle5
   replace hG := hG.mono hle5
   obtain ⟨r5, e6, hm⟩ := bind_some hm
   refine WL.quiet (Runs.yes rfl rfl rfl hc6) rfl rfl (oq_con (r := (.bool r5)) call21 rfl rfl (fun w' s => ⟨_, (slices_Equal_stringstring_con r3.1 ([[65, 32, 95, 47, 45, 45, 45, 45, 45, 45, 45, 45, 45, 92, 95], [66, 32, 95, 95, 95, 47, 45, 92, 95, 47, 45, 92, 95, 95, 95], [84, 32, 48, 32, 48, 32, 49, 48, 32, 48, 32, 49, 48, 32, 48]] : List (List UInt8)) ao4 cap4 (some ⟨b5, 0, none⟩) 3  w' H5 s.hold h4 hc4 h6 hc7 hG r5 e6)⟩)) ?_
   refine V rfl (ov_pick_true rfl (guard_eq rfl hc6) rfl) ?_
   exact WL.nil ⟨Sub.cons' rfl (congrArg Value.bool (Option.some.inj hm)) (Sub.dropn 4 rfl), fun _ s => (s.heap hle5)⟩
  replace hm := ite_f hc6 e5
  refine Vi rfl (Idle.no rfl rfl rfl hc6) (Vi rfl (Idle.no rfl rfl rfl hc6) (Vi rfl (Idle.no rfl rfl rfl hc6) (V rfl (ov_pick_false rfl (guard_eq rfl hc6) rfl) ?_)))
  exact WL.nil ⟨Sub.cons' rfl (congrArg Value.bool (Option.some.inj hm)) (Sub.dropn 4 rfl), fun _ s => s⟩
 refine Vm rfl ?_
 refine WL.cut_bool 4 55 (x := (c1 && (r4.1 == (Span.mk 40 43)))) ?_ ?_
 ·
  rcases Bool.eq_false_or_eq_true c1 with hc8 | hc8
  ·
   refine wy hc8 rfl (ov_load_whole (i := 0) isAgg38 sizeOf38 rfl rfl rfl rfl) ?_
   refine wy hc8 rfl (ov_build (r := (.agg #[(.int .i64 40), (.int .i64 43)])) rfl rfl (fun _ => by kernel_rfl)) ?_
   refine wy hc8 rfl (eql_struct38 (a := r4.1) (b := (Span.mk 40 43)) rfl rfl rfl) ?_
   refine V rfl (ov_pick_true rfl (guard_eq rfl hc8) rfl) ?_
   exact WL.nil ⟨Sub.cons' rfl (congrArg Value.bool (andT hc8)) (Sub.dropn 4 rfl), fun _ s => s⟩
  refine Vi rfl (Idle.no rfl rfl rfl hc8) (Vi rfl (Idle.no rfl rfl rfl hc8) (Vi rfl (Idle.no rfl rfl rfl hc8) (V rfl (ov_pick_false rfl (guard_eq rfl hc8) rfl) ?_)))
  exact WL.nil ⟨Sub.cons' rfl (congrArg Value.bool (andF hc8)) (Sub.dropn 4 rfl), fun _ s => s⟩
 refine Va rfl (WL.nil (tn (WP.ret ?_)))
 obtain rfl := Option.some.inj hm
 refine retQ_ret results7 (Res.tmp rfl Res.nil) rfl (fun w' s => ⟨s.below, ?_⟩)
 exact rfl
end Go.Proofs.YtkgijoddkibapaaGreatDoor.W
