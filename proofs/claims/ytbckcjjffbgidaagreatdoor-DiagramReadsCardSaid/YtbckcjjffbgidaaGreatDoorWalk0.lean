/- The walks. Written by our own program gen.py; Lean checks it. -/
import Derived.Test.YtbckcjjffbgidaaGreatDoorPlain
import Derived.Test.YtbckcjjffbgidaaGreatDoorEqs
import Derived.Test.YtbckcjjffbgidaaGreatDoorProg
import Derived.Test.YtbckcjjffbgidaaGreatDoorExt
import Derived.Test.YtbckcjjffbgidaaGreatDoorBuild
import Derived.Test.YtbckcjjffbgidaaGreatDoorClone
set_option linter.unusedVariables false
set_option maxRecDepth 100000
set_option maxHeartbeats 4000000
namespace Go.Proofs.YtbckcjjffbgidaaGreatDoor.W
open Go Go.RowKit Go.Proofs.Tryz
theorem slices_IndexFunc_stringstring_diagram_given_1_con (p_s : (List (List UInt8))) (ao1 : Option Addr) (cap1 : Nat) (w : World) (H : Heap) (hH : Le H (hp w)) (h1 : SL H encStr ao1 p_s) (hc1 : p_s.length ≤ cap1) (hG : Glob H) (r : Int) (hm : slices_IndexFunc_stringstring_diagram_given_1 p_s = some r) :
  Con prog 126 [(.slice ao1 p_s.length cap1), (.func (.func 103) #[] #[])] w H (fun v _ => v = (.int .i64 r)) := by
 unfold slices_IndexFunc_stringstring_diagram_given_1 at hm
 refine con_of hH func126 rfl 19 ntmps126 rfl ?_
 refine WP.seq (WP.region (Va rfl (WL.nil (tn ?_))))
 obtain ⟨k1, hk1, hm⟩ := joinK_some hm
 refine WP.seq_join (fun g' S' => Sub [(1000000007, (.bool false))] g' ∧ (∀ w', S' w' → St w H [] H w') ∧ k1 = some r) ?_ ?_
 ·
  refine WP.seq (WP.region (Vm rfl (V rfl (ov_len_slice underlying27 rfl rfl) (Vm rfl (WL.nil (tn (WP.block ?_)))))))
  refine WP.loop (fun m1 g' S' => ∃ (i1 : Int), Sub [(0, (.slice ao1 p_s.length cap1)), (1, (.func (.func 103) #[] #[])), (7, (.int .i64 (p_s.length : Int))), (8, (.int .i64 i1)), (1000000007, (.bool false))] g' ∧ (∀ w', S' w' → St w H [] H w') ∧ slices_IndexFunc_stringstring_diagram_given_1_loop1 p_s k1 m1 i1 = some r) ((Int.toNat ((p_s.length : Int) - 0) + 1)) ⟨0, (Sub.all rfl), fun w' s => s, hm⟩ ?_ ?_
  ·
   rintro g' S' ⟨_, _, _, hm⟩
   exact none_some hm
  rintro m1 g' S' ⟨i1, hsub1, hS1, hm⟩
  refine WP.sub hsub1 (WP.weaken hS1 ?_)
  rw [slices_IndexFunc_stringstring_diagram_given_1_loop1] at hm
  refine WP.seq (WP.region (V rfl (ov_lss rfl rfl rfl) (WL.nil (tn (WP.seq ?_)))))
  refine WP.cond rfl (fun hc2 => ?_) (fun hc2 => ?_)
  ·
   replace hm := ite_t hc2 hm
   refine WP.skip (tn (WP.seq (WP.block (WP.seq (WP.region (Vm rfl (Va rfl (WL.nil (tn (WP.seq (WP.region (Vm rfl (Vm rfl ?_)))))))))))))
   refine Vm rfl ?_
   obtain ⟨x1, e1, hm⟩ := bind_some hm
   obtain ⟨h2, h3, h4, cs1, h5, h6⟩ := h1.get e1 (by decide)
   obtain rfl : cs1 = [(mkS x1)] := h5
   refine V rfl (ov_indexAddr underlying27 sizeOf9 rfl rfl rfl h2 h3 h4) (V rfl (ov_load_elem (v := (mkS x1)) isAgg9 rfl rfl h6) ?_)
   refine ws rfl (os_inline (cap := []) (vs := [(mkS x1)]) call103 rfl rfl rfl func103 rfl 6 ntmps103 rfl (fun w' s => ?_))
   refine WP.seq (WP.region (Va rfl (WL.nil (tn (WP.seq (WP.region (Vm rfl (V rfl (ov_len_string underlying9 rfl rfl) (V rfl (ov_gtr rfl rfl rfl) (Va rfl (WL.nil (tn (WP.ret ?_)))))))))))))
   refine retQ_ret (v := (.bool (decide ((x1.length : Int) > 4096)))) results103 (Res.tmp rfl Res.nil) rfl (fun w' s => ⟨_, ?_, s⟩)
   refine WL.nil (tn ?_)
   refine WP.cond rfl (fun hc3 => ?_) (fun hc3 => ?_)
   ·
    replace hm := ite_t hc3 hm
    refine WP.seq (WP.region (Vm rfl (Va rfl (WL.nil (tn (WP.ret (block_ret (then_ret (then_ret (block_ret (then_ret ?_)))))))))))
    obtain rfl := Option.some.inj hm
    refine retQ_ret results126 (Res.tmp rfl Res.nil) rfl (fun w' s => ⟨s.below, ?_⟩)
    exact rfl
   replace hm := ite_f hc3 hm
   refine WP.skip (bn (tn (WP.region (V rfl (ov_add rfl rfl rfl) (Vm rfl (WL.nil (tn ?_)))))))
   exact ⟨(IntKind.wrap .i64 (i1 + 1)), (Sub.all rfl), fun w' s => s, hm⟩
  replace hm := ite_f hc2 hm
  refine WP.exit (then_exit (then_exit (block_here (tn ?_))))
  exact ⟨(Sub.all rfl), fun w' s => s, hm⟩
 rintro g' S' ⟨hsub2, hS2, hm⟩
 refine WP.sub hsub2 (WP.weaken hS2 ?_)
 replace hm := hk1.symm.trans hm
 refine WP.seq (WP.region (Va rfl (WL.nil (tn (WP.ret ?_)))))
 obtain rfl := Option.some.inj hm
 refine retQ_ret results126 (Res.tmp rfl Res.nil) rfl (fun w' s => ⟨s.below, ?_⟩)
 exact rfl
theorem slices_ContainsFunc_stringstring_diagram_given_1_con (p_s : (List (List UInt8))) (ao1 : Option Addr) (cap1 : Nat) (w : World) (H : Heap) (hH : Le H (hp w)) (h1 : SL H encStr ao1 p_s) (hc1 : p_s.length ≤ cap1) (hG : Glob H) (r : Bool) (hm : slices_ContainsFunc_stringstring_diagram_given_1 p_s = some r) :
  Con prog 102 [(.slice ao1 p_s.length cap1), (.func (.func 103) #[] #[])] w H (fun v _ => v = (.bool r)) := by
 unfold slices_ContainsFunc_stringstring_diagram_given_1 at hm
 refine con_of hH func102 rfl 9 ntmps102 rfl ?_
 refine WP.seq (WP.region (Va rfl (WL.nil (tn (WP.seq (WP.region (Vm rfl (Vm rfl ?_))))))))
 obtain ⟨r1, e1, hm⟩ := bind_some hm
 refine wo rfl (oq_con (r := (.int .i64 r1)) call126 rfl rfl (fun w' s => ⟨_, (slices_IndexFunc_stringstring_diagram_given_1_con p_s ao1 cap1  w' H s.hold h1 hc1 hG r1 e1)⟩)) ?_
 refine V rfl (ov_geq rfl rfl rfl) (Va rfl (WL.nil (tn (WP.ret ?_))))
 obtain rfl := Option.some.inj hm
 refine retQ_ret results102 (Res.tmp rfl Res.nil) rfl (fun w' s => ⟨s.below, ?_⟩)
 exact rfl
theorem slices_IndexFunc_api_Stepapi_Step_diagram_draw_1_con (p_s : (List Step)) (ao1 : Option Addr) (cap1 : Nat) (w : World) (H : Heap) (hH : Le H (hp w)) (h1 : SL H encStep ao1 p_s) (hc1 : p_s.length ≤ cap1) (hG : Glob H) (r : Int) (hm : slices_IndexFunc_api_Stepapi_Step_diagram_draw_1 p_s = some r) :
  Con prog 115 [(.slice ao1 p_s.length cap1), (.func (.func 81) #[] #[])] w H (fun v _ => v = (.int .i64 r)) := by
 unfold slices_IndexFunc_api_Stepapi_Step_diagram_draw_1 at hm
 refine con_of hH func115 rfl 19 ntmps115 rfl ?_
 refine WP.seq (WP.region (Va rfl (WL.nil (tn ?_))))
 obtain ⟨k1, hk1, hm⟩ := joinK_some hm
 refine WP.seq_join (fun g' S' => Sub [(1000000007, (.bool false))] g' ∧ (∀ w', S' w' → St w H [] H w') ∧ k1 = some r) ?_ ?_
 ·
  refine WP.seq (WP.region (Vm rfl (V rfl (ov_len_slice underlying22 rfl rfl) (Vm rfl (WL.nil (tn (WP.block ?_)))))))
  refine WP.loop (fun m1 g' S' => ∃ (i1 : Int), Sub [(0, (.slice ao1 p_s.length cap1)), (1, (.func (.func 81) #[] #[])), (7, (.int .i64 (p_s.length : Int))), (8, (.int .i64 i1)), (1000000007, (.bool false))] g' ∧ (∀ w', S' w' → St w H [] H w') ∧ slices_IndexFunc_api_Stepapi_Step_diagram_draw_1_loop1 p_s k1 m1 i1 = some r) ((Int.toNat ((p_s.length : Int) - 0) + 1)) ⟨0, (Sub.all rfl), fun w' s => s, hm⟩ ?_ ?_
  ·
   rintro g' S' ⟨_, _, _, hm⟩
   exact none_some hm
  rintro m1 g' S' ⟨i1, hsub1, hS1, hm⟩
  refine WP.sub hsub1 (WP.weaken hS1 ?_)
  rw [slices_IndexFunc_api_Stepapi_Step_diagram_draw_1_loop1] at hm
  refine WP.seq (WP.region (V rfl (ov_lss rfl rfl rfl) (WL.nil (tn (WP.seq ?_)))))
  refine WP.cond rfl (fun hc2 => ?_) (fun hc2 => ?_)
  ·
   replace hm := ite_t hc2 hm
   refine WP.skip (tn (WP.seq (WP.block (WP.seq (WP.region (Vm rfl (Va rfl (WL.nil (tn (WP.seq (WP.region (Vm rfl (Vm rfl ?_)))))))))))))
   refine Vm rfl ?_
   obtain ⟨x1, e1, hm⟩ := bind_some hm
   obtain ⟨h3, h4, h5, cs1, h6, h7⟩ := h1.get e1 (by decide)
   obtain ⟨ao2, cap2, rfl, h2, hc3⟩ := h6
   refine V rfl (ov_indexAddr underlying22 sizeOf45 rfl rfl rfl h3 h4 h5) (V rfl (ov_load_elems (vs := [(.slice ao2 x1.strokes.length cap2), (.int .i64 x1.wait)]) isAgg45 sizeOf45 rfl rfl rfl h7 h5) ?_)
   refine ws rfl (os_inline (cap := []) (vs := [(.agg #[(.slice ao2 x1.strokes.length cap2), (.int .i64 x1.wait)])]) call81 rfl rfl rfl func81 rfl 6 ntmps81 rfl (fun w' s => ?_))
   refine WP.seq (WP.region ?_)
   refine ws rfl (os_box (cs := [(.slice ao2 x1.strokes.length cap2), (.int .i64 x1.wait)]) rfl rfl rfl (fun b1 => ?_))
   refine Va rfl (WL.nil (tn (WP.seq (WP.region (V rfl (ov_fieldAddr underlying45 rfl rfl rfl sizeOf3 rfl rfl) (Vl 0 isAgg3 rfl (V rfl (ov_neq rfl rfl rfl) (Va rfl (WL.nil (tn (WP.ret ?_)))))))))))
   refine retQ_ret (v := (.bool (x1.wait != 0))) results81 (Res.tmp rfl Res.nil) rfl (fun w' s => ⟨_, ?_, s⟩)
   refine WL.nil (tn ?_)
   refine WP.cond rfl (fun hc4 => ?_) (fun hc4 => ?_)
   ·
    replace hm := ite_t hc4 hm
    refine WP.seq (WP.region (Vm rfl (Va rfl (WL.nil (tn (WP.ret (block_ret (then_ret (then_ret (block_ret (then_ret ?_)))))))))))
    obtain rfl := Option.some.inj hm
    refine retQ_ret results115 (Res.tmp rfl Res.nil) rfl (fun w' s => ⟨s.below, ?_⟩)
    exact rfl
   replace hm := ite_f hc4 hm
   refine WP.skip (bn (tn (WP.region (V rfl (ov_add rfl rfl rfl) (Vm rfl (WL.nil (tn ?_)))))))
   exact ⟨(IntKind.wrap .i64 (i1 + 1)), (Sub.all rfl), fun w' s => (s.sl []), hm⟩
  replace hm := ite_f hc2 hm
  refine WP.exit (then_exit (then_exit (block_here (tn ?_))))
  exact ⟨(Sub.all rfl), fun w' s => s, hm⟩
 rintro g' S' ⟨hsub2, hS2, hm⟩
 refine WP.sub hsub2 (WP.weaken hS2 ?_)
 replace hm := hk1.symm.trans hm
 refine WP.seq (WP.region (Va rfl (WL.nil (tn (WP.ret ?_)))))
 obtain rfl := Option.some.inj hm
 refine retQ_ret results115 (Res.tmp rfl Res.nil) rfl (fun w' s => ⟨s.below, ?_⟩)
 exact rfl
theorem slices_ContainsFunc_api_Stepapi_Step_diagram_draw_1_con (p_s : (List Step)) (ao1 : Option Addr) (cap1 : Nat) (w : World) (H : Heap) (hH : Le H (hp w)) (h1 : SL H encStep ao1 p_s) (hc1 : p_s.length ≤ cap1) (hG : Glob H) (r : Bool) (hm : slices_ContainsFunc_api_Stepapi_Step_diagram_draw_1 p_s = some r) :
  Con prog 80 [(.slice ao1 p_s.length cap1), (.func (.func 81) #[] #[])] w H (fun v _ => v = (.bool r)) := by
 unfold slices_ContainsFunc_api_Stepapi_Step_diagram_draw_1 at hm
 refine con_of hH func80 rfl 9 ntmps80 rfl ?_
 refine WP.seq (WP.region (Va rfl (WL.nil (tn (WP.seq (WP.region (Vm rfl (Vm rfl ?_))))))))
 obtain ⟨r1, e1, hm⟩ := bind_some hm
 refine wo rfl (oq_con (r := (.int .i64 r1)) call115 rfl rfl (fun w' s => ⟨_, (slices_IndexFunc_api_Stepapi_Step_diagram_draw_1_con p_s ao1 cap1  w' H s.hold h1 hc1 hG r1 e1)⟩)) ?_
 refine V rfl (ov_geq rfl rfl rfl) (Va rfl (WL.nil (tn (WP.ret ?_))))
 obtain rfl := Option.some.inj hm
 refine retQ_ret results80 (Res.tmp rfl Res.nil) rfl (fun w' s => ⟨s.below, ?_⟩)
 exact rfl
theorem sequence_ends_behind_con (p_x : Ends6) (p_s : Step) (ao1 : Option Addr) (cap1 : Nat) (w : World) (H : Heap) (hH : Le H (hp w)) (h1 : SL H encStroke ao1 p_s.strokes) (hc1 : p_s.strokes.length ≤ cap1) (hG : Glob H) (r : Ends6) (hm : sequence_ends_behind p_x p_s = some r) :
  Con prog 78 [(.agg #[(.bool p_x.a0), (.bool p_x.a1), (.bool p_x.a2), (.bool p_x.a3), (.bool p_x.a4), (.bool p_x.a5)]), (.agg #[(.slice ao1 p_s.strokes.length cap1), (.int .i64 p_s.wait)])] w H (fun v _ => v = (.agg #[(.bool r.a0), (.bool r.a1), (.bool r.a2), (.bool r.a3), (.bool r.a4), (.bool r.a5)])) := by
 unfold sequence_ends_behind at hm
 refine con_of hH func78 rfl 21 ntmps78 rfl ?_
 refine WP.seq (WP.region ?_)
 refine ws rfl (os_box (cs := [(.bool p_x.a0), (.bool p_x.a1), (.bool p_x.a2), (.bool p_x.a3), (.bool p_x.a4), (.bool p_x.a5)]) rfl rfl rfl (fun b1 => ?_))
 refine ws rfl (os_box (cs := [(.slice ao1 p_s.strokes.length cap1), (.int .i64 p_s.wait)]) rfl rfl rfl (fun b2 => ?_))
 refine ws rfl (os_alloc (cs := [(.bool false), (.bool false), (.bool false), (.bool false), (.bool false), (.bool false)]) zeroValue101 rfl rfl (fun b3 => ?_))
 refine WL.nil (tn ?_)
 obtain ⟨k1, hk1, hm⟩ := joinK_some hm
 refine WP.seq_join (fun g' S' => ∃ (c7 : Bool) (c8 : Bool) (c9 : Bool) (c10 : Bool) (c11 : Bool) (c12 : Bool), Sub [(2, (pB b1 0)), (4, (pB b3 0)), (1000000007, (.bool false))] g' ∧ (∀ w', S' w' → St w H [.blk b3 101 [(.bool false), (.bool false), (.bool false), (.bool false), (.bool false), (.bool false)], .blk b1 101 [(.bool c7), (.bool c8), (.bool c9), (.bool c10), (.bool c11), (.bool c12)]] H w') ∧ k1 c7 c8 c9 c10 c11 c12 = some r) ?_ ?_
 ·
  refine WP.seq (WP.region (V rfl (ov_fieldAddr underlying45 rfl rfl rfl sizeOf43 rfl rfl) (Vl 1 isAgg43 rfl (V rfl (ov_len_slice underlying43 rfl rfl) (Vm rfl (WL.nil (tn (WP.block ?_))))))))
  refine WP.loop (fun m1 g' S' => ∃ (i1 : Int) (c1 : Bool) (c2 : Bool) (c3 : Bool) (c4 : Bool) (c5 : Bool) (c6 : Bool), Sub [(2, (pB b1 0)), (4, (pB b3 0)), (8, (.slice ao1 p_s.strokes.length cap1)), (9, (.int .i64 (p_s.strokes.length : Int))), (10, (.int .i64 i1)), (1000000007, (.bool false))] g' ∧ (∀ w', S' w' → St w H [.blk b3 101 [(.bool false), (.bool false), (.bool false), (.bool false), (.bool false), (.bool false)], .blk b1 101 [(.bool c1), (.bool c2), (.bool c3), (.bool c4), (.bool c5), (.bool c6)]] H w') ∧ sequence_ends_behind_loop1 p_s k1 m1 i1 c1 c2 c3 c4 c5 c6 = some r) ((Int.toNat ((p_s.strokes.length : Int) - 0) + 1)) ⟨0, p_x.a0, p_x.a1, p_x.a2, p_x.a3, p_x.a4, p_x.a5, (Sub.all rfl), fun w' s => (s.sl [0, 2]), hm⟩ ?_ ?_
  ·
   rintro g' S' ⟨_, _, _, _, _, _, _, _, _, hm⟩
   exact none_some hm
  rintro m1 g' S' ⟨i1, c1, c2, c3, c4, c5, c6, hsub1, hS1, hm⟩
  refine WP.sub hsub1 (WP.weaken hS1 ?_)
  rw [sequence_ends_behind_loop1] at hm
  refine WP.seq (WP.region (V rfl (ov_lss rfl rfl rfl) (WL.nil (tn (WP.seq ?_)))))
  refine WP.cond rfl (fun hc2 => ?_) (fun hc2 => ?_)
  ·
   replace hm := ite_t hc2 hm
   refine WP.skip (tn (WP.seq (WP.block (WP.seq (WP.region ?_)))))
   obtain ⟨x1, e1, hm⟩ := bind_some hm
   obtain ⟨h2, h3, h4, cs1, h5, h6⟩ := h1.get e1 (by decide)
   obtain rfl : cs1 = [(.int .i64 x1.actuator), (.bool x1.out)] := h5
   refine V rfl (ov_indexAddr underlying43 sizeOf48 rfl rfl rfl h2 h3 h4) (V rfl (ov_load_elems (vs := [(.int .i64 x1.actuator), (.bool x1.out)]) isAgg48 sizeOf48 rfl rfl rfl h6 h4) ?_)
   refine ws rfl (os_alloc (cs := [(.int .i64 0), (.bool false)]) zeroValue48 rfl rfl (fun b4 => ?_))
   refine ws0 rfl (os_store (i := 0) (vs := [(.int .i64 x1.actuator), (.bool x1.out)]) (cs' := [(.int .i64 x1.actuator), (.bool x1.out)]) sizeOf48 rfl rfl rfl rfl rfl rfl rfl rfl rfl ?_)
   refine WL.nil (tn (WP.region (V rfl (ov_fieldAddr underlying48 rfl rfl rfl sizeOf3 rfl rfl) (Vl 0 isAgg3 rfl (V rfl (ov_fieldAddr underlying48 rfl rfl rfl sizeOf4 rfl rfl) (Vl 0 isAgg4 rfl ?_))))))
   rcases Bool.eq_false_or_eq_true (x1.actuator == 0) with hc3 | hc3
   ·
    replace hm := ite_t hc3 hm
    refine V rfl (ov_indexAddr_at (j := 0) underlying101 sizeOf4 rfl rfl rfl (eq_of_beq hc3) rfl) ?_
    refine ws0 rfl (os_store (i := 2) (vs := [(.bool x1.out)]) (cs' := [(.bool x1.out), (.bool c2), (.bool c3), (.bool c4), (.bool c5), (.bool c6)]) sizeOf4 rfl rfl rfl rfl rfl rfl rfl rfl rfl ?_)
    refine WL.nil (bn (tn (WP.region (V rfl (ov_add rfl rfl rfl) (Vm rfl (WL.nil (tn ?_)))))))
    exact ⟨(IntKind.wrap .i64 (i1 + 1)), x1.out, c2, c3, c4, c5, c6, (Sub.all rfl), fun w' s => (s.sl [1, 2]), hm⟩
   replace hm := ite_f hc3 hm
   rcases Bool.eq_false_or_eq_true (x1.actuator == 1) with hc4 | hc4
   ·
    replace hm := ite_t hc4 hm
    refine V rfl (ov_indexAddr_at (j := 1) underlying101 sizeOf4 rfl rfl rfl (eq_of_beq hc4) rfl) ?_
    refine ws0 rfl (os_store (i := 2) (vs := [(.bool x1.out)]) (cs' := [(.bool c1), (.bool x1.out), (.bool c3), (.bool c4), (.bool c5), (.bool c6)]) sizeOf4 rfl rfl rfl rfl rfl rfl rfl rfl rfl ?_)
    refine WL.nil (bn (tn (WP.region (V rfl (ov_add rfl rfl rfl) (Vm rfl (WL.nil (tn ?_)))))))
    exact ⟨(IntKind.wrap .i64 (i1 + 1)), c1, x1.out, c3, c4, c5, c6, (Sub.all rfl), fun w' s => (s.sl [1, 2]), hm⟩
   replace hm := ite_f hc4 hm
   rcases Bool.eq_false_or_eq_true (x1.actuator == 2) with hc5 | hc5
   ·
    replace hm := ite_t hc5 hm
    refine V rfl (ov_indexAddr_at (j := 2) underlying101 sizeOf4 rfl rfl rfl (eq_of_beq hc5) rfl) ?_
    refine ws0 rfl (os_store (i := 2) (vs := [(.bool x1.out)]) (cs' := [(.bool c1), (.bool c2), (.bool x1.out), (.bool c4), (.bool c5), (.bool c6)]) sizeOf4 rfl rfl rfl rfl rfl rfl rfl rfl rfl ?_)
    refine WL.nil (bn (tn (WP.region (V rfl (ov_add rfl rfl rfl) (Vm rfl (WL.nil (tn ?_)))))))
    exact ⟨(IntKind.wrap .i64 (i1 + 1)), c1, c2, x1.out, c4, c5, c6, (Sub.all rfl), fun w' s => (s.sl [1, 2]), hm⟩
   replace hm := ite_f hc5 hm
   rcases Bool.eq_false_or_eq_true (x1.actuator == 3) with hc6 | hc6
   ·
    replace hm := ite_t hc6 hm
    refine V rfl (ov_indexAddr_at (j := 3) underlying101 sizeOf4 rfl rfl rfl (eq_of_beq hc6) rfl) ?_
    refine ws0 rfl (os_store (i := 2) (vs := [(.bool x1.out)]) (cs' := [(.bool c1), (.bool c2), (.bool c3), (.bool x1.out), (.bool c5), (.bool c6)]) sizeOf4 rfl rfl rfl rfl rfl rfl rfl rfl rfl ?_)
    refine WL.nil (bn (tn (WP.region (V rfl (ov_add rfl rfl rfl) (Vm rfl (WL.nil (tn ?_)))))))
    exact ⟨(IntKind.wrap .i64 (i1 + 1)), c1, c2, c3, x1.out, c5, c6, (Sub.all rfl), fun w' s => (s.sl [1, 2]), hm⟩
   replace hm := ite_f hc6 hm
   rcases Bool.eq_false_or_eq_true (x1.actuator == 4) with hc7 | hc7
   ·
    replace hm := ite_t hc7 hm
    refine V rfl (ov_indexAddr_at (j := 4) underlying101 sizeOf4 rfl rfl rfl (eq_of_beq hc7) rfl) ?_
    refine ws0 rfl (os_store (i := 2) (vs := [(.bool x1.out)]) (cs' := [(.bool c1), (.bool c2), (.bool c3), (.bool c4), (.bool x1.out), (.bool c6)]) sizeOf4 rfl rfl rfl rfl rfl rfl rfl rfl rfl ?_)
    refine WL.nil (bn (tn (WP.region (V rfl (ov_add rfl rfl rfl) (Vm rfl (WL.nil (tn ?_)))))))
    exact ⟨(IntKind.wrap .i64 (i1 + 1)), c1, c2, c3, c4, x1.out, c6, (Sub.all rfl), fun w' s => (s.sl [1, 2]), hm⟩
   replace hm := ite_f hc7 hm
   rcases Bool.eq_false_or_eq_true (x1.actuator == 5) with hc8 | hc8
   ·
    replace hm := ite_t hc8 hm
    refine V rfl (ov_indexAddr_at (j := 5) underlying101 sizeOf4 rfl rfl rfl (eq_of_beq hc8) rfl) ?_
    refine ws0 rfl (os_store (i := 2) (vs := [(.bool x1.out)]) (cs' := [(.bool c1), (.bool c2), (.bool c3), (.bool c4), (.bool c5), (.bool x1.out)]) sizeOf4 rfl rfl rfl rfl rfl rfl rfl rfl rfl ?_)
    refine WL.nil (bn (tn (WP.region (V rfl (ov_add rfl rfl rfl) (Vm rfl (WL.nil (tn ?_)))))))
    exact ⟨(IntKind.wrap .i64 (i1 + 1)), c1, c2, c3, c4, c5, x1.out, (Sub.all rfl), fun w' s => (s.sl [1, 2]), hm⟩
   replace hm := ite_f hc8 hm
   exact (none_some hm).elim
  replace hm := ite_f hc2 hm
  refine WP.exit (then_exit (then_exit (block_here (tn ?_))))
  exact ⟨c1, c2, c3, c4, c5, c6, (Sub.all rfl), fun w' s => s, hm⟩
 rintro g' S' ⟨c7, c8, c9, c10, c11, c12, hsub2, hS2, hm⟩
 refine WP.sub hsub2 (WP.weaken hS2 ?_)
 replace hm := (congrFun (congrFun (congrFun (congrFun (congrFun (congrFun hk1 c7) c8) c9) c10) c11) c12).symm.trans hm
 refine WP.seq (WP.region (V rfl (ov_load_whole (i := 1) isAgg101 sizeOf101 rfl rfl rfl rfl) ?_))
 refine ws0 rfl (os_store (i := 0) (vs := [(.bool c7), (.bool c8), (.bool c9), (.bool c10), (.bool c11), (.bool c12)]) (cs' := [(.bool c7), (.bool c8), (.bool c9), (.bool c10), (.bool c11), (.bool c12)]) sizeOf101 rfl rfl rfl rfl rfl rfl rfl rfl rfl ?_)
 refine WL.nil (tn (WP.ret ?_))
 obtain rfl := Option.some.inj hm
 refine retQ_ret results78 (Res.cell rfl (box_loads (i := 0) isAgg101 sizeOf101 rfl rfl) Res.nil) rfl (fun w' s => ⟨s.below, ?_⟩)
 exact rfl
theorem ref13_SameStrokes_con (p_a : (List Stroke)) (p_b : (List Stroke)) (ao1 : Option Addr) (cap1 : Nat) (ao2 : Option Addr) (cap2 : Nat) (w : World) (H : Heap) (hH : Le H (hp w)) (h1 : SL H encStroke ao1 p_a) (hc1 : p_a.length ≤ cap1) (h2 : SL H encStroke ao2 p_b) (hc2 : p_b.length ≤ cap2) (hG : Glob H) (r : Bool) (hm : ref13_SameStrokes p_a p_b = some r) :
  Con prog 132 [(.slice ao1 p_a.length cap1), (.slice ao2 p_b.length cap2)] w H (fun v _ => v = (.bool r)) := by
 unfold ref13_SameStrokes at hm
 refine con_of hH func132 rfl 26 ntmps132 rfl ?_
 refine WP.seq (WP.region (Va rfl (WL.nil (tn (WP.seq (WP.seq (WP.region (Vm rfl (V rfl (ov_len_slice underlying43 rfl rfl) (Vm rfl (V rfl (ov_len_slice underlying43 rfl rfl) (V rfl (ov_neq rfl rfl rfl) (WL.nil ?_)))))))))))))
 refine tn ?_
 refine WP.cond rfl (fun hc3 => ?_) (fun hc3 => ?_)
 ·
  replace hm := ite_t hc3 hm
  refine WP.seq (WP.region (Va rfl (WL.nil (tn (WP.ret (then_ret ?_))))))
  obtain rfl := Option.some.inj hm
  refine retQ_ret results132 (Res.tmp rfl Res.nil) rfl (fun w' s => ⟨s.below, ?_⟩)
  exact rfl
 replace hm := ite_f hc3 hm
 refine WP.skip (tn ?_)
 obtain ⟨k1, hk1, hm⟩ := joinK_some hm
 refine WP.seq_join (fun g' S' => Sub [(1000000007, (.bool false))] g' ∧ (∀ w', S' w' → St w H [] H w') ∧ k1 = some r) ?_ ?_
 ·
  refine WP.seq (WP.region (Va rfl (WL.nil (tn (WP.block ?_)))))
  refine WP.loop (fun m1 g' S' => ∃ (i1 : Int), Sub [(0, (.slice ao1 p_a.length cap1)), (1, (.slice ao2 p_b.length cap2)), (5, (.int .i64 i1)), (1000000007, (.bool false))] g' ∧ (∀ w', S' w' → St w H [] H w') ∧ ref13_SameStrokes_loop1 p_a p_b k1 m1 i1 = some r) ((Int.toNat ((p_a.length : Int) - 0) + 1)) ⟨0, (Sub.all rfl), fun w' s => s, hm⟩ ?_ ?_
  ·
   rintro g' S' ⟨_, _, _, hm⟩
   exact none_some hm
  rintro m1 g' S' ⟨i1, hsub1, hS1, hm⟩
  refine WP.sub hsub1 (WP.weaken hS1 ?_)
  rw [ref13_SameStrokes_loop1] at hm
  refine WP.seq (WP.seq (WP.region (Vm rfl (Vm rfl (V rfl (ov_len_slice underlying43 rfl rfl) (V rfl (ov_lss rfl rfl rfl) (WL.nil (tn ?_))))))))
  refine WP.cond rfl (fun hc4 => ?_) (fun hc4 => ?_)
  ·
   replace hm := ite_t hc4 hm
   refine WP.skip (tn (WP.seq (WP.block (WP.seq ?_))))
   refine WP.region_draws (by kernel_rfl) (by kernel_rfl) (fun _ s => s.drew) ?_
   refine qf rfl (ov_move rfl rfl) ?_
   refine qf rfl (ov_move rfl rfl) ?_
   obtain ⟨x1, e1, hm⟩ := bind_some hm
   obtain ⟨h3, h4, h5, cs1, h6, h7⟩ := h1.get e1 (by decide)
   obtain rfl : cs1 = [(.int .i64 x1.actuator), (.bool x1.out)] := h6
   refine qf rfl (ov_indexAddr underlying43 sizeOf48 rfl rfl rfl h3 h4 h5) ?_
   refine qf rfl (ov_load_elems (vs := [(.int .i64 x1.actuator), (.bool x1.out)]) isAgg48 sizeOf48 rfl rfl rfl h7 h5) ?_
   refine qf rfl (ov_move rfl rfl) ?_
   refine qf rfl (ov_move rfl rfl) ?_
   obtain ⟨x2, e2, hm⟩ := bind_some hm
   obtain ⟨h8, h9, h10, cs2, h11, h12⟩ := h2.get e2 (by decide)
   obtain rfl : cs2 = [(.int .i64 x2.actuator), (.bool x2.out)] := h11
   refine qf rfl (ov_indexAddr underlying43 sizeOf48 rfl rfl rfl h8 h9 h10) ?_
   refine qf rfl (ov_load_elems (vs := [(.int .i64 x2.actuator), (.bool x2.out)]) isAgg48 sizeOf48 rfl rfl rfl h12 h10) ?_
   refine qf rfl (neq_struct48 (a := x1) (b := x2) rfl rfl rfl) ?_
   refine QL.nil ?_
   refine tn ?_
   refine WP.cond rfl (fun hc5 => ?_) (fun hc5 => ?_)
   ·
    replace hm := ite_t hc5 hm
    refine WP.seq (WP.region (Va rfl (WL.nil (tn (WP.ret (block_ret (then_ret (then_ret (block_ret (then_ret ?_))))))))))
    obtain rfl := Option.some.inj hm
    refine retQ_ret results132 (Res.tmp rfl Res.nil) rfl (fun w' s => ⟨s.below, ?_⟩)
    exact rfl
   replace hm := ite_f hc5 hm
   refine WP.skip (bn (tn (WP.region (Vm rfl (V rfl (ov_add rfl rfl rfl) (Va rfl (WL.nil (tn ?_))))))))
   exact ⟨(IntKind.wrap .i64 (i1 + 1)), (Sub.all rfl), fun w' s => s, hm⟩
  replace hm := ite_f hc4 hm
  refine WP.exit (then_exit (then_exit (block_here (tn ?_))))
  exact ⟨(Sub.all rfl), fun w' s => s, hm⟩
 rintro g' S' ⟨hsub2, hS2, hm⟩
 refine WP.sub hsub2 (WP.weaken hS2 ?_)
 replace hm := hk1.symm.trans hm
 refine WP.seq (WP.region (Va rfl (WL.nil (tn (WP.ret ?_)))))
 obtain rfl := Option.some.inj hm
 refine retQ_ret results132 (Res.tmp rfl Res.nil) rfl (fun w' s => ⟨s.below, ?_⟩)
 exact rfl
theorem ref13_Same_con (p_a : Step) (p_b : Step) (ao1 : Option Addr) (cap1 : Nat) (ao2 : Option Addr) (cap2 : Nat) (w : World) (H : Heap) (hH : Le H (hp w)) (h1 : SL H encStroke ao1 p_a.strokes) (hc1 : p_a.strokes.length ≤ cap1) (h2 : SL H encStroke ao2 p_b.strokes) (hc2 : p_b.strokes.length ≤ cap2) (hG : Glob H) (r : Bool) (hm : ref13_Same p_a p_b = some r) :
  Con prog 110 [(.agg #[(.slice ao1 p_a.strokes.length cap1), (.int .i64 p_a.wait)]), (.agg #[(.slice ao2 p_b.strokes.length cap2), (.int .i64 p_b.wait)])] w H (fun v _ => v = (.bool r)) := by
 unfold ref13_Same at hm
 refine con_of hH func110 rfl 17 ntmps110 rfl ?_
 refine WP.seq (WP.region ?_)
 refine ws rfl (os_box (cs := [(.slice ao1 p_a.strokes.length cap1), (.int .i64 p_a.wait)]) rfl rfl rfl (fun b1 => ?_))
 refine ws rfl (os_box (cs := [(.slice ao2 p_b.strokes.length cap2), (.int .i64 p_b.wait)]) rfl rfl rfl (fun b2 => ?_))
 refine Va rfl (WL.nil (tn (WP.seq (WP.region (V rfl (ov_fieldAddr underlying45 rfl rfl rfl sizeOf3 rfl rfl) (Vl 1 isAgg3 rfl (V rfl (ov_fieldAddr underlying45 rfl rfl rfl sizeOf3 rfl rfl) (Vl 0 isAgg3 rfl (V rfl (ov_eql rfl rfl rfl) (Vm rfl ?_))))))))))
 obtain ⟨c1, e1, hm⟩ := bind_some hm
 refine WL.cut_bool 6 16 (x := c1) ?_ ?_
 ·
  rcases Bool.eq_false_or_eq_true (p_a.wait == p_b.wait) with hc3 | hc3
  ·
   replace hm := ite_t hc3 e1
   refine wy hc3 rfl (ov_fieldAddr underlying45 rfl rfl rfl sizeOf43 rfl rfl) ?_
   refine wy hc3 rfl (ov_load_box (i := 1) isAgg43 rfl rfl rfl rfl) ?_
   refine wy hc3 rfl (ov_fieldAddr underlying45 rfl rfl rfl sizeOf43 rfl rfl) ?_
   refine wy hc3 rfl (ov_load_box (i := 0) isAgg43 rfl rfl rfl rfl) ?_
   obtain ⟨r1, e2, hm⟩ := bind_some hm
   refine WL.quiet (Runs.yes rfl rfl rfl hc3) rfl rfl (oq_con (r := (.bool r1)) call132 rfl rfl (fun w' s => ⟨_, (ref13_SameStrokes_con p_a.strokes p_b.strokes ao1 cap1 ao2 cap2  w' H s.hold h1 hc1 h2 hc2 hG r1 e2)⟩)) ?_
   refine V rfl (ov_pick_true rfl (guard_eq rfl hc3) rfl) ?_
   exact WL.nil ⟨Sub.cons' rfl (congrArg Value.bool (Option.some.inj hm)) (Sub.dropn 6 rfl), fun _ s => s⟩
  replace hm := ite_f hc3 e1
  refine Vi rfl (Idle.no rfl rfl rfl hc3) (Vi rfl (Idle.no rfl rfl rfl hc3) (Vi rfl (Idle.no rfl rfl rfl hc3) (Vi rfl (Idle.no rfl rfl rfl hc3) (Vi rfl (Idle.no rfl rfl rfl hc3) (V rfl (ov_pick_false rfl (guard_eq rfl hc3) rfl) ?_)))))
  exact WL.nil ⟨Sub.cons' rfl (congrArg Value.bool (Option.some.inj hm)) (Sub.dropn 6 rfl), fun _ s => s⟩
 refine Va rfl (WL.nil (tn (WP.ret ?_)))
 obtain rfl := Option.some.inj hm
 refine retQ_ret results110 (Res.tmp rfl Res.nil) rfl (fun w' s => ⟨s.below, ?_⟩)
 exact rfl
theorem ref13_SameSteps_con (p_a : (List Step)) (p_b : (List Step)) (ao1 : Option Addr) (cap1 : Nat) (ao2 : Option Addr) (cap2 : Nat) (w : World) (H : Heap) (hH : Le H (hp w)) (h1 : SL H encStep ao1 p_a) (hc1 : p_a.length ≤ cap1) (h2 : SL H encStep ao2 p_b) (hc2 : p_b.length ≤ cap2) (hG : Glob H) (r : Bool) (hm : ref13_SameSteps p_a p_b = some r) :
  Con prog 74 [(.slice ao1 p_a.length cap1), (.slice ao2 p_b.length cap2)] w H (fun v _ => v = (.bool r)) := by
 unfold ref13_SameSteps at hm
 refine con_of hH func74 rfl 27 ntmps74 rfl ?_
 refine WP.seq (WP.region (Va rfl (WL.nil (tn (WP.seq (WP.seq (WP.region (Vm rfl (V rfl (ov_len_slice underlying22 rfl rfl) (Vm rfl (V rfl (ov_len_slice underlying22 rfl rfl) (V rfl (ov_neq rfl rfl rfl) (WL.nil ?_)))))))))))))
 refine tn ?_
 refine WP.cond rfl (fun hc3 => ?_) (fun hc3 => ?_)
 ·
  replace hm := ite_t hc3 hm
  refine WP.seq (WP.region (Va rfl (WL.nil (tn (WP.ret (then_ret ?_))))))
  obtain rfl := Option.some.inj hm
  refine retQ_ret results74 (Res.tmp rfl Res.nil) rfl (fun w' s => ⟨s.below, ?_⟩)
  exact rfl
 replace hm := ite_f hc3 hm
 refine WP.skip (tn ?_)
 obtain ⟨k1, hk1, hm⟩ := joinK_some hm
 refine WP.seq_join (fun g' S' => Sub [(1000000007, (.bool false))] g' ∧ (∀ w', S' w' → St w H [] H w') ∧ k1 = some r) ?_ ?_
 ·
  refine WP.seq (WP.region (Va rfl (WL.nil (tn (WP.block ?_)))))
  refine WP.loop (fun m1 g' S' => ∃ (i1 : Int), Sub [(0, (.slice ao1 p_a.length cap1)), (1, (.slice ao2 p_b.length cap2)), (5, (.int .i64 i1)), (1000000007, (.bool false))] g' ∧ (∀ w', S' w' → St w H [] H w') ∧ ref13_SameSteps_loop1 p_a p_b k1 m1 i1 = some r) ((Int.toNat ((p_a.length : Int) - 0) + 1)) ⟨0, (Sub.all rfl), fun w' s => s, hm⟩ ?_ ?_
  ·
   rintro g' S' ⟨_, _, _, hm⟩
   exact none_some hm
  rintro m1 g' S' ⟨i1, hsub1, hS1, hm⟩
  refine WP.sub hsub1 (WP.weaken hS1 ?_)
  rw [ref13_SameSteps_loop1] at hm
  refine WP.seq (WP.seq (WP.region (Vm rfl (Vm rfl (V rfl (ov_len_slice underlying22 rfl rfl) (V rfl (ov_lss rfl rfl rfl) (WL.nil (tn ?_))))))))
  refine WP.cond rfl (fun hc4 => ?_) (fun hc4 => ?_)
  ·
   replace hm := ite_t hc4 hm
   refine WP.skip (tn (WP.seq (WP.block (WP.seq ?_))))
   refine WP.region_draws (by kernel_rfl) (by kernel_rfl) (fun _ s => s.drew) ?_
   refine qf rfl (ov_move rfl rfl) ?_
   refine qf rfl (ov_move rfl rfl) ?_
   obtain ⟨x1, e1, hm⟩ := bind_some hm
   obtain ⟨h4, h5, h6, cs1, h7, h8⟩ := h1.get e1 (by decide)
   obtain ⟨ao3, cap3, rfl, h3, hc5⟩ := h7
   refine qf rfl (ov_indexAddr underlying22 sizeOf45 rfl rfl rfl h4 h5 h6) ?_
   refine qf rfl (ov_load_elems (vs := [(.slice ao3 x1.strokes.length cap3), (.int .i64 x1.wait)]) isAgg45 sizeOf45 rfl rfl rfl h8 h6) ?_
   refine qf rfl (ov_move rfl rfl) ?_
   refine qf rfl (ov_move rfl rfl) ?_
   obtain ⟨x2, e2, hm⟩ := bind_some hm
   obtain ⟨h10, h11, h12, cs2, h13, h14⟩ := h2.get e2 (by decide)
   obtain ⟨ao4, cap4, rfl, h9, hc6⟩ := h13
   refine qf rfl (ov_indexAddr underlying22 sizeOf45 rfl rfl rfl h10 h11 h12) ?_
   refine qf rfl (ov_load_elems (vs := [(.slice ao4 x2.strokes.length cap4), (.int .i64 x2.wait)]) isAgg45 sizeOf45 rfl rfl rfl h14 h12) ?_
   obtain ⟨r1, e3, hm⟩ := bind_some hm
   refine QL.quiet (Runs.free rfl) rfl rfl (oq_con (r := (.bool r1)) call110 rfl rfl (fun w' s => ⟨_, (ref13_Same_con x1 x2 ao3 cap3 ao4 cap4  w' H s.hold h3 hc5 h9 hc6 hG r1 e3)⟩)) ?_
   refine qf rfl (ov_not rfl rfl) ?_
   refine QL.nil ?_
   refine tn ?_
   refine WP.cond rfl (fun hc7 => ?_) (fun hc7 => ?_)
   ·
    replace hm := ite_t hc7 hm
    refine WP.seq (WP.region (Va rfl (WL.nil (tn (WP.ret (block_ret (then_ret (then_ret (block_ret (then_ret ?_))))))))))
    obtain rfl := Option.some.inj hm
    refine retQ_ret results74 (Res.tmp rfl Res.nil) rfl (fun w' s => ⟨s.below, ?_⟩)
    exact rfl
   replace hm := ite_f hc7 hm
   refine WP.skip (bn (tn (WP.region (Vm rfl (V rfl (ov_add rfl rfl rfl) (Va rfl (WL.nil (tn ?_))))))))
   exact ⟨(IntKind.wrap .i64 (i1 + 1)), (Sub.all rfl), fun w' s => s, hm⟩
  replace hm := ite_f hc4 hm
  refine WP.exit (then_exit (then_exit (block_here (tn ?_))))
  exact ⟨(Sub.all rfl), fun w' s => s, hm⟩
 rintro g' S' ⟨hsub2, hS2, hm⟩
 refine WP.sub hsub2 (WP.weaken hS2 ?_)
 replace hm := hk1.symm.trans hm
 refine WP.seq (WP.region (Va rfl (WL.nil (tn (WP.ret ?_)))))
 obtain rfl := Option.some.inj hm
 refine retQ_ret results74 (Res.tmp rfl Res.nil) rfl (fun w' s => ⟨s.below, ?_⟩)
 exact rfl
theorem stroke_known_con (p_n : Int) (w : World) (H : Heap) (hH : Le H (hp w)) (hG : Glob H) (r : Bool) (hm : stroke_known p_n = some r) :
  Con prog 135 [(.int .i64 p_n)] w H (fun v _ => v = (.bool r)) := by
 unfold stroke_known at hm
 refine con_of hH func135 rfl 9 ntmps135 rfl ?_
 refine WP.seq (WP.region (Va rfl (WL.nil (tn (WP.seq (WP.region (Vm rfl (V rfl (ov_geq rfl rfl rfl) (Vm rfl ?_)))))))))
 refine WL.cut_bool 3 8 (x := ((decide (p_n ≥ 0)) && (decide (p_n < 6)))) ?_ ?_
 ·
  rcases Bool.eq_false_or_eq_true (decide (p_n ≥ 0)) with hc1 | hc1
  ·
   refine wy hc1 rfl (ov_move rfl rfl) ?_
   refine wy hc1 rfl (ov_lss rfl rfl rfl) ?_
   refine V rfl (ov_pick_true rfl (guard_eq rfl hc1) rfl) ?_
   exact WL.nil ⟨Sub.cons' rfl (congrArg Value.bool (andT hc1)) (Sub.dropn 3 rfl), fun _ s => s⟩
  refine Vi rfl (Idle.no rfl rfl rfl hc1) (Vi rfl (Idle.no rfl rfl rfl hc1) (V rfl (ov_pick_false rfl (guard_eq rfl hc1) rfl) ?_))
  exact WL.nil ⟨Sub.cons' rfl (congrArg Value.bool (andF hc1)) (Sub.dropn 3 rfl), fun _ s => s⟩
 refine Va rfl (WL.nil (tn (WP.ret ?_)))
 obtain rfl := Option.some.inj hm
 refine retQ_ret results135 (Res.tmp rfl Res.nil) rfl (fun w' s => ⟨s.below, ?_⟩)
 exact rfl
theorem stroke_CheckStep_con (p_x : Step) (ao1 : Option Addr) (cap1 : Nat) (w : World) (H : Heap) (hH : Le H (hp w)) (h1 : SL H encStroke ao1 p_x.strokes) (hc1 : p_x.strokes.length ≤ cap1) (hG : Glob H) (r : Int) (hm : stroke_CheckStep p_x = some r) :
  Con prog 113 [(.agg #[(.slice ao1 p_x.strokes.length cap1), (.int .i64 p_x.wait)])] w H (fun v _ => v = (.int .i64 r)) := by
 unfold stroke_CheckStep at hm
 refine con_of hH func113 rfl 49 ntmps113 rfl ?_
 refine WP.seq (WP.region ?_)
 refine ws rfl (os_box (cs := [(.slice ao1 p_x.strokes.length cap1), (.int .i64 p_x.wait)]) rfl rfl rfl (fun b1 => ?_))
 refine Va rfl (WL.nil (tn (WP.seq (WP.seq (WP.region (V rfl (ov_fieldAddr underlying45 rfl rfl rfl sizeOf43 rfl rfl) (Vl 0 isAgg43 rfl (V rfl (ov_len_slice underlying43 rfl rfl) (Va rfl (WL.nil (tn (WP.block (WP.seq ?_)))))))))))))
 refine WP.region (Vm rfl (V rfl (ov_eql rfl rfl rfl) (Va rfl (WL.nil (tn ?_)))))
 refine WP.cond rfl (fun hc2 => ?_) (fun hc2 => ?_)
 ·
  replace hm := ite_t hc2 hm
  refine WP.seq (WP.region (Va rfl (WL.nil (tn (WP.ret (block_ret (then_ret ?_)))))))
  obtain rfl := Option.some.inj hm
  refine retQ_ret results113 (Res.tmp rfl Res.nil) rfl (fun w' s => ⟨s.below, ?_⟩)
  exact rfl
 replace hm := ite_f hc2 hm
 refine WP.seq (WP.region (Vm rfl (V rfl (ov_gtr rfl rfl rfl) (Va rfl (WL.nil (tn ?_))))))
 refine WP.cond rfl (fun hc3 => ?_) (fun hc3 => ?_)
 ·
  replace hm := ite_t hc3 hm
  refine WP.seq (WP.region (Va rfl (WL.nil (tn (WP.ret (block_ret (then_ret ?_)))))))
  obtain rfl := Option.some.inj hm
  refine retQ_ret results113 (Res.tmp rfl Res.nil) rfl (fun w' s => ⟨s.below, ?_⟩)
  exact rfl
 replace hm := ite_f hc3 hm
 refine WP.skip (bn (tn (WP.seq (WP.region (Va rfl (WL.nil (tn ?_)))))))
 obtain ⟨k1, hk1, hm⟩ := joinK_some hm
 refine WP.seq_join (fun g' S' => Sub [(1, (pB b1 0)), (1000000007, (.bool false))] g' ∧ (∀ w', S' w' → St w H [.blk b1 45 [(.slice ao1 p_x.strokes.length cap1), (.int .i64 p_x.wait)]] H w') ∧ k1 = some r) ?_ ?_
 ·
  refine WP.seq (WP.region (V rfl (ov_fieldAddr underlying45 rfl rfl rfl sizeOf43 rfl rfl) (Vl 0 isAgg43 rfl (V rfl (ov_len_slice underlying43 rfl rfl) (Vm rfl (WL.nil (tn (WP.block ?_))))))))
  refine WP.loop (fun m1 g' S' => ∃ (i1 : Int) (i2 : Int), Sub [(1, (pB b1 0)), (4, (.int .i64 i1)), (17, (.slice ao1 p_x.strokes.length cap1)), (18, (.int .i64 (p_x.strokes.length : Int))), (19, (.int .i64 i2)), (1000000007, (.bool false))] g' ∧ (∀ w', S' w' → St w H [.blk b1 45 [(.slice ao1 p_x.strokes.length cap1), (.int .i64 p_x.wait)]] H w') ∧ stroke_CheckStep_loop1 p_x k1 m1 i1 i2 = some r) ((Int.toNat ((p_x.strokes.length : Int) - 0) + 1)) ⟨(-1), 0, (Sub.all rfl), fun w' s => s, hm⟩ ?_ ?_
  ·
   rintro g' S' ⟨_, _, _, _, hm⟩
   exact none_some hm
  rintro m1 g' S' ⟨i1, i2, hsub1, hS1, hm⟩
  refine WP.sub hsub1 (WP.weaken hS1 ?_)
  rw [stroke_CheckStep_loop1] at hm
  refine WP.seq (WP.region (V rfl (ov_lss rfl rfl rfl) (WL.nil (tn (WP.seq ?_)))))
  refine WP.cond rfl (fun hc4 => ?_) (fun hc4 => ?_)
  ·
   replace hm := ite_t hc4 hm
   refine WP.skip (tn (WP.seq (WP.block (WP.seq (WP.region ?_)))))
   obtain ⟨x1, e1, hm⟩ := bind_some hm
   obtain ⟨h2, h3, h4, cs1, h5, h6⟩ := h1.get e1 (by decide)
   obtain rfl : cs1 = [(.int .i64 x1.actuator), (.bool x1.out)] := h5
   refine V rfl (ov_indexAddr underlying43 sizeOf48 rfl rfl rfl h2 h3 h4) (V rfl (ov_load_elems (vs := [(.int .i64 x1.actuator), (.bool x1.out)]) isAgg48 sizeOf48 rfl rfl rfl h6 h4) ?_)
   refine ws rfl (os_alloc (cs := [(.int .i64 0), (.bool false)]) zeroValue48 rfl rfl (fun b2 => ?_))
   refine ws0 rfl (os_store (i := 0) (vs := [(.int .i64 x1.actuator), (.bool x1.out)]) (cs' := [(.int .i64 x1.actuator), (.bool x1.out)]) sizeOf48 rfl rfl rfl rfl rfl rfl rfl rfl rfl ?_)
   refine WL.nil (tn (WP.seq (WP.block (WP.seq (WP.region (V rfl (ov_fieldAddr underlying48 rfl rfl rfl sizeOf3 rfl rfl) (Vl 0 isAgg3 rfl ?_)))))))
   obtain ⟨r1, e2, hm⟩ := bind_some hm
   refine wo rfl (oq_con (r := (.bool r1)) call135 rfl rfl (fun w' s => ⟨_, (stroke_known_con x1.actuator  w' H s.hold hG r1 e2)⟩)) ?_
   refine V rfl (ov_not rfl rfl) (Va rfl (WL.nil (tn ?_)))
   refine WP.cond rfl (fun hc5 => ?_) (fun hc5 => ?_)
   ·
    replace hm := ite_t hc5 hm
    refine WP.seq (WP.region (Va rfl (WL.nil (tn (WP.ret (block_ret (then_ret (block_ret (then_ret (then_ret (block_ret (then_ret ?_))))))))))))
    obtain rfl := Option.some.inj hm
    refine retQ_ret results113 (Res.tmp rfl Res.nil) rfl (fun w' s => ⟨s.below, ?_⟩)
    exact rfl
   replace hm := ite_f hc5 hm
   refine WP.seq (WP.region (V rfl (ov_fieldAddr underlying48 rfl rfl rfl sizeOf3 rfl rfl) (Vl 0 isAgg3 rfl (Vm rfl (V rfl (ov_eql rfl rfl rfl) (Va rfl (WL.nil (tn ?_))))))))
   refine WP.cond rfl (fun hc6 => ?_) (fun hc6 => ?_)
   ·
    replace hm := ite_t hc6 hm
    refine WP.seq (WP.region (Va rfl (WL.nil (tn (WP.ret (block_ret (then_ret (block_ret (then_ret (then_ret (block_ret (then_ret ?_))))))))))))
    obtain rfl := Option.some.inj hm
    refine retQ_ret results113 (Res.tmp rfl Res.nil) rfl (fun w' s => ⟨s.below, ?_⟩)
    exact rfl
   replace hm := ite_f hc6 hm
   refine WP.seq (WP.region (V rfl (ov_fieldAddr underlying48 rfl rfl rfl sizeOf3 rfl rfl) (Vl 0 isAgg3 rfl (Vm rfl (V rfl (ov_lss rfl rfl rfl) (Va rfl (WL.nil (tn ?_))))))))
   refine WP.cond rfl (fun hc7 => ?_) (fun hc7 => ?_)
   ·
    replace hm := ite_t hc7 hm
    refine WP.seq (WP.region (Va rfl (WL.nil (tn (WP.ret (block_ret (then_ret (block_ret (then_ret (then_ret (block_ret (then_ret ?_))))))))))))
    obtain rfl := Option.some.inj hm
    refine retQ_ret results113 (Res.tmp rfl Res.nil) rfl (fun w' s => ⟨s.below, ?_⟩)
    exact rfl
   replace hm := ite_f hc7 hm
   refine WP.skip (bn (tn (WP.region (V rfl (ov_fieldAddr underlying48 rfl rfl rfl sizeOf3 rfl rfl) (Vl 0 isAgg3 rfl (Va rfl (WL.nil (bn (tn (WP.region (V rfl (ov_add rfl rfl rfl) (Vm rfl (WL.nil ?_)))))))))))))
   refine tn ?_
   exact ⟨x1.actuator, (IntKind.wrap .i64 (i2 + 1)), (Sub.all rfl), fun w' s => (s.sl [1]), hm⟩
  replace hm := ite_f hc4 hm
  refine WP.exit (then_exit (then_exit (block_here (tn ?_))))
  exact ⟨(Sub.all rfl), fun w' s => s, hm⟩
 rintro g' S' ⟨hsub2, hS2, hm⟩
 refine WP.sub hsub2 (WP.weaken hS2 ?_)
 replace hm := hk1.symm.trans hm
 refine WP.seq (WP.seq (WP.region (V rfl (ov_fieldAddr underlying45 rfl rfl rfl sizeOf3 rfl rfl) (Vl 0 isAgg3 rfl (V rfl (ov_lss rfl rfl rfl) (Vm rfl ?_))))))
 refine WL.cut_bool 4 48 (x := ((decide (p_x.wait < 0)) || (decide (p_x.wait > 1000000)))) ?_ ?_
 ·
  rcases Bool.eq_false_or_eq_true (decide (p_x.wait < 0)) with hc8 | hc8
  ·
   refine Vi rfl (Idle.no rfl rfl rfl hc8) (Vi rfl (Idle.no rfl rfl rfl hc8) (Vi rfl (Idle.no rfl rfl rfl hc8) (V rfl (ov_pick_true rfl (guard_eq rfl hc8) rfl) ?_)))
   exact WL.nil ⟨Sub.cons' rfl (congrArg Value.bool (orT hc8)) (Sub.dropn 4 rfl), fun _ s => s⟩
  refine wy hc8 rfl (ov_fieldAddr underlying45 rfl rfl rfl sizeOf3 rfl rfl) ?_
  refine wy hc8 rfl (ov_load_box (i := 0) isAgg3 rfl rfl rfl rfl) ?_
  refine wy hc8 rfl (ov_gtr rfl rfl rfl) ?_
  refine V rfl (ov_pick_false rfl (guard_eq rfl hc8) rfl) ?_
  exact WL.nil ⟨Sub.cons' rfl (congrArg Value.bool (orF hc8)) (Sub.dropn 4 rfl), fun _ s => s⟩
 refine WL.nil (tn ?_)
 refine WP.cond rfl (fun hc9 => ?_) (fun hc9 => ?_)
 ·
  replace hm := ite_t hc9 hm
  refine WP.seq (WP.region (Va rfl (WL.nil (tn (WP.ret (then_ret ?_))))))
  obtain rfl := Option.some.inj hm
  refine retQ_ret results113 (Res.tmp rfl Res.nil) rfl (fun w' s => ⟨s.below, ?_⟩)
  exact rfl
 replace hm := ite_f hc9 hm
 refine WP.skip (tn (WP.seq (WP.region (Va rfl (WL.nil (tn (WP.ret ?_)))))))
 obtain rfl := Option.some.inj hm
 refine retQ_ret results113 (Res.tmp rfl Res.nil) rfl (fun w' s => ⟨s.below, ?_⟩)
 exact rfl
theorem ref13_Actuator_con (p_n : Int) (w : World) (H : Heap) (hH : Le H (hp w)) (hG : Glob H) (r : Bool) (hm : ref13_Actuator p_n = some r) :
  Con prog 133 [(.int .i64 p_n)] w H (fun v _ => v = (.bool r)) := by
 unfold ref13_Actuator at hm
 refine con_of hH func133 rfl 9 ntmps133 rfl ?_
 refine WP.seq (WP.region (Va rfl (WL.nil (tn (WP.seq (WP.region (Vm rfl (V rfl (ov_geq rfl rfl rfl) (Vm rfl ?_)))))))))
 refine WL.cut_bool 3 8 (x := ((decide (p_n ≥ 0)) && (decide (p_n < 6)))) ?_ ?_
 ·
  rcases Bool.eq_false_or_eq_true (decide (p_n ≥ 0)) with hc1 | hc1
  ·
   refine wy hc1 rfl (ov_move rfl rfl) ?_
   refine wy hc1 rfl (ov_lss rfl rfl rfl) ?_
   refine V rfl (ov_pick_true rfl (guard_eq rfl hc1) rfl) ?_
   exact WL.nil ⟨Sub.cons' rfl (congrArg Value.bool (andT hc1)) (Sub.dropn 3 rfl), fun _ s => s⟩
  refine Vi rfl (Idle.no rfl rfl rfl hc1) (Vi rfl (Idle.no rfl rfl rfl hc1) (V rfl (ov_pick_false rfl (guard_eq rfl hc1) rfl) ?_))
  exact WL.nil ⟨Sub.cons' rfl (congrArg Value.bool (andF hc1)) (Sub.dropn 3 rfl), fun _ s => s⟩
 refine Va rfl (WL.nil (tn (WP.ret ?_)))
 obtain rfl := Option.some.inj hm
 refine retQ_ret results133 (Res.tmp rfl Res.nil) rfl (fun w' s => ⟨s.below, ?_⟩)
 exact rfl
theorem ref03_Time_con (p_n : Int) (w : World) (H : Heap) (hH : Le H (hp w)) (hG : Glob H) (r : Bool) (hm : ref03_Time p_n = some r) :
  Con prog 134 [(.int .i64 p_n)] w H (fun v _ => v = (.bool r)) := by
 unfold ref03_Time at hm
 refine con_of hH func134 rfl 9 ntmps134 rfl ?_
 refine WP.seq (WP.region (Va rfl (WL.nil (tn (WP.seq (WP.region (Vm rfl (V rfl (ov_geq rfl rfl rfl) (Vm rfl ?_)))))))))
 refine WL.cut_bool 3 8 (x := ((decide (p_n ≥ 0)) && (decide (p_n ≤ 1000000)))) ?_ ?_
 ·
  rcases Bool.eq_false_or_eq_true (decide (p_n ≥ 0)) with hc1 | hc1
  ·
   refine wy hc1 rfl (ov_move rfl rfl) ?_
   refine wy hc1 rfl (ov_leq rfl rfl rfl) ?_
   refine V rfl (ov_pick_true rfl (guard_eq rfl hc1) rfl) ?_
   exact WL.nil ⟨Sub.cons' rfl (congrArg Value.bool (andT hc1)) (Sub.dropn 3 rfl), fun _ s => s⟩
  refine Vi rfl (Idle.no rfl rfl rfl hc1) (Vi rfl (Idle.no rfl rfl rfl hc1) (V rfl (ov_pick_false rfl (guard_eq rfl hc1) rfl) ?_))
  exact WL.nil ⟨Sub.cons' rfl (congrArg Value.bool (andF hc1)) (Sub.dropn 3 rfl), fun _ s => s⟩
 refine Va rfl (WL.nil (tn (WP.ret ?_)))
 obtain rfl := Option.some.inj hm
 refine retQ_ret results134 (Res.tmp rfl Res.nil) rfl (fun w' s => ⟨s.below, ?_⟩)
 exact rfl
theorem ref13_CheckStep_con (p_x : Step) (ao1 : Option Addr) (cap1 : Nat) (w : World) (H : Heap) (hH : Le H (hp w)) (h1 : SL H encStroke ao1 p_x.strokes) (hc1 : p_x.strokes.length ≤ cap1) (hG : Glob H) (r : Int) (hm : ref13_CheckStep p_x = some r) :
  Con prog 111 [(.agg #[(.slice ao1 p_x.strokes.length cap1), (.int .i64 p_x.wait)])] w H (fun v _ => v = (.int .i64 r)) := by
 unfold ref13_CheckStep at hm
 refine con_of hH func111 rfl 67 ntmps111 rfl ?_
 refine WP.seq (WP.region ?_)
 refine ws rfl (os_box (cs := [(.slice ao1 p_x.strokes.length cap1), (.int .i64 p_x.wait)]) rfl rfl rfl (fun b1 => ?_))
 refine Va rfl (WL.nil (tn (WP.seq (WP.seq (WP.region (V rfl (ov_fieldAddr underlying45 rfl rfl rfl sizeOf43 rfl rfl) (Vl 0 isAgg43 rfl (V rfl (ov_len_slice underlying43 rfl rfl) (V rfl (ov_eql rfl rfl rfl) (WL.nil (tn ?_)))))))))))
 refine WP.cond rfl (fun hc2 => ?_) (fun hc2 => ?_)
 ·
  replace hm := ite_t hc2 hm
  refine WP.seq (WP.region (Va rfl (WL.nil (tn (WP.ret (then_ret ?_))))))
  obtain rfl := Option.some.inj hm
  refine retQ_ret results111 (Res.tmp rfl Res.nil) rfl (fun w' s => ⟨s.below, ?_⟩)
  exact rfl
 replace hm := ite_f hc2 hm
 refine WP.skip (tn (WP.seq (WP.seq (WP.region (V rfl (ov_fieldAddr underlying45 rfl rfl rfl sizeOf43 rfl rfl) (Vl 0 isAgg43 rfl (V rfl (ov_len_slice underlying43 rfl rfl) (V rfl (ov_gtr rfl rfl rfl) (WL.nil (tn ?_))))))))))
 refine WP.cond rfl (fun hc3 => ?_) (fun hc3 => ?_)
 ·
  replace hm := ite_t hc3 hm
  refine WP.seq (WP.region (Va rfl (WL.nil (tn (WP.ret (then_ret ?_))))))
  obtain rfl := Option.some.inj hm
  refine retQ_ret results111 (Res.tmp rfl Res.nil) rfl (fun w' s => ⟨s.below, ?_⟩)
  exact rfl
 replace hm := ite_f hc3 hm
 refine WP.skip (tn ?_)
 obtain ⟨k1, hk1, hm⟩ := joinK_some hm
 refine WP.seq_join (fun g' S' => Sub [(1, (pB b1 0)), (1000000007, (.bool false))] g' ∧ (∀ w', S' w' → St w H [.blk b1 45 [(.slice ao1 p_x.strokes.length cap1), (.int .i64 p_x.wait)]] H w') ∧ k1 = some r) ?_ ?_
 ·
  refine WP.seq (WP.region (Va rfl (WL.nil (tn (WP.block ?_)))))
  refine WP.loop (fun m1 g' S' => ∃ (i1 : Int), Sub [(1, (pB b1 0)), (3, (.int .i64 i1)), (1000000007, (.bool false))] g' ∧ (∀ w', S' w' → St w H [.blk b1 45 [(.slice ao1 p_x.strokes.length cap1), (.int .i64 p_x.wait)]] H w') ∧ ref13_CheckStep_loop1 p_x k1 m1 i1 = some r) ((Int.toNat ((p_x.strokes.length : Int) - 0) + 1)) ⟨0, (Sub.all rfl), fun w' s => s, hm⟩ ?_ ?_
  ·
   rintro g' S' ⟨_, _, _, hm⟩
   exact none_some hm
  rintro m1 g' S' ⟨i1, hsub1, hS1, hm⟩
  refine WP.sub hsub1 (WP.weaken hS1 ?_)
  rw [ref13_CheckStep_loop1] at hm
  refine WP.seq (WP.seq (WP.region (Vm rfl (V rfl (ov_fieldAddr underlying45 rfl rfl rfl sizeOf43 rfl rfl) (Vl 0 isAgg43 rfl (V rfl (ov_len_slice underlying43 rfl rfl) (V rfl (ov_lss rfl rfl rfl) (WL.nil (tn ?_)))))))))
  refine WP.cond rfl (fun hc4 => ?_) (fun hc4 => ?_)
  ·
   replace hm := ite_t hc4 hm
   refine WP.skip (tn (WP.seq (WP.block (WP.seq (WP.seq (WP.region (V rfl (ov_fieldAddr underlying45 rfl rfl rfl sizeOf43 rfl rfl) (Vl 0 isAgg43 rfl (Vm rfl ?_)))))))))
   obtain ⟨x1, e1, hm⟩ := bind_some hm
   obtain ⟨h2, h3, h4, cs1, h5, h6⟩ := h1.get e1 (by decide)
   obtain rfl : cs1 = [(.int .i64 x1.actuator), (.bool x1.out)] := h5
   refine V rfl (ov_indexAddr underlying43 sizeOf48 rfl rfl rfl h2 h3 h4) (V rfl (ov_fieldAddrE underlying48 rfl rfl rfl sizeOf3 rfl rfl) ?_)
   refine V rfl (ov_load_elem (v := (.int .i64 x1.actuator)) isAgg3 rfl rfl (h6.one (off := 0) rfl)) ?_
   obtain ⟨r1, e2, hm⟩ := bind_some hm
   refine wo rfl (oq_con (r := (.bool r1)) call133 rfl rfl (fun w' s => ⟨_, (ref13_Actuator_con x1.actuator  w' H s.hold hG r1 e2)⟩)) ?_
   refine V rfl (ov_not rfl rfl) (WL.nil (tn ?_))
   refine WP.cond rfl (fun hc5 => ?_) (fun hc5 => ?_)
   ·
    replace hm := ite_t hc5 hm
    refine WP.seq (WP.region (Va rfl (WL.nil (tn (WP.ret (then_ret (block_ret (then_ret (then_ret (block_ret (then_ret ?_)))))))))))
    obtain rfl := Option.some.inj hm
    refine retQ_ret results111 (Res.tmp rfl Res.nil) rfl (fun w' s => ⟨s.below, ?_⟩)
    exact rfl
   replace hm := ite_f hc5 hm
   refine WP.skip (tn (WP.seq (WP.seq ?_)))
   refine WP.region_draws (by kernel_rfl) (by kernel_rfl) (fun _ s => s.drew) ?_
   refine qf rfl (ov_move rfl rfl) ?_
   refine qf rfl (ov_gtr rfl rfl rfl) ?_
   refine qf rfl (ov_move rfl rfl) ?_
   obtain ⟨c1, e3, hm⟩ := bind_some hm
   refine QL.part_bool 15 44 (x := c1) ?_ ?_
   ·
    rcases Bool.eq_false_or_eq_true (decide (i1 > 0)) with hc6 | hc6
    ·
     replace hm := ite_t hc6 e3
     refine qy hc6 rfl (ov_fieldAddr underlying45 rfl rfl rfl sizeOf43 rfl rfl) ?_
     refine qy hc6 rfl (ov_load_box (i := 0) isAgg43 rfl rfl rfl rfl) ?_
     refine qy hc6 rfl (ov_move rfl rfl) ?_
     obtain ⟨x2, e4, hm⟩ := bind_some hm
     obtain ⟨h7, h8, h9, cs2, h10, h11⟩ := h1.get e4 (by decide)
     obtain rfl : cs2 = [(.int .i64 x2.actuator), (.bool x2.out)] := h10
     refine qy hc6 rfl (ov_indexAddr underlying43 sizeOf48 rfl rfl rfl h7 h8 h9) ?_
     refine qy hc6 rfl (ov_fieldAddrE underlying48 rfl rfl rfl sizeOf3 rfl rfl) ?_
     refine qy hc6 rfl (ov_load_elem (v := (.int .i64 x2.actuator)) isAgg3 rfl rfl (h11.one (off := 0) rfl)) ?_
     refine qy hc6 rfl (ov_fieldAddr underlying45 rfl rfl rfl sizeOf43 rfl rfl) ?_
     refine qy hc6 rfl (ov_load_box (i := 0) isAgg43 rfl rfl rfl rfl) ?_
     refine qy hc6 rfl (ov_move rfl rfl) ?_
     refine qy hc6 rfl (ov_sub rfl rfl rfl) ?_
     obtain ⟨x3, e5, hm⟩ := bind_some hm
     obtain ⟨h12, h13, h14, cs3, h15, h16⟩ := h1.get e5 (by decide)
     obtain rfl : cs3 = [(.int .i64 x3.actuator), (.bool x3.out)] := h15
     refine qy hc6 rfl (ov_indexAddr underlying43 sizeOf48 rfl rfl rfl h12 h13 h14) ?_
     refine qy hc6 rfl (ov_fieldAddrE underlying48 rfl rfl rfl sizeOf3 rfl rfl) ?_
     refine qy hc6 rfl (ov_load_elem (v := (.int .i64 x3.actuator)) isAgg3 rfl rfl (h16.one (off := 0) rfl)) ?_
     refine qy hc6 rfl (ov_eql rfl rfl rfl) ?_
     refine qf rfl (ov_pick_true rfl (guard_eq rfl hc6) rfl) ?_
     exact QL.nil (Sub.cons' rfl (congrArg Value.bool (Option.some.inj hm)) (Sub.dropn 15 rfl))
    replace hm := ite_f hc6 e3
    refine QL.idle (Idle.no rfl rfl rfl hc6) rfl rfl ?_
    refine QL.idle (Idle.no rfl rfl rfl hc6) rfl rfl ?_
    refine QL.idle (Idle.no rfl rfl rfl hc6) rfl rfl ?_
    refine QL.idle (Idle.no rfl rfl rfl hc6) rfl rfl ?_
    refine QL.idle (Idle.no rfl rfl rfl hc6) rfl rfl ?_
    refine QL.idle (Idle.no rfl rfl rfl hc6) rfl rfl ?_
    refine QL.idle (Idle.no rfl rfl rfl hc6) rfl rfl ?_
    refine QL.idle (Idle.no rfl rfl rfl hc6) rfl rfl ?_
    refine QL.idle (Idle.no rfl rfl rfl hc6) rfl rfl ?_
    refine QL.idle (Idle.no rfl rfl rfl hc6) rfl rfl ?_
    refine QL.idle (Idle.no rfl rfl rfl hc6) rfl rfl ?_
    refine QL.idle (Idle.no rfl rfl rfl hc6) rfl rfl ?_
    refine QL.idle (Idle.no rfl rfl rfl hc6) rfl rfl ?_
    refine QL.idle (Idle.no rfl rfl rfl hc6) rfl rfl ?_
    refine qf rfl (ov_pick_false rfl (guard_eq rfl hc6) rfl) ?_
    exact QL.nil (Sub.cons' rfl (congrArg Value.bool (Option.some.inj hm)) (Sub.dropn 15 rfl))
   refine QL.nil ?_
   refine tn ?_
   refine WP.cond rfl (fun hc7 => ?_) (fun hc7 => ?_)
   ·
    replace hm := ite_t hc7 hm
    refine WP.seq (WP.region (Va rfl (WL.nil (tn (WP.ret (then_ret (block_ret (then_ret (then_ret (block_ret (then_ret ?_)))))))))))
    obtain rfl := Option.some.inj hm
    refine retQ_ret results111 (Res.tmp rfl Res.nil) rfl (fun w' s => ⟨s.below, ?_⟩)
    exact rfl
   replace hm := ite_f hc7 hm
   refine WP.skip (tn (WP.seq ?_))
   refine WP.region_draws (by kernel_rfl) (by kernel_rfl) (fun _ s => s.drew) ?_
   refine qf rfl (ov_move rfl rfl) ?_
   refine qf rfl (ov_gtr rfl rfl rfl) ?_
   refine qf rfl (ov_move rfl rfl) ?_
   obtain ⟨c2, e6, hm⟩ := bind_some hm
   refine QL.part_bool 15 62 (x := c2) ?_ ?_
   ·
    rcases Bool.eq_false_or_eq_true (decide (i1 > 0)) with hc8 | hc8
    ·
     replace hm := ite_t hc8 e6
     refine qy hc8 rfl (ov_fieldAddr underlying45 rfl rfl rfl sizeOf43 rfl rfl) ?_
     refine qy hc8 rfl (ov_load_box (i := 0) isAgg43 rfl rfl rfl rfl) ?_
     refine qy hc8 rfl (ov_move rfl rfl) ?_
     obtain ⟨x4, e7, hm⟩ := bind_some hm
     obtain ⟨h17, h18, h19, cs4, h20, h21⟩ := h1.get e7 (by decide)
     obtain rfl : cs4 = [(.int .i64 x4.actuator), (.bool x4.out)] := h20
     refine qy hc8 rfl (ov_indexAddr underlying43 sizeOf48 rfl rfl rfl h17 h18 h19) ?_
     refine qy hc8 rfl (ov_fieldAddrE underlying48 rfl rfl rfl sizeOf3 rfl rfl) ?_
     refine qy hc8 rfl (ov_load_elem (v := (.int .i64 x4.actuator)) isAgg3 rfl rfl (h21.one (off := 0) rfl)) ?_
     refine qy hc8 rfl (ov_fieldAddr underlying45 rfl rfl rfl sizeOf43 rfl rfl) ?_
     refine qy hc8 rfl (ov_load_box (i := 0) isAgg43 rfl rfl rfl rfl) ?_
     refine qy hc8 rfl (ov_move rfl rfl) ?_
     refine qy hc8 rfl (ov_sub rfl rfl rfl) ?_
     obtain ⟨x5, e8, hm⟩ := bind_some hm
     obtain ⟨h22, h23, h24, cs5, h25, h26⟩ := h1.get e8 (by decide)
     obtain rfl : cs5 = [(.int .i64 x5.actuator), (.bool x5.out)] := h25
     refine qy hc8 rfl (ov_indexAddr underlying43 sizeOf48 rfl rfl rfl h22 h23 h24) ?_
     refine qy hc8 rfl (ov_fieldAddrE underlying48 rfl rfl rfl sizeOf3 rfl rfl) ?_
     refine qy hc8 rfl (ov_load_elem (v := (.int .i64 x5.actuator)) isAgg3 rfl rfl (h26.one (off := 0) rfl)) ?_
     refine qy hc8 rfl (ov_lss rfl rfl rfl) ?_
     refine qf rfl (ov_pick_true rfl (guard_eq rfl hc8) rfl) ?_
     exact QL.nil (Sub.cons' rfl (congrArg Value.bool (Option.some.inj hm)) (Sub.dropn 15 rfl))
    replace hm := ite_f hc8 e6
    refine QL.idle (Idle.no rfl rfl rfl hc8) rfl rfl ?_
    refine QL.idle (Idle.no rfl rfl rfl hc8) rfl rfl ?_
    refine QL.idle (Idle.no rfl rfl rfl hc8) rfl rfl ?_
    refine QL.idle (Idle.no rfl rfl rfl hc8) rfl rfl ?_
    refine QL.idle (Idle.no rfl rfl rfl hc8) rfl rfl ?_
    refine QL.idle (Idle.no rfl rfl rfl hc8) rfl rfl ?_
    refine QL.idle (Idle.no rfl rfl rfl hc8) rfl rfl ?_
    refine QL.idle (Idle.no rfl rfl rfl hc8) rfl rfl ?_
    refine QL.idle (Idle.no rfl rfl rfl hc8) rfl rfl ?_
    refine QL.idle (Idle.no rfl rfl rfl hc8) rfl rfl ?_
    refine QL.idle (Idle.no rfl rfl rfl hc8) rfl rfl ?_
    refine QL.idle (Idle.no rfl rfl rfl hc8) rfl rfl ?_
    refine QL.idle (Idle.no rfl rfl rfl hc8) rfl rfl ?_
    refine QL.idle (Idle.no rfl rfl rfl hc8) rfl rfl ?_
    refine qf rfl (ov_pick_false rfl (guard_eq rfl hc8) rfl) ?_
    exact QL.nil (Sub.cons' rfl (congrArg Value.bool (Option.some.inj hm)) (Sub.dropn 15 rfl))
   refine QL.nil ?_
   refine tn ?_
   refine WP.cond rfl (fun hc9 => ?_) (fun hc9 => ?_)
   ·
    replace hm := ite_t hc9 hm
    refine WP.seq (WP.region (Va rfl (WL.nil (tn (WP.ret (block_ret (then_ret (then_ret (block_ret (then_ret ?_))))))))))
    obtain rfl := Option.some.inj hm
    refine retQ_ret results111 (Res.tmp rfl Res.nil) rfl (fun w' s => ⟨s.below, ?_⟩)
    exact rfl
   replace hm := ite_f hc9 hm
   refine WP.skip (bn (tn (WP.region (Vm rfl (V rfl (ov_add rfl rfl rfl) (Va rfl (WL.nil (tn ?_))))))))
   exact ⟨(IntKind.wrap .i64 (i1 + 1)), (Sub.all rfl), fun w' s => s, hm⟩
  replace hm := ite_f hc4 hm
  refine WP.exit (then_exit (then_exit (block_here (tn ?_))))
  exact ⟨(Sub.all rfl), fun w' s => s, hm⟩
 rintro g' S' ⟨hsub2, hS2, hm⟩
 refine WP.sub hsub2 (WP.weaken hS2 ?_)
 replace hm := hk1.symm.trans hm
 refine WP.seq (WP.seq (WP.region (V rfl (ov_fieldAddr underlying45 rfl rfl rfl sizeOf3 rfl rfl) (Vl 0 isAgg3 rfl ?_))))
 obtain ⟨r2, e9, hm⟩ := bind_some hm
 refine wo rfl (oq_con (r := (.bool r2)) call134 rfl rfl (fun w' s => ⟨_, (ref03_Time_con p_x.wait  w' H s.hold hG r2 e9)⟩)) ?_
 refine V rfl (ov_not rfl rfl) (WL.nil (tn ?_))
 refine WP.cond rfl (fun hc10 => ?_) (fun hc10 => ?_)
 ·
  replace hm := ite_t hc10 hm
  refine WP.seq (WP.region (Va rfl (WL.nil (tn (WP.ret (then_ret ?_))))))
  obtain rfl := Option.some.inj hm
  refine retQ_ret results111 (Res.tmp rfl Res.nil) rfl (fun w' s => ⟨s.below, ?_⟩)
  exact rfl
 replace hm := ite_f hc10 hm
 refine WP.skip (tn (WP.seq (WP.region (Va rfl (WL.nil (tn (WP.ret ?_)))))))
 obtain rfl := Option.some.inj hm
 refine retQ_ret results111 (Res.tmp rfl Res.nil) rfl (fun w' s => ⟨s.below, ?_⟩)
 exact rfl
theorem ref13_Way_con (p_x : Step) (p_actuator : Int) (ao1 : Option Addr) (cap1 : Nat) (w : World) (H : Heap) (hH : Le H (hp w)) (h1 : SL H encStroke ao1 p_x.strokes) (hc1 : p_x.strokes.length ≤ cap1) (hG : Glob H) (r : Int) (hm : ref13_Way p_x p_actuator = some r) :
  Con prog 88 [(.agg #[(.slice ao1 p_x.strokes.length cap1), (.int .i64 p_x.wait)]), (.int .i64 p_actuator)] w H (fun v _ => v = (.int .i64 r)) := by
 unfold ref13_Way at hm
 refine con_of hH func88 rfl 27 ntmps88 rfl ?_
 refine WP.seq (WP.region ?_)
 refine ws rfl (os_box (cs := [(.slice ao1 p_x.strokes.length cap1), (.int .i64 p_x.wait)]) rfl rfl rfl (fun b1 => ?_))
 refine Va rfl (WL.nil (tn ?_))
 obtain ⟨k1, hk1, hm⟩ := joinK_some hm
 refine WP.seq_join (fun g' S' => Sub [(1000000007, (.bool false))] g' ∧ (∀ w', S' w' → St w H [] H w') ∧ k1 = some r) ?_ ?_
 ·
  refine WP.seq (WP.region (Va rfl (WL.nil (tn (WP.block ?_)))))
  refine WP.loop (fun m1 g' S' => ∃ (i1 : Int), Sub [(1, (.int .i64 p_actuator)), (2, (pB b1 0)), (5, (.int .i64 i1)), (1000000007, (.bool false))] g' ∧ (∀ w', S' w' → St w H [.blk b1 45 [(.slice ao1 p_x.strokes.length cap1), (.int .i64 p_x.wait)]] H w') ∧ ref13_Way_loop1 p_x p_actuator k1 m1 i1 = some r) ((Int.toNat ((p_x.strokes.length : Int) - 0) + 1)) ⟨0, (Sub.all rfl), fun w' s => s, hm⟩ ?_ ?_
  ·
   rintro g' S' ⟨_, _, _, hm⟩
   exact none_some hm
  rintro m1 g' S' ⟨i1, hsub1, hS1, hm⟩
  refine WP.sub hsub1 (WP.weaken hS1 ?_)
  rw [ref13_Way_loop1] at hm
  refine WP.seq (WP.seq (WP.region (Vm rfl (V rfl (ov_fieldAddr underlying45 rfl rfl rfl sizeOf43 rfl rfl) (Vl 0 isAgg43 rfl (V rfl (ov_len_slice underlying43 rfl rfl) (V rfl (ov_lss rfl rfl rfl) (WL.nil (tn ?_)))))))))
  refine WP.cond rfl (fun hc2 => ?_) (fun hc2 => ?_)
  ·
   replace hm := ite_t hc2 hm
   refine WP.skip (tn (WP.seq (WP.block (WP.seq (WP.region (V rfl (ov_fieldAddr underlying45 rfl rfl rfl sizeOf43 rfl rfl) (Vl 0 isAgg43 rfl (Vm rfl ?_))))))))
   obtain ⟨x1, e1, hm⟩ := bind_some hm
   obtain ⟨h2, h3, h4, cs1, h5, h6⟩ := h1.get e1 (by decide)
   obtain rfl : cs1 = [(.int .i64 x1.actuator), (.bool x1.out)] := h5
   refine V rfl (ov_indexAddr underlying43 sizeOf48 rfl rfl rfl h2 h3 h4) (V rfl (ov_fieldAddrE underlying48 rfl rfl rfl sizeOf3 rfl rfl) ?_)
   refine V rfl (ov_load_elem (v := (.int .i64 x1.actuator)) isAgg3 rfl rfl (h6.one (off := 0) rfl)) (Vm rfl (V rfl (ov_eql rfl rfl rfl) (WL.nil (tn ?_))))
   refine WP.cond rfl (fun hc3 => ?_) (fun hc3 => ?_)
   ·
    replace hm := ite_t hc3 hm
    refine WP.seq (WP.seq (WP.region (V rfl (ov_fieldAddr underlying45 rfl rfl rfl sizeOf43 rfl rfl) (Vl 0 isAgg43 rfl (Vm rfl ?_)))))
    obtain ⟨x2, e2, hm⟩ := bind_some hm
    obtain ⟨h7, h8, h9, cs2, h10, h11⟩ := h1.get e2 (by decide)
    obtain rfl : cs2 = [(.int .i64 x2.actuator), (.bool x2.out)] := h10
    refine V rfl (ov_indexAddr underlying43 sizeOf48 rfl rfl rfl h7 h8 h9) (V rfl (ov_fieldAddrE underlying48 rfl rfl rfl sizeOf4 rfl rfl) ?_)
    refine V rfl (ov_load_elem (v := (.bool x2.out)) isAgg4 rfl rfl (h11.one (off := 1) rfl)) (WL.nil (tn ?_))
    refine WP.cond rfl (fun hc4 => ?_) (fun hc4 => ?_)
    ·
     replace hm := ite_t hc4 hm
     refine WP.seq (WP.region (Va rfl (WL.nil (tn (WP.ret (then_ret (block_ret (then_ret (then_ret (block_ret (then_ret ?_)))))))))))
     obtain rfl := Option.some.inj hm
     refine retQ_ret results88 (Res.tmp rfl Res.nil) rfl (fun w' s => ⟨s.below, ?_⟩)
     exact rfl
    replace hm := ite_f hc4 hm
    refine WP.skip (tn (WP.seq (WP.region (Va rfl (WL.nil (tn (WP.ret (block_ret (then_ret (then_ret (block_ret (then_ret ?_))))))))))))
    obtain rfl := Option.some.inj hm
    refine retQ_ret results88 (Res.tmp rfl Res.nil) rfl (fun w' s => ⟨s.below, ?_⟩)
    exact rfl
   replace hm := ite_f hc3 hm
   refine WP.skip (bn (tn (WP.region (Vm rfl (V rfl (ov_add rfl rfl rfl) (Va rfl (WL.nil (tn ?_))))))))
   exact ⟨(IntKind.wrap .i64 (i1 + 1)), (Sub.all rfl), fun w' s => s, hm⟩
  replace hm := ite_f hc2 hm
  refine WP.exit (then_exit (then_exit (block_here (tn ?_))))
  exact ⟨(Sub.all rfl), fun w' s => (s.sl []), hm⟩
 rintro g' S' ⟨hsub2, hS2, hm⟩
 refine WP.sub hsub2 (WP.weaken hS2 ?_)
 replace hm := hk1.symm.trans hm
 refine WP.seq (WP.region (Va rfl (WL.nil (tn (WP.ret ?_)))))
 obtain rfl := Option.some.inj hm
 refine retQ_ret results88 (Res.tmp rfl Res.nil) rfl (fun w' s => ⟨s.below, ?_⟩)
 exact rfl
theorem ref13_Suits_con (p_x : Step) (p_ends : (List Bool)) (ao1 : Option Addr) (cap1 : Nat) (ao2 : Option Addr) (cap2 : Nat) (w : World) (H : Heap) (hH : Le H (hp w)) (h1 : SL H encStroke ao1 p_x.strokes) (hc1 : p_x.strokes.length ≤ cap1) (h2 : SL H encBool ao2 p_ends) (hc2 : p_ends.length ≤ cap2) (hG : Glob H) (r : Bool) (hm : ref13_Suits p_x p_ends = some r) :
  Con prog 112 [(.agg #[(.slice ao1 p_x.strokes.length cap1), (.int .i64 p_x.wait)]), (.slice ao2 p_ends.length cap2)] w H (fun v _ => v = (.bool r)) := by
 unfold ref13_Suits at hm
 refine con_of hH func112 rfl 34 ntmps112 rfl ?_
 refine WP.seq (WP.region ?_)
 refine ws rfl (os_box (cs := [(.slice ao1 p_x.strokes.length cap1), (.int .i64 p_x.wait)]) rfl rfl rfl (fun b1 => ?_))
 refine Va rfl (WL.nil (tn ?_))
 obtain ⟨k1, hk1, hm⟩ := joinK_some hm
 refine WP.seq_join (fun g' S' => Sub [(1000000007, (.bool false))] g' ∧ (∀ w', S' w' → St w H [] H w') ∧ k1 = some r) ?_ ?_
 ·
  refine WP.seq (WP.region (Va rfl (WL.nil (tn (WP.block ?_)))))
  refine WP.loop (fun m1 g' S' => ∃ (i1 : Int), Sub [(1, (.slice ao2 p_ends.length cap2)), (2, (pB b1 0)), (5, (.int .i64 i1)), (1000000007, (.bool false))] g' ∧ (∀ w', S' w' → St w H [.blk b1 45 [(.slice ao1 p_x.strokes.length cap1), (.int .i64 p_x.wait)]] H w') ∧ ref13_Suits_loop1 p_x p_ends k1 m1 i1 = some r) ((Int.toNat ((p_x.strokes.length : Int) - 0) + 1)) ⟨0, (Sub.all rfl), fun w' s => s, hm⟩ ?_ ?_
  ·
   rintro g' S' ⟨_, _, _, hm⟩
   exact none_some hm
  rintro m1 g' S' ⟨i1, hsub1, hS1, hm⟩
  refine WP.sub hsub1 (WP.weaken hS1 ?_)
  rw [ref13_Suits_loop1] at hm
  refine WP.seq (WP.seq (WP.region (Vm rfl (V rfl (ov_fieldAddr underlying45 rfl rfl rfl sizeOf43 rfl rfl) (Vl 0 isAgg43 rfl (V rfl (ov_len_slice underlying43 rfl rfl) (V rfl (ov_lss rfl rfl rfl) (WL.nil (tn ?_)))))))))
  refine WP.cond rfl (fun hc3 => ?_) (fun hc3 => ?_)
  ·
   replace hm := ite_t hc3 hm
   refine WP.skip (tn (WP.seq (WP.block (WP.seq (WP.region (V rfl (ov_fieldAddr underlying45 rfl rfl rfl sizeOf43 rfl rfl) (Vl 0 isAgg43 rfl (Vm rfl ?_))))))))
   obtain ⟨x1, e1, hm⟩ := bind_some hm
   obtain ⟨h3, h4, h5, cs1, h6, h7⟩ := h1.get e1 (by decide)
   obtain rfl : cs1 = [(.int .i64 x1.actuator), (.bool x1.out)] := h6
   refine V rfl (ov_indexAddr underlying43 sizeOf48 rfl rfl rfl h3 h4 h5) (V rfl (ov_load_elems (vs := [(.int .i64 x1.actuator), (.bool x1.out)]) isAgg48 sizeOf48 rfl rfl rfl h7 h5) ?_)
   refine ws rfl (os_alloc (cs := [(.int .i64 0), (.bool false)]) zeroValue48 rfl rfl (fun b2 => ?_))
   refine ws0 rfl (os_store (i := 0) (vs := [(.int .i64 x1.actuator), (.bool x1.out)]) (cs' := [(.int .i64 x1.actuator), (.bool x1.out)]) sizeOf48 rfl rfl rfl rfl rfl rfl rfl rfl rfl ?_)
   refine WL.nil (tn (WP.seq ?_))
   refine WP.region_draws (by kernel_rfl) (by kernel_rfl) (fun _ s => s.drew) ?_
   refine qf rfl (ov_fieldAddr underlying48 rfl rfl rfl sizeOf3 rfl rfl) ?_
   refine qf rfl (ov_load_box (i := 0) isAgg3 rfl rfl rfl rfl) ?_
   refine qf rfl (ov_move rfl rfl) ?_
   refine qf rfl (ov_len_slice underlying49 rfl rfl) ?_
   refine qf rfl (ov_geq rfl rfl rfl) ?_
   refine qf rfl (ov_move rfl rfl) ?_
   obtain ⟨c1, e2, hm⟩ := bind_some hm
   refine QL.part_bool 9 33 (x := c1) ?_ ?_
   ·
    rcases Bool.eq_false_or_eq_true (decide (x1.actuator ≥ (p_ends.length : Int))) with hc4 | hc4
    ·
     replace hm := ite_t hc4 e2
     refine QL.idle (Idle.no rfl rfl rfl hc4) rfl rfl ?_
     refine QL.idle (Idle.no rfl rfl rfl hc4) rfl rfl ?_
     refine QL.idle (Idle.no rfl rfl rfl hc4) rfl rfl ?_
     refine QL.idle (Idle.no rfl rfl rfl hc4) rfl rfl ?_
     refine QL.idle (Idle.no rfl rfl rfl hc4) rfl rfl ?_
     refine QL.idle (Idle.no rfl rfl rfl hc4) rfl rfl ?_
     refine QL.idle (Idle.no rfl rfl rfl hc4) rfl rfl ?_
     refine QL.idle (Idle.no rfl rfl rfl hc4) rfl rfl ?_
     refine qf rfl (ov_pick_true rfl (guard_eq rfl hc4) rfl) ?_
     exact QL.nil (Sub.cons' rfl (congrArg Value.bool (Option.some.inj hm)) (Sub.dropn 9 rfl))
    replace hm := ite_f hc4 e2
    refine qy hc4 rfl (ov_move rfl rfl) ?_
    refine qy hc4 rfl (ov_fieldAddr underlying48 rfl rfl rfl sizeOf3 rfl rfl) ?_
    refine qy hc4 rfl (ov_load_box (i := 0) isAgg3 rfl rfl rfl rfl) ?_
    obtain ⟨x2, e3, hm⟩ := bind_some hm
    obtain ⟨h8, h9, h10, cs2, h11, h12⟩ := h2.get e3 (by decide)
    obtain rfl : cs2 = [(.bool x2)] := h11
    refine qy hc4 rfl (ov_indexAddr underlying49 sizeOf4 rfl rfl rfl h8 h9 h10) ?_
    refine qy hc4 rfl (ov_load_elem (v := (.bool x2)) isAgg4 rfl rfl h12) ?_
    refine qy hc4 rfl (ov_fieldAddr underlying48 rfl rfl rfl sizeOf4 rfl rfl) ?_
    refine qy hc4 rfl (ov_load_box (i := 0) isAgg4 rfl rfl rfl rfl) ?_
    refine qy hc4 rfl (ov_beql underlying4 rfl rfl rfl) ?_
    refine qf rfl (ov_pick_false rfl (guard_eq rfl hc4) rfl) ?_
    exact QL.nil (Sub.cons' rfl (congrArg Value.bool (Option.some.inj hm)) (Sub.dropn 9 rfl))
   refine QL.nil ?_
   refine tn ?_
   refine WP.cond rfl (fun hc5 => ?_) (fun hc5 => ?_)
   ·
    replace hm := ite_t hc5 hm
    refine WP.seq (WP.region (Va rfl (WL.nil (tn (WP.ret (block_ret (then_ret (then_ret (block_ret (then_ret ?_))))))))))
    obtain rfl := Option.some.inj hm
    refine retQ_ret results112 (Res.tmp rfl Res.nil) rfl (fun w' s => ⟨s.below, ?_⟩)
    exact rfl
   replace hm := ite_f hc5 hm
   refine WP.skip (bn (tn (WP.region (Vm rfl (V rfl (ov_add rfl rfl rfl) (Va rfl (WL.nil (tn ?_))))))))
   exact ⟨(IntKind.wrap .i64 (i1 + 1)), (Sub.all rfl), fun w' s => (s.sl [1]), hm⟩
  replace hm := ite_f hc3 hm
  refine WP.exit (then_exit (then_exit (block_here (tn ?_))))
  exact ⟨(Sub.all rfl), fun w' s => (s.sl []), hm⟩
 rintro g' S' ⟨hsub2, hS2, hm⟩
 refine WP.sub hsub2 (WP.weaken hS2 ?_)
 replace hm := hk1.symm.trans hm
 refine WP.seq (WP.region (Va rfl (WL.nil (tn (WP.ret ?_)))))
 obtain rfl := Option.some.inj hm
 refine retQ_ret results112 (Res.tmp rfl Res.nil) rfl (fun w' s => ⟨s.below, ?_⟩)
 exact rfl
theorem ref13_After_con (p_x : Step) (p_ends : (List Bool)) (ao1 : Option Addr) (cap1 : Nat) (ao2 : Option Addr) (cap2 : Nat) (w : World) (H : Heap) (hH : Le H (hp w)) (h1 : SL H encStroke ao1 p_x.strokes) (hc1 : p_x.strokes.length ≤ cap1) (h2 : SL H encBool ao2 p_ends) (hc2 : p_ends.length ≤ cap2) (hG : Glob H) (r : (List Bool)) (hm : ref13_After p_x p_ends = some r) :
  Con prog 90 [(.agg #[(.slice ao1 p_x.strokes.length cap1), (.int .i64 p_x.wait)]), (.slice ao2 p_ends.length cap2)] w H (fun v H' => ∃ (ao3 : Option Addr) (cap3 : Nat), v = (.slice ao3 r.length cap3) ∧ SL H' encBool ao3 r ∧ r.length ≤ cap3) := by
 unfold ref13_After at hm
 refine con_of hH func90 rfl 32 ntmps90 rfl ?_
 refine WP.seq (WP.region ?_)
 refine ws rfl (os_box (cs := [(.slice ao1 p_x.strokes.length cap1), (.int .i64 p_x.wait)]) rfl rfl rfl (fun b1 => ?_))
 refine Va rfl (WL.nil (tn (WP.seq (WP.region ?_))))
 have rl1 : RL H encBool ([] : List Bool) [] := RL.nil _ _
 refine ws rfl (os_buildSlice (cs := []) (E := 4) (sz := 1) rfl rfl (fun _ => by kernel_rfl) rfl (by decide) (fun b2 => ?_))
 refine Vm rfl ?_
 obtain ⟨l1, e1, hm⟩ := bind_some hm
 refine ws rfl (os_app_sl (i := 0) (En := encBool) (xs := []) underlying49 (by kernel_rfl : (prog.info? 4).map (fun i => (i.zero, i.size, i.bytes)) = some (some (.bool false), (encBool).size, 1)) rfl (by decide) one_encBool rfl rfl rfl rfl h2 hc2 rl1 e1 (fun ao4 cap4 ys1 rl2 => ?_))
 refine Va rfl (WL.nil (tn ?_))
 obtain ⟨k1, hk1, hm⟩ := joinK_some hm
 refine WP.seq_join (fun g' S' => ∃ (l3 : (List Bool)) (ao6 : _) (cap6 : _) (xs2 : _), RL H encBool l3 xs2 ∧ Sub [(5, (.slice ao6 l3.length cap6)), (1000000007, (.bool false))] g' ∧ (∀ w', S' w' → St w H [rowE 4 encBool l3 ao6 cap6 xs2] H w') ∧ k1 l3 = some r) ?_ ?_
 ·
  refine WP.seq (WP.region (Va rfl (WL.nil (tn (WP.block ?_)))))
  refine WP.loop (fun m1 g' S' => ∃ (i1 : Int) (l2 : (List Bool)) (ao5 : _) (cap5 : _) (xs1 : _), RL H encBool l2 xs1 ∧ Sub [(2, (pB b1 0)), (5, (.slice ao5 l2.length cap5)), (6, (.int .i64 i1)), (1000000007, (.bool false))] g' ∧ (∀ w', S' w' → St w H [rowE 4 encBool l2 ao5 cap5 xs1, .blk b1 45 [(.slice ao1 p_x.strokes.length cap1), (.int .i64 p_x.wait)]] H w') ∧ ref13_After_loop1 p_x k1 m1 i1 l2 = some r) ((Int.toNat ((p_x.strokes.length : Int) - 0) + 1)) ⟨0, (([] : List Bool) ++ p_ends), ao4, cap4, ([] ++ ys1), rl2, (Sub.all rfl), fun w' s => s, hm⟩ ?_ ?_
  ·
   rintro g' S' ⟨_, _, _, _, _, _, _, _, hm⟩
   exact none_some hm
  rintro m1 g' S' ⟨i1, l2, ao5, cap5, xs1, rl3, hsub1, hS1, hm⟩
  refine WP.sub hsub1 (WP.weaken hS1 ?_)
  rw [ref13_After_loop1] at hm
  refine WP.seq (WP.seq (WP.region (Vm rfl (V rfl (ov_fieldAddr underlying45 rfl rfl rfl sizeOf43 rfl rfl) (Vl 1 isAgg43 rfl (V rfl (ov_len_slice underlying43 rfl rfl) (V rfl (ov_lss rfl rfl rfl) (WL.nil (tn ?_)))))))))
  refine WP.cond rfl (fun hc4 => ?_) (fun hc4 => ?_)
  ·
   replace hm := ite_t hc4 hm
   refine WP.skip (tn (WP.seq (WP.block ?_)))
   refine WP.region_any (S₀ := St w H [.blk b1 45 [(.slice ao1 p_x.strokes.length cap1), (.int .i64 p_x.wait)]] H) 15 rfl (by kernel_rfl) (fun w' s => (s.sl [1])) (fun _ s => s.drew) ?_
   refine TQ' 0 rfl (ov_move rfl rfl) (TQ' 1 rfl (ov_fieldAddr underlying45 rfl rfl rfl sizeOf43 rfl rfl) (TQ' 2 rfl (ov_load_box (i := 0) isAgg43 rfl rfl rfl rfl) (TQ' 3 rfl (ov_move rfl rfl) ?_)))
   obtain ⟨x1, e2, hm⟩ := bind_some hm
   obtain ⟨h4, h5, h6, cs1, h7, h8⟩ := h1.get e2 (by decide)
   obtain rfl : cs1 = [(.int .i64 x1.actuator), (.bool x1.out)] := h7
   refine TQ' 4 rfl (ov_indexAddr underlying43 sizeOf48 rfl rfl rfl h4 h5 h6) (TQ' 5 rfl (ov_fieldAddrE underlying48 rfl rfl rfl sizeOf3 rfl rfl) ?_)
   refine TQ' 6 rfl (ov_load_elem (v := (.int .i64 x1.actuator)) isAgg3 rfl rfl (h8.one (off := 0) rfl)) (TQ' 7 rfl (ov_fieldAddr underlying45 rfl rfl rfl sizeOf43 rfl rfl) (TQ' 8 rfl (ov_load_box (i := 0) isAgg43 rfl rfl rfl rfl) (TQ' 9 rfl (ov_move rfl rfl) ?_)))
   obtain ⟨x2, e3, hm⟩ := bind_some hm
   obtain ⟨h9, h10, h11, cs2, h12, h13⟩ := h1.get e3 (by decide)
   obtain rfl : cs2 = [(.int .i64 x2.actuator), (.bool x2.out)] := h12
   refine TQ' 10 rfl (ov_indexAddr underlying43 sizeOf48 rfl rfl rfl h9 h10 h11) (TQ' 11 rfl (ov_fieldAddrE underlying48 rfl rfl rfl sizeOf4 rfl rfl) ?_)
   refine TQ' 12 rfl (ov_load_elem (v := (.bool x2.out)) isAgg4 rfl rfl (h13.one (off := 1) rfl)) ?_
   refine AL.any (rs := [13]) (by kernel_rfl) (by decide) ?_
   refine ALs.cons (i := 13) rfl (Runs.free rfl) rfl rfl ?_ ?_
   ·
    obtain ⟨x3, e4, hm⟩ := bind_some hm
    obtain ⟨h14, h15, h16, cs3, h17, h18⟩ := RL.get rl3 e4
    obtain rfl : cs3 = [(.bool x3)] := h17
    refine OQ.step (OV.quiet (ov_indexAddr_own (i := 0) underlying49 sizeOf4 rfl rfl rfl rfl h14 h15)) ?_
    refine ⟨fun w' s => (s.sl [1]), ?_⟩
    refine AL.any (rs := [14]) (by kernel_rfl) (by decide) ?_
    refine ALs.cons0 (i := 14) rfl (Runs.free rfl) rfl ?_ ?_
    ·
     have rl4 := RL.set rl3 (y := x2.out) (off := 0) (vs := [(.bool x2.out)]) e4 h18 rfl (Nat.le_of_ble_eq_true rfl)
     have e5 := at?_set (y := x2.out) e4
     refine os_store_own (i := 0) (vs := [(.bool x2.out)]) sizeOf4 rfl rfl rfl rfl (own_pos h14 h15) rfl rfl (elem_le (off := 0) h16 (Nat.le_of_ble_eq_true rfl)) rfl ?_
     rw [show l2.length = (List.set l2 (Int.toNat x1.actuator) x2.out).length from List.length_set.symm]
     obtain ⟨h19, h20, h21, cs4, h22, h23⟩ := rl4.get e5
     obtain rfl : cs4 = [(.bool x2.out)] := h22
     refine ⟨fun w' s => (s.sl [1]), ?_⟩
     refine AL.done (by kernel_rfl) ?_
     refine bn (tn (WP.region (Vm rfl (V rfl (ov_add rfl rfl rfl) (Va rfl (WL.nil (tn ?_)))))))
     exact ⟨(IntKind.wrap .i64 (i1 + 1)), (List.set l2 (Int.toNat x1.actuator) x2.out), ao5, cap5, (spl xs1 (Int.toNat x1.actuator * encBool.size + 0) [(.bool x2.out)]), rl4, (Sub.all rfl), fun w' s => s, hm⟩
    exact ALs.nil
   exact ALs.nil
  replace hm := ite_f hc4 hm
  refine WP.exit (then_exit (then_exit (block_here (tn ?_))))
  exact ⟨l2, ao5, cap5, xs1, rl3, (Sub.all rfl), fun w' s => (s.sl [0]), hm⟩
 rintro g' S' ⟨l3, ao6, cap6, xs2, rl5, hsub2, hS2, hm⟩
 refine WP.sub hsub2 (WP.weaken hS2 ?_)
 replace hm := (congrFun hk1 l3).symm.trans hm
 refine WP.seq (WP.region (Vm rfl (Va rfl (WL.nil (tn (WP.ret ?_))))))
 obtain rfl := Option.some.inj hm
 refine retQ_ret results90 (Res.tmp rfl Res.nil) rfl (fun w' s => ⟨s.below, ?_⟩)
 obtain ⟨h24, hc5⟩ := s.ret_row (i := 0) rfl rl5
 exact ⟨ao6, cap6, rfl, h24, hc5⟩
theorem ref14_Behind_con (p_s : Sequence) (p_k : Int) (ao1 : Option Addr) (cap1 : Nat) (w : World) (H : Heap) (hH : Le H (hp w)) (h1 : SL H encStep ao1 p_s.steps) (hc1 : p_s.steps.length ≤ cap1) (hG : Glob H) (r : (List Bool)) (hm : ref14_Behind p_s p_k = some r) :
  Con prog 48 [(.agg #[(.int .i64 p_s.actuators), (.slice ao1 p_s.steps.length cap1)]), (.int .i64 p_k)] w H (fun v H' => ∃ (ao2 : Option Addr) (cap2 : Nat), v = (.slice ao2 r.length cap2) ∧ SL H' encBool ao2 r ∧ r.length ≤ cap2) := by
 unfold ref14_Behind at hm
 refine con_of hH func48 rfl 23 ntmps48 rfl ?_
 refine WP.seq (WP.region ?_)
 refine ws rfl (os_box (cs := [(.int .i64 p_s.actuators), (.slice ao1 p_s.steps.length cap1)]) rfl rfl rfl (fun b1 => ?_))
 refine Va rfl (WL.nil (tn (WP.seq (WP.region (V rfl (ov_fieldAddr underlying24 rfl rfl rfl sizeOf3 rfl rfl) (Vl 0 isAgg3 rfl ?_))))))
 obtain ⟨u1, e1, hm⟩ := bind_some hm
 replace e1 := guardO_some e1
 refine ws rfl (os_makeSlice (En := encBool) (z := (.bool false)) (y0 := false) (bytes := 1) underlying49 (by kernel_rfl) rfl (by decide) rfl rfl rfl e1 (fun b2 xs1 rl1 => ?_))
 refine Va rfl (WL.nil (tn ?_))
 obtain ⟨k1, hk1, hm⟩ := joinK_some hm
 refine WP.seq_join (fun g' S' => ∃ (H4 : Heap) (l2 : (List Bool)) (ao6 : _) (cap6 : _), Le H H4 ∧ SL H4 encBool ao6 l2 ∧ l2.length ≤ cap6 ∧ Sub [(5, (.slice ao6 l2.length cap6)), (1000000007, (.bool false))] g' ∧ (∀ w', S' w' → St w H [] H4 w') ∧ k1 l2 = some r) ?_ ?_
 ·
  refine WP.seq (WP.region (Va rfl (WL.nil (tn (WP.block ?_)))))
  refine WP.held rl1 (fun H1 hc3 hle1 h3 => ?_)
  replace h1 := h1.mono hle1
  replace hG := hG.mono hle1
  refine WP.loop (fun m1 g' S' => ∃ (H2 : Heap) (l1 : (List Bool)) (ao3 : _) (cap3 : _) (i1 : Int), Le H1 H2 ∧ SL H2 encBool ao3 l1 ∧ l1.length ≤ cap3 ∧ Sub [(1, (.int .i64 p_k)), (2, (pB b1 0)), (5, (.slice ao3 l1.length cap3)), (6, (.int .i64 i1)), (1000000007, (.bool false))] g' ∧ (∀ w', S' w' → St w H [.blk b1 24 [(.int .i64 p_s.actuators), (.slice ao1 p_s.steps.length cap1)]] H2 w') ∧ ref14_Behind_loop1 p_s p_k k1 m1 l1 i1 = some r) ((Int.toNat (p_k - 0) + 1)) ⟨H1, (List.replicate (Int.toNat p_s.actuators) false), (some ⟨b2, 0, none⟩), (Int.toNat p_s.actuators), 0, (Le.refl _), h3, hc3, (Sub.all rfl), fun w' s => s, hm⟩ ?_ ?_
  ·
   rintro g' S' ⟨_, _, _, _, _, _, _, _, _, _, hm⟩
   exact none_some hm
  rintro m1 g' S' ⟨H2, l1, ao3, cap3, i1, hle2, h4, hc4, hsub1, hS1, hm⟩
  refine WP.sub hsub1 (WP.weaken hS1 ?_)
  rw [ref14_Behind_loop1] at hm
  replace h1 := h1.mono hle2
  replace hG := hG.mono hle2
  refine WP.seq (WP.seq (WP.region (Vm rfl (Vm rfl (V rfl (ov_lss rfl rfl rfl) (WL.nil (tn ?_)))))))
  refine WP.cond rfl (fun hc5 => ?_) (fun hc5 => ?_)
  ·
   replace hm := ite_t hc5 hm
   refine WP.skip (tn (WP.seq (WP.block (WP.region (V rfl (ov_fieldAddr underlying24 rfl rfl rfl sizeOf22 rfl rfl) (Vl 0 isAgg22 rfl (Vm rfl ?_)))))))
   obtain ⟨x1, e2, hm⟩ := bind_some hm
   obtain ⟨h6, h7, h8, cs1, h9, h10⟩ := h1.get e2 (by decide)
   obtain ⟨ao4, cap4, rfl, h5, hc6⟩ := h9
   refine V rfl (ov_indexAddr underlying22 sizeOf45 rfl rfl rfl h6 h7 h8) (V rfl (ov_load_elems (vs := [(.slice ao4 x1.strokes.length cap4), (.int .i64 x1.wait)]) isAgg45 sizeOf45 rfl rfl rfl h10 h8) (Vm rfl ?_))
   obtain ⟨r1, e3, hm⟩ := bind_some hm
   refine ws rfl (os_con call90 rfl rfl (fun w' s => (ref13_After_con x1 l1 ao4 cap4 ao3 cap3  w' H2 s.hold h5 hc6 h4 hc4 hG r1 e3)) (fun rr1 H3 hle3 hR1 => ?_))
   replace h4 := h4.mono hle3
   obtain ⟨ao5, cap5, rfl, h11, hc7⟩ := hR1
   refine Va rfl (WL.nil (bn (tn (WP.region (Vm rfl (V rfl (ov_add rfl rfl rfl) (Va rfl (WL.nil (tn ?_)))))))))
   exact ⟨H3, r1, ao5, cap5, (IntKind.wrap .i64 (i1 + 1)), (hle2.trans hle3), h11, hc7, (Sub.all rfl), fun w' s => s, hm⟩
  replace hm := ite_f hc5 hm
  refine WP.exit (then_exit (then_exit (block_here (tn ?_))))
  exact ⟨H2, l1, ao3, cap3, (hle1.trans hle2), h4, hc4, (Sub.all rfl), fun w' s => (s.sl []), hm⟩
 rintro g' S' ⟨H4, l2, ao6, cap6, hle4, h12, hc8, hsub2, hS2, hm⟩
 refine WP.sub hsub2 (WP.weaken hS2 ?_)
 replace hm := (congrFun hk1 l2).symm.trans hm
 refine WP.seq (WP.region (Vm rfl (Va rfl (WL.nil (tn (WP.ret ?_))))))
 obtain rfl := Option.some.inj hm
 refine retQ_ret results48 (Res.tmp rfl Res.nil) rfl (fun w' s => ⟨s.below, ?_⟩)
 exact ⟨ao6, cap6, rfl, h12.mono s.le_newer, hc8⟩
theorem slices_Index_intint_con (p_s : (List Int)) (p_v : Int) (ao1 : Option Addr) (cap1 : Nat) (w : World) (H : Heap) (hH : Le H (hp w)) (h1 : SL H (encInt .i64) ao1 p_s) (hc1 : p_s.length ≤ cap1) (hG : Glob H) (r : Int) (hm : slices_Index_intint p_s p_v = some r) :
  Con prog 91 [(.slice ao1 p_s.length cap1), (.int .i64 p_v)] w H (fun v _ => v = (.int .i64 r)) := by
 unfold slices_Index_intint at hm
 refine con_of hH func91 rfl 19 ntmps91 rfl ?_
 refine WP.seq (WP.region (Va rfl (WL.nil (tn ?_))))
 obtain ⟨k1, hk1, hm⟩ := joinK_some hm
 refine WP.seq_join (fun g' S' => Sub [(1000000007, (.bool false))] g' ∧ (∀ w', S' w' → St w H [] H w') ∧ k1 = some r) ?_ ?_
 ·
  refine WP.seq (WP.region (Vm rfl (V rfl (ov_len_slice underlying39 rfl rfl) (Vm rfl (WL.nil (tn (WP.block ?_)))))))
  refine WP.loop (fun m1 g' S' => ∃ (i1 : Int), Sub [(0, (.slice ao1 p_s.length cap1)), (1, (.int .i64 p_v)), (7, (.int .i64 (p_s.length : Int))), (8, (.int .i64 i1)), (1000000007, (.bool false))] g' ∧ (∀ w', S' w' → St w H [] H w') ∧ slices_Index_intint_loop1 p_s p_v k1 m1 i1 = some r) ((Int.toNat ((p_s.length : Int) - 0) + 1)) ⟨0, (Sub.all rfl), fun w' s => s, hm⟩ ?_ ?_
  ·
   rintro g' S' ⟨_, _, _, hm⟩
   exact none_some hm
  rintro m1 g' S' ⟨i1, hsub1, hS1, hm⟩
  refine WP.sub hsub1 (WP.weaken hS1 ?_)
  rw [slices_Index_intint_loop1] at hm
  refine WP.seq (WP.region (V rfl (ov_lss rfl rfl rfl) (WL.nil (tn (WP.seq ?_)))))
  refine WP.cond rfl (fun hc2 => ?_) (fun hc2 => ?_)
  ·
   replace hm := ite_t hc2 hm
   refine WP.skip (tn (WP.seq (WP.block (WP.seq (WP.region (Vm rfl (Va rfl (WL.nil (tn (WP.seq (WP.region (Vm rfl (Vm rfl ?_)))))))))))))
   refine Vm rfl ?_
   obtain ⟨x1, e1, hm⟩ := bind_some hm
   obtain ⟨h2, h3, h4, cs1, h5, h6⟩ := h1.get e1 (by decide)
   obtain rfl : cs1 = [(.int .i64 x1)] := h5
   refine V rfl (ov_indexAddr underlying39 sizeOf3 rfl rfl rfl h2 h3 h4) (V rfl (ov_load_elem (v := (.int .i64 x1)) isAgg3 rfl rfl h6) (V rfl (ov_eql rfl rfl rfl) (WL.nil (tn ?_))))
   refine WP.cond rfl (fun hc3 => ?_) (fun hc3 => ?_)
   ·
    replace hm := ite_t hc3 hm
    refine WP.seq (WP.region (Vm rfl (Va rfl (WL.nil (tn (WP.ret (block_ret (then_ret (then_ret (block_ret (then_ret ?_)))))))))))
    obtain rfl := Option.some.inj hm
    refine retQ_ret results91 (Res.tmp rfl Res.nil) rfl (fun w' s => ⟨s.below, ?_⟩)
    exact rfl
   replace hm := ite_f hc3 hm
   refine WP.skip (bn (tn (WP.region (V rfl (ov_add rfl rfl rfl) (Vm rfl (WL.nil (tn ?_)))))))
   exact ⟨(IntKind.wrap .i64 (i1 + 1)), (Sub.all rfl), fun w' s => s, hm⟩
  replace hm := ite_f hc2 hm
  refine WP.exit (then_exit (then_exit (block_here (tn ?_))))
  exact ⟨(Sub.all rfl), fun w' s => s, hm⟩
 rintro g' S' ⟨hsub2, hS2, hm⟩
 refine WP.sub hsub2 (WP.weaken hS2 ?_)
 replace hm := hk1.symm.trans hm
 refine WP.seq (WP.region (Va rfl (WL.nil (tn (WP.ret ?_)))))
 obtain rfl := Option.some.inj hm
 refine retQ_ret results91 (Res.tmp rfl Res.nil) rfl (fun w' s => ⟨s.below, ?_⟩)
 exact rfl
theorem slices_Contains_intint_con (p_s : (List Int)) (p_v : Int) (ao1 : Option Addr) (cap1 : Nat) (w : World) (H : Heap) (hH : Le H (hp w)) (h1 : SL H (encInt .i64) ao1 p_s) (hc1 : p_s.length ≤ cap1) (hG : Glob H) (r : Bool) (hm : slices_Contains_intint p_s p_v = some r) :
  Con prog 51 [(.slice ao1 p_s.length cap1), (.int .i64 p_v)] w H (fun v _ => v = (.bool r)) := by
 unfold slices_Contains_intint at hm
 refine con_of hH func51 rfl 9 ntmps51 rfl ?_
 refine WP.seq (WP.region (Va rfl (WL.nil (tn (WP.seq (WP.region (Vm rfl (Vm rfl ?_))))))))
 obtain ⟨r1, e1, hm⟩ := bind_some hm
 refine wo rfl (oq_con (r := (.int .i64 r1)) call91 rfl rfl (fun w' s => ⟨_, (slices_Index_intint_con p_s p_v ao1 cap1  w' H s.hold h1 hc1 hG r1 e1)⟩)) ?_
 refine V rfl (ov_geq rfl rfl rfl) (Va rfl (WL.nil (tn (WP.ret ?_))))
 obtain rfl := Option.some.inj hm
 refine retQ_ret results51 (Res.tmp rfl Res.nil) rfl (fun w' s => ⟨s.below, ?_⟩)
 exact rfl
theorem sequence_fits_con (p_s : Sequence) (p_step : Step) (p_x : Ends6) (ao1 : Option Addr) (cap1 : Nat) (ao2 : Option Addr) (cap2 : Nat) (w : World) (H : Heap) (hH : Le H (hp w)) (h1 : SL H encStep ao1 p_s.steps) (hc1 : p_s.steps.length ≤ cap1) (h2 : SL H encStroke ao2 p_step.strokes) (hc2 : p_step.strokes.length ≤ cap2) (hG : Glob H) (r : Int) (hm : sequence_fits p_s p_step p_x = some r) :
  Con prog 77 [(.agg #[(.int .i64 p_s.actuators), (.slice ao1 p_s.steps.length cap1)]), (.agg #[(.slice ao2 p_step.strokes.length cap2), (.int .i64 p_step.wait)]), (.agg #[(.bool p_x.a0), (.bool p_x.a1), (.bool p_x.a2), (.bool p_x.a3), (.bool p_x.a4), (.bool p_x.a5)])] w H (fun v _ => v = (.int .i64 r)) := by
 unfold sequence_fits at hm
 refine con_of hH func77 rfl 45 ntmps77 rfl ?_
 refine WP.seq (WP.region ?_)
 refine ws rfl (os_box (cs := [(.int .i64 p_s.actuators), (.slice ao1 p_s.steps.length cap1)]) rfl rfl rfl (fun b1 => ?_))
 refine ws rfl (os_box (cs := [(.slice ao2 p_step.strokes.length cap2), (.int .i64 p_step.wait)]) rfl rfl rfl (fun b2 => ?_))
 refine ws rfl (os_box (cs := [(.bool p_x.a0), (.bool p_x.a1), (.bool p_x.a2), (.bool p_x.a3), (.bool p_x.a4), (.bool p_x.a5)]) rfl rfl rfl (fun b3 => ?_))
 refine Va rfl (WL.nil (tn (WP.seq (WP.seq (WP.region (V rfl (ov_load_whole (i := 1) isAgg45 sizeOf45 rfl rfl rfl rfl) ?_))))))
 obtain ⟨r1, e1, hm⟩ := bind_some hm
 refine wo rfl (oq_con (r := (.int .i64 r1)) call113 rfl rfl (fun w' s => ⟨_, (stroke_CheckStep_con p_step ao2 cap2  w' H s.hold h2 hc2 hG r1 e1)⟩)) ?_
 refine Va rfl (WL.nil (tn (WP.seq (WP.region (Vm rfl (V rfl (ov_neq rfl rfl rfl) (WL.nil (tn ?_))))))))
 refine WP.cond rfl (fun hc3 => ?_) (fun hc3 => ?_)
 ·
  replace hm := ite_t hc3 hm
  refine WP.seq (WP.region (Vm rfl (Va rfl (WL.nil (tn (WP.ret (then_ret ?_)))))))
  obtain rfl := Option.some.inj hm
  refine retQ_ret results77 (Res.tmp rfl Res.nil) rfl (fun w' s => ⟨s.below, ?_⟩)
  exact rfl
 replace hm := ite_f hc3 hm
 refine WP.skip (tn ?_)
 obtain ⟨k1, hk1, hm⟩ := joinK_some hm
 refine WP.seq_join (fun g' S' => Sub [(4, (pB b2 0)), (5, (pB b3 0)), (1000000007, (.bool false))] g' ∧ (∀ w', S' w' → St w H [.blk b3 101 [(.bool p_x.a0), (.bool p_x.a1), (.bool p_x.a2), (.bool p_x.a3), (.bool p_x.a4), (.bool p_x.a5)], .blk b2 45 [(.slice ao2 p_step.strokes.length cap2), (.int .i64 p_step.wait)]] H w') ∧ k1 = some r) ?_ ?_
 ·
  refine WP.seq (WP.region (V rfl (ov_fieldAddr underlying45 rfl rfl rfl sizeOf43 rfl rfl) (Vl 1 isAgg43 rfl (V rfl (ov_len_slice underlying43 rfl rfl) (Vm rfl (WL.nil (tn (WP.block ?_))))))))
  refine WP.loop (fun m1 g' S' => ∃ (i1 : Int), Sub [(3, (pB b1 0)), (4, (pB b2 0)), (5, (pB b3 0)), (18, (.slice ao2 p_step.strokes.length cap2)), (19, (.int .i64 (p_step.strokes.length : Int))), (20, (.int .i64 i1)), (1000000007, (.bool false))] g' ∧ (∀ w', S' w' → St w H [.blk b3 101 [(.bool p_x.a0), (.bool p_x.a1), (.bool p_x.a2), (.bool p_x.a3), (.bool p_x.a4), (.bool p_x.a5)], .blk b2 45 [(.slice ao2 p_step.strokes.length cap2), (.int .i64 p_step.wait)], .blk b1 24 [(.int .i64 p_s.actuators), (.slice ao1 p_s.steps.length cap1)]] H w') ∧ sequence_fits_loop1 p_s p_step k1 m1 i1 = some r) ((Int.toNat ((p_step.strokes.length : Int) - 0) + 1)) ⟨0, (Sub.all rfl), fun w' s => s, hm⟩ ?_ ?_
  ·
   rintro g' S' ⟨_, _, _, hm⟩
   exact none_some hm
  rintro m1 g' S' ⟨i1, hsub1, hS1, hm⟩
  refine WP.sub hsub1 (WP.weaken hS1 ?_)
  rw [sequence_fits_loop1] at hm
  refine WP.seq (WP.region (V rfl (ov_lss rfl rfl rfl) (WL.nil (tn (WP.seq ?_)))))
  refine WP.cond rfl (fun hc4 => ?_) (fun hc4 => ?_)
  ·
   replace hm := ite_t hc4 hm
   refine WP.skip (tn (WP.seq (WP.block (WP.seq (WP.region ?_)))))
   obtain ⟨x1, e2, hm⟩ := bind_some hm
   obtain ⟨h3, h4, h5, cs1, h6, h7⟩ := h2.get e2 (by decide)
   obtain rfl : cs1 = [(.int .i64 x1.actuator), (.bool x1.out)] := h6
   refine V rfl (ov_indexAddr underlying43 sizeOf48 rfl rfl rfl h3 h4 h5) (V rfl (ov_load_elems (vs := [(.int .i64 x1.actuator), (.bool x1.out)]) isAgg48 sizeOf48 rfl rfl rfl h7 h5) ?_)
   refine ws rfl (os_alloc (cs := [(.int .i64 0), (.bool false)]) zeroValue48 rfl rfl (fun b4 => ?_))
   refine ws0 rfl (os_store (i := 0) (vs := [(.int .i64 x1.actuator), (.bool x1.out)]) (cs' := [(.int .i64 x1.actuator), (.bool x1.out)]) sizeOf48 rfl rfl rfl rfl rfl rfl rfl rfl rfl ?_)
   refine WL.nil (tn (WP.seq (WP.region (V rfl (ov_fieldAddr underlying48 rfl rfl rfl sizeOf3 rfl rfl) (Vl 0 isAgg3 rfl (V rfl (ov_fieldAddr underlying24 rfl rfl rfl sizeOf3 rfl rfl) (Vl 3 isAgg3 rfl (V rfl (ov_geq rfl rfl rfl) (WL.nil (tn ?_))))))))))
   refine WP.cond rfl (fun hc5 => ?_) (fun hc5 => ?_)
   ·
    replace hm := ite_t hc5 hm
    refine WP.seq (WP.region (Va rfl (WL.nil (tn (WP.ret (block_ret (then_ret (then_ret (block_ret (then_ret ?_))))))))))
    obtain rfl := Option.some.inj hm
    refine retQ_ret results77 (Res.tmp rfl Res.nil) rfl (fun w' s => ⟨s.below, ?_⟩)
    exact rfl
   replace hm := ite_f hc5 hm
   refine WP.skip (bn (tn (WP.region (V rfl (ov_add rfl rfl rfl) (Vm rfl (WL.nil (tn ?_)))))))
   exact ⟨(IntKind.wrap .i64 (i1 + 1)), (Sub.all rfl), fun w' s => (s.sl [1, 2, 3]), hm⟩
  replace hm := ite_f hc4 hm
  refine WP.exit (then_exit (then_exit (block_here (tn ?_))))
  exact ⟨(Sub.all rfl), fun w' s => (s.sl [0, 1]), hm⟩
 rintro g' S' ⟨hsub2, hS2, hm⟩
 refine WP.sub hsub2 (WP.weaken hS2 ?_)
 replace hm := hk1.symm.trans hm
 obtain ⟨k2, hk2, hm⟩ := joinK_some hm
 refine WP.seq_join (fun g' S' => Sub [(1000000007, (.bool false))] g' ∧ (∀ w', S' w' → St w H [] H w') ∧ k2 = some r) ?_ ?_
 ·
  refine WP.seq (WP.region (V rfl (ov_fieldAddr underlying45 rfl rfl rfl sizeOf43 rfl rfl) (Vl 1 isAgg43 rfl (V rfl (ov_len_slice underlying43 rfl rfl) (Vm rfl (WL.nil (tn (WP.block ?_))))))))
  refine WP.loop (fun m2 g' S' => ∃ (i2 : Int), Sub [(5, (pB b3 0)), (31, (.slice ao2 p_step.strokes.length cap2)), (32, (.int .i64 (p_step.strokes.length : Int))), (33, (.int .i64 i2)), (1000000007, (.bool false))] g' ∧ (∀ w', S' w' → St w H [.blk b3 101 [(.bool p_x.a0), (.bool p_x.a1), (.bool p_x.a2), (.bool p_x.a3), (.bool p_x.a4), (.bool p_x.a5)]] H w') ∧ sequence_fits_loop2 p_step p_x k2 m2 i2 = some r) ((Int.toNat ((p_step.strokes.length : Int) - 0) + 1)) ⟨0, (Sub.all rfl), fun w' s => (s.sl [0]), hm⟩ ?_ ?_
  ·
   rintro g' S' ⟨_, _, _, hm⟩
   exact none_some hm
  rintro m2 g' S' ⟨i2, hsub3, hS3, hm⟩
  refine WP.sub hsub3 (WP.weaken hS3 ?_)
  rw [sequence_fits_loop2] at hm
  refine WP.seq (WP.region (V rfl (ov_lss rfl rfl rfl) (WL.nil (tn (WP.seq ?_)))))
  refine WP.cond rfl (fun hc6 => ?_) (fun hc6 => ?_)
  ·
   replace hm := ite_t hc6 hm
   refine WP.skip (tn (WP.seq (WP.block (WP.seq (WP.region ?_)))))
   obtain ⟨x2, e3, hm⟩ := bind_some hm
   obtain ⟨h8, h9, h10, cs2, h11, h12⟩ := h2.get e3 (by decide)
   obtain rfl : cs2 = [(.int .i64 x2.actuator), (.bool x2.out)] := h11
   refine V rfl (ov_indexAddr underlying43 sizeOf48 rfl rfl rfl h8 h9 h10) (V rfl (ov_load_elems (vs := [(.int .i64 x2.actuator), (.bool x2.out)]) isAgg48 sizeOf48 rfl rfl rfl h12 h10) ?_)
   refine ws rfl (os_alloc (cs := [(.int .i64 0), (.bool false)]) zeroValue48 rfl rfl (fun b5 => ?_))
   refine ws0 rfl (os_store (i := 0) (vs := [(.int .i64 x2.actuator), (.bool x2.out)]) (cs' := [(.int .i64 x2.actuator), (.bool x2.out)]) sizeOf48 rfl rfl rfl rfl rfl rfl rfl rfl rfl ?_)
   refine WL.nil (tn ?_)
   obtain ⟨k3, hk3, hm⟩ := joinK_some hm
   refine WP.seq_join (fun g' S' => ∃ (c1 : Bool), Sub [(5, (pB b3 0)), (31, (.slice ao2 p_step.strokes.length cap2)), (32, (.int .i64 (p_step.strokes.length : Int))), (33, (.int .i64 i2)), (43, (.bool c1)), (1000000007, (.bool false))] g' ∧ (∀ w', S' w' → St w H [.blk b3 101 [(.bool p_x.a0), (.bool p_x.a1), (.bool p_x.a2), (.bool p_x.a3), (.bool p_x.a4), (.bool p_x.a5)]] H w') ∧ k3 c1 = some r) ?_ ?_
   ·
    refine WP.region_draws (by kernel_rfl) (by kernel_rfl) (fun _ s => s.drew) ?_
    refine qf rfl (ov_fieldAddr underlying48 rfl rfl rfl sizeOf3 rfl rfl) ?_
    refine qf rfl (ov_load_box (i := 0) isAgg3 rfl rfl rfl rfl) ?_
    rcases Bool.eq_false_or_eq_true (x2.actuator == 0) with hc7 | hc7
    ·
     replace hm := ite_t hc7 hm
     refine qf rfl (ov_indexAddr_at (j := 0) underlying101 sizeOf4 rfl rfl rfl (eq_of_beq hc7) rfl) ?_
     refine qf rfl (ov_load_box (i := 1) isAgg4 rfl rfl rfl rfl) ?_
     refine qf rfl (ov_fieldAddr underlying48 rfl rfl rfl sizeOf4 rfl rfl) ?_
     refine qf rfl (ov_load_box (i := 0) isAgg4 rfl rfl rfl rfl) ?_
     refine qf rfl (ov_beql underlying4 rfl rfl rfl) ?_
     refine QL.nil ?_
     refine tn ?_
     exact ⟨(p_x.a0 == x2.out), (Sub.all rfl), fun w' s => (s.sl [1]), hm⟩
    replace hm := ite_f hc7 hm
    rcases Bool.eq_false_or_eq_true (x2.actuator == 1) with hc8 | hc8
    ·
     replace hm := ite_t hc8 hm
     refine qf rfl (ov_indexAddr_at (j := 1) underlying101 sizeOf4 rfl rfl rfl (eq_of_beq hc8) rfl) ?_
     refine qf rfl (ov_load_box (i := 1) isAgg4 rfl rfl rfl rfl) ?_
     refine qf rfl (ov_fieldAddr underlying48 rfl rfl rfl sizeOf4 rfl rfl) ?_
     refine qf rfl (ov_load_box (i := 0) isAgg4 rfl rfl rfl rfl) ?_
     refine qf rfl (ov_beql underlying4 rfl rfl rfl) ?_
     refine QL.nil ?_
     refine tn ?_
     exact ⟨(p_x.a1 == x2.out), (Sub.all rfl), fun w' s => (s.sl [1]), hm⟩
    replace hm := ite_f hc8 hm
    rcases Bool.eq_false_or_eq_true (x2.actuator == 2) with hc9 | hc9
    ·
     replace hm := ite_t hc9 hm
     refine qf rfl (ov_indexAddr_at (j := 2) underlying101 sizeOf4 rfl rfl rfl (eq_of_beq hc9) rfl) ?_
     refine qf rfl (ov_load_box (i := 1) isAgg4 rfl rfl rfl rfl) ?_
     refine qf rfl (ov_fieldAddr underlying48 rfl rfl rfl sizeOf4 rfl rfl) ?_
     refine qf rfl (ov_load_box (i := 0) isAgg4 rfl rfl rfl rfl) ?_
     refine qf rfl (ov_beql underlying4 rfl rfl rfl) ?_
     refine QL.nil ?_
     refine tn ?_
     exact ⟨(p_x.a2 == x2.out), (Sub.all rfl), fun w' s => (s.sl [1]), hm⟩
    replace hm := ite_f hc9 hm
    rcases Bool.eq_false_or_eq_true (x2.actuator == 3) with hc10 | hc10
    ·
     replace hm := ite_t hc10 hm
     refine qf rfl (ov_indexAddr_at (j := 3) underlying101 sizeOf4 rfl rfl rfl (eq_of_beq hc10) rfl) ?_
     refine qf rfl (ov_load_box (i := 1) isAgg4 rfl rfl rfl rfl) ?_
     refine qf rfl (ov_fieldAddr underlying48 rfl rfl rfl sizeOf4 rfl rfl) ?_
     refine qf rfl (ov_load_box (i := 0) isAgg4 rfl rfl rfl rfl) ?_
     refine qf rfl (ov_beql underlying4 rfl rfl rfl) ?_
     refine QL.nil ?_
     refine tn ?_
     exact ⟨(p_x.a3 == x2.out), (Sub.all rfl), fun w' s => (s.sl [1]), hm⟩
    replace hm := ite_f hc10 hm
    rcases Bool.eq_false_or_eq_true (x2.actuator == 4) with hc11 | hc11
    ·
     replace hm := ite_t hc11 hm
     refine qf rfl (ov_indexAddr_at (j := 4) underlying101 sizeOf4 rfl rfl rfl (eq_of_beq hc11) rfl) ?_
     refine qf rfl (ov_load_box (i := 1) isAgg4 rfl rfl rfl rfl) ?_
     refine qf rfl (ov_fieldAddr underlying48 rfl rfl rfl sizeOf4 rfl rfl) ?_
     refine qf rfl (ov_load_box (i := 0) isAgg4 rfl rfl rfl rfl) ?_
     refine qf rfl (ov_beql underlying4 rfl rfl rfl) ?_
     refine QL.nil ?_
     refine tn ?_
     exact ⟨(p_x.a4 == x2.out), (Sub.all rfl), fun w' s => (s.sl [1]), hm⟩
    replace hm := ite_f hc11 hm
    rcases Bool.eq_false_or_eq_true (x2.actuator == 5) with hc12 | hc12
    ·
     replace hm := ite_t hc12 hm
     refine qf rfl (ov_indexAddr_at (j := 5) underlying101 sizeOf4 rfl rfl rfl (eq_of_beq hc12) rfl) ?_
     refine qf rfl (ov_load_box (i := 1) isAgg4 rfl rfl rfl rfl) ?_
     refine qf rfl (ov_fieldAddr underlying48 rfl rfl rfl sizeOf4 rfl rfl) ?_
     refine qf rfl (ov_load_box (i := 0) isAgg4 rfl rfl rfl rfl) ?_
     refine qf rfl (ov_beql underlying4 rfl rfl rfl) ?_
     refine QL.nil ?_
     refine tn ?_
     exact ⟨(p_x.a5 == x2.out), (Sub.all rfl), fun w' s => (s.sl [1]), hm⟩
    replace hm := ite_f hc12 hm
    exact (none_some hm).elim
   rintro g' S' ⟨c1, hsub4, hS4, hm⟩
   refine WP.sub hsub4 (WP.weaken hS4 ?_)
   replace hm := (congrFun hk3 c1).symm.trans hm
   refine WP.cond rfl (fun hc13 => ?_) (fun hc13 => ?_)
   ·
    replace hm := ite_t hc13 hm
    refine WP.seq (WP.region (Va rfl (WL.nil (tn (WP.ret (block_ret (then_ret (then_ret (block_ret (then_ret ?_))))))))))
    obtain rfl := Option.some.inj hm
    refine retQ_ret results77 (Res.tmp rfl Res.nil) rfl (fun w' s => ⟨s.below, ?_⟩)
    exact rfl
   replace hm := ite_f hc13 hm
   refine WP.skip (bn (tn (WP.region (V rfl (ov_add rfl rfl rfl) (Vm rfl (WL.nil (tn ?_)))))))
   exact ⟨(IntKind.wrap .i64 (i2 + 1)), (Sub.all rfl), fun w' s => s, hm⟩
  replace hm := ite_f hc6 hm
  refine WP.exit (then_exit (then_exit (block_here (tn ?_))))
  exact ⟨(Sub.all rfl), fun w' s => (s.sl []), hm⟩
 rintro g' S' ⟨hsub5, hS5, hm⟩
 refine WP.sub hsub5 (WP.weaken hS5 ?_)
 replace hm := hk2.symm.trans hm
 refine WP.seq (WP.region (Va rfl (WL.nil (tn (WP.ret ?_)))))
 obtain rfl := Option.some.inj hm
 refine retQ_ret results77 (Res.tmp rfl Res.nil) rfl (fun w' s => ⟨s.below, ?_⟩)
 exact rfl
theorem slices_Index_boolbool_con (p_s : (List Bool)) (p_v : Bool) (ao1 : Option Addr) (cap1 : Nat) (w : World) (H : Heap) (hH : Le H (hp w)) (h1 : SL H encBool ao1 p_s) (hc1 : p_s.length ≤ cap1) (hG : Glob H) (r : Int) (hm : slices_Index_boolbool p_s p_v = some r) :
  Con prog 114 [(.slice ao1 p_s.length cap1), (.bool p_v)] w H (fun v _ => v = (.int .i64 r)) := by
 unfold slices_Index_boolbool at hm
 refine con_of hH func114 rfl 19 ntmps114 rfl ?_
 refine WP.seq (WP.region (Va rfl (WL.nil (tn ?_))))
 obtain ⟨k1, hk1, hm⟩ := joinK_some hm
 refine WP.seq_join (fun g' S' => Sub [(1000000007, (.bool false))] g' ∧ (∀ w', S' w' → St w H [] H w') ∧ k1 = some r) ?_ ?_
 ·
  refine WP.seq (WP.region (Vm rfl (V rfl (ov_len_slice underlying49 rfl rfl) (Vm rfl (WL.nil (tn (WP.block ?_)))))))
  refine WP.loop (fun m1 g' S' => ∃ (i1 : Int), Sub [(0, (.slice ao1 p_s.length cap1)), (1, (.bool p_v)), (7, (.int .i64 (p_s.length : Int))), (8, (.int .i64 i1)), (1000000007, (.bool false))] g' ∧ (∀ w', S' w' → St w H [] H w') ∧ slices_Index_boolbool_loop1 p_s p_v k1 m1 i1 = some r) ((Int.toNat ((p_s.length : Int) - 0) + 1)) ⟨0, (Sub.all rfl), fun w' s => s, hm⟩ ?_ ?_
  ·
   rintro g' S' ⟨_, _, _, hm⟩
   exact none_some hm
  rintro m1 g' S' ⟨i1, hsub1, hS1, hm⟩
  refine WP.sub hsub1 (WP.weaken hS1 ?_)
  rw [slices_Index_boolbool_loop1] at hm
  refine WP.seq (WP.region (V rfl (ov_lss rfl rfl rfl) (WL.nil (tn (WP.seq ?_)))))
  refine WP.cond rfl (fun hc2 => ?_) (fun hc2 => ?_)
  ·
   replace hm := ite_t hc2 hm
   refine WP.skip (tn (WP.seq (WP.block (WP.seq (WP.region (Vm rfl (Va rfl (WL.nil (tn (WP.seq (WP.region (Vm rfl (Vm rfl ?_)))))))))))))
   refine Vm rfl ?_
   obtain ⟨x1, e1, hm⟩ := bind_some hm
   obtain ⟨h2, h3, h4, cs1, h5, h6⟩ := h1.get e1 (by decide)
   obtain rfl : cs1 = [(.bool x1)] := h5
   refine V rfl (ov_indexAddr underlying49 sizeOf4 rfl rfl rfl h2 h3 h4) (V rfl (ov_load_elem (v := (.bool x1)) isAgg4 rfl rfl h6) (V rfl (ov_beql underlying4 rfl rfl rfl) (WL.nil (tn ?_))))
   refine WP.cond rfl (fun hc3 => ?_) (fun hc3 => ?_)
   ·
    replace hm := ite_t hc3 hm
    refine WP.seq (WP.region (Vm rfl (Va rfl (WL.nil (tn (WP.ret (block_ret (then_ret (then_ret (block_ret (then_ret ?_)))))))))))
    obtain rfl := Option.some.inj hm
    refine retQ_ret results114 (Res.tmp rfl Res.nil) rfl (fun w' s => ⟨s.below, ?_⟩)
    exact rfl
   replace hm := ite_f hc3 hm
   refine WP.skip (bn (tn (WP.region (V rfl (ov_add rfl rfl rfl) (Vm rfl (WL.nil (tn ?_)))))))
   exact ⟨(IntKind.wrap .i64 (i1 + 1)), (Sub.all rfl), fun w' s => s, hm⟩
  replace hm := ite_f hc2 hm
  refine WP.exit (then_exit (then_exit (block_here (tn ?_))))
  exact ⟨(Sub.all rfl), fun w' s => s, hm⟩
 rintro g' S' ⟨hsub2, hS2, hm⟩
 refine WP.sub hsub2 (WP.weaken hS2 ?_)
 replace hm := hk1.symm.trans hm
 refine WP.seq (WP.region (Va rfl (WL.nil (tn (WP.ret ?_)))))
 obtain rfl := Option.some.inj hm
 refine retQ_ret results114 (Res.tmp rfl Res.nil) rfl (fun w' s => ⟨s.below, ?_⟩)
 exact rfl
theorem slices_Contains_boolbool_con (p_s : (List Bool)) (p_v : Bool) (ao1 : Option Addr) (cap1 : Nat) (w : World) (H : Heap) (hH : Le H (hp w)) (h1 : SL H encBool ao1 p_s) (hc1 : p_s.length ≤ cap1) (hG : Glob H) (r : Bool) (hm : slices_Contains_boolbool p_s p_v = some r) :
  Con prog 79 [(.slice ao1 p_s.length cap1), (.bool p_v)] w H (fun v _ => v = (.bool r)) := by
 unfold slices_Contains_boolbool at hm
 refine con_of hH func79 rfl 9 ntmps79 rfl ?_
 refine WP.seq (WP.region (Va rfl (WL.nil (tn (WP.seq (WP.region (Vm rfl (Vm rfl ?_))))))))
 obtain ⟨r1, e1, hm⟩ := bind_some hm
 refine wo rfl (oq_con (r := (.int .i64 r1)) call114 rfl rfl (fun w' s => ⟨_, (slices_Index_boolbool_con p_s p_v ao1 cap1  w' H s.hold h1 hc1 hG r1 e1)⟩)) ?_
 refine V rfl (ov_geq rfl rfl rfl) (Va rfl (WL.nil (tn (WP.ret ?_))))
 obtain rfl := Option.some.inj hm
 refine retQ_ret results79 (Res.tmp rfl Res.nil) rfl (fun w' s => ⟨s.below, ?_⟩)
 exact rfl
theorem sequence_Check_con (p_s : Sequence) (ao1 : Option Addr) (cap1 : Nat) (w : World) (H : Heap) (hH : Le H (hp w)) (h1 : SL H encStep ao1 p_s.steps) (hc1 : p_s.steps.length ≤ cap1) (hG : Glob H) (r : Int) (hm : sequence_Check p_s = some r) :
  Con prog 40 [(.agg #[(.int .i64 p_s.actuators), (.slice ao1 p_s.steps.length cap1)])] w H (fun v _ => v = (.int .i64 r)) := by
 unfold sequence_Check at hm
 refine con_of hH func40 rfl 65 ntmps40 rfl ?_
 refine WP.seq (WP.region ?_)
 refine ws rfl (os_box (cs := [(.int .i64 p_s.actuators), (.slice ao1 p_s.steps.length cap1)]) rfl rfl rfl (fun b1 => ?_))
 refine Va rfl (WL.nil (tn (WP.seq (WP.block (WP.seq (WP.region (V rfl (ov_fieldAddr underlying24 rfl rfl rfl sizeOf3 rfl rfl) (Vl 0 isAgg3 rfl (V rfl (ov_lss rfl rfl rfl) (Vm rfl ?_))))))))))
 refine WL.cut_bool 4 18 (x := ((decide (p_s.actuators < 1)) || (decide (p_s.actuators > 6)))) ?_ ?_
 ·
  rcases Bool.eq_false_or_eq_true (decide (p_s.actuators < 1)) with hc2 | hc2
  ·
   refine Vi rfl (Idle.no rfl rfl rfl hc2) (Vi rfl (Idle.no rfl rfl rfl hc2) (Vi rfl (Idle.no rfl rfl rfl hc2) (V rfl (ov_pick_true rfl (guard_eq rfl hc2) rfl) ?_)))
   exact WL.nil ⟨Sub.cons' rfl (congrArg Value.bool (orT hc2)) (Sub.dropn 4 rfl), fun _ s => s⟩
  refine wy hc2 rfl (ov_fieldAddr underlying24 rfl rfl rfl sizeOf3 rfl rfl) ?_
  refine wy hc2 rfl (ov_load_box (i := 0) isAgg3 rfl rfl rfl rfl) ?_
  refine wy hc2 rfl (ov_gtr rfl rfl rfl) ?_
  refine V rfl (ov_pick_false rfl (guard_eq rfl hc2) rfl) ?_
  exact WL.nil ⟨Sub.cons' rfl (congrArg Value.bool (orF hc2)) (Sub.dropn 4 rfl), fun _ s => s⟩
 refine Va rfl (WL.nil (tn ?_))
 refine WP.cond rfl (fun hc3 => ?_) (fun hc3 => ?_)
 ·
  replace hm := ite_t hc3 hm
  refine WP.seq (WP.region (Va rfl (WL.nil (tn (WP.ret (block_ret (then_ret ?_)))))))
  obtain rfl := Option.some.inj hm
  refine retQ_ret results40 (Res.tmp rfl Res.nil) rfl (fun w' s => ⟨s.below, ?_⟩)
  exact rfl
 replace hm := ite_f hc3 hm
 refine WP.seq (WP.region (V rfl (ov_fieldAddr underlying24 rfl rfl rfl sizeOf22 rfl rfl) (Vl 0 isAgg22 rfl (V rfl (ov_len_slice underlying22 rfl rfl) (V rfl (ov_eql rfl rfl rfl) (Va rfl (WL.nil (tn ?_))))))))
 refine WP.cond rfl (fun hc4 => ?_) (fun hc4 => ?_)
 ·
  replace hm := ite_t hc4 hm
  refine WP.seq (WP.region (Va rfl (WL.nil (tn (WP.ret (block_ret (then_ret ?_)))))))
  obtain rfl := Option.some.inj hm
  refine retQ_ret results40 (Res.tmp rfl Res.nil) rfl (fun w' s => ⟨s.below, ?_⟩)
  exact rfl
 replace hm := ite_f hc4 hm
 refine WP.seq (WP.region (V rfl (ov_fieldAddr underlying24 rfl rfl rfl sizeOf22 rfl rfl) (Vl 0 isAgg22 rfl (V rfl (ov_len_slice underlying22 rfl rfl) (V rfl (ov_gtr rfl rfl rfl) (Va rfl (WL.nil (tn ?_))))))))
 refine WP.cond rfl (fun hc5 => ?_) (fun hc5 => ?_)
 ·
  replace hm := ite_t hc5 hm
  refine WP.seq (WP.region (Va rfl (WL.nil (tn (WP.ret (block_ret (then_ret ?_)))))))
  obtain rfl := Option.some.inj hm
  refine retQ_ret results40 (Res.tmp rfl Res.nil) rfl (fun w' s => ⟨s.below, ?_⟩)
  exact rfl
 replace hm := ite_f hc5 hm
 refine WP.skip (bn (tn (WP.seq (WP.region ?_))))
 refine ws rfl (os_alloc (cs := [(.bool false), (.bool false), (.bool false), (.bool false), (.bool false), (.bool false)]) zeroValue101 rfl rfl (fun b2 => ?_))
 refine ws rfl (os_alloc (cs := [(.bool false), (.bool false), (.bool false), (.bool false), (.bool false), (.bool false)]) zeroValue101 rfl rfl (fun b3 => ?_))
 refine WL.nil (tn ?_)
 obtain ⟨k1, hk1, hm⟩ := joinK_some hm
 refine WP.seq_join (fun g' S' => ∃ (c31 : Bool) (c32 : Bool) (c33 : Bool) (c34 : Bool) (c35 : Bool) (c36 : Bool) (c37 : Bool) (c38 : Bool) (c39 : Bool) (c40 : Bool) (c41 : Bool) (c42 : Bool), Sub [(1, (pB b1 0)), (3, (pB b2 0)), (4, (pB b3 0)), (1000000007, (.bool false))] g' ∧ (∀ w', S' w' → St w H [.blk b3 101 [(.bool c37), (.bool c38), (.bool c39), (.bool c40), (.bool c41), (.bool c42)], .blk b2 101 [(.bool c31), (.bool c32), (.bool c33), (.bool c34), (.bool c35), (.bool c36)], .blk b1 24 [(.int .i64 p_s.actuators), (.slice ao1 p_s.steps.length cap1)]] H w') ∧ k1 c31 c32 c33 c34 c35 c36 c37 c38 c39 c40 c41 c42 = some r) ?_ ?_
 ·
  refine WP.seq (WP.region (V rfl (ov_fieldAddr underlying24 rfl rfl rfl sizeOf22 rfl rfl) (Vl 2 isAgg22 rfl (V rfl (ov_len_slice underlying22 rfl rfl) (Vm rfl (WL.nil (tn (WP.block ?_))))))))
  refine WP.loop (fun m1 g' S' => ∃ (i1 : Int) (c1 : Bool) (c2 : Bool) (c3 : Bool) (c4 : Bool) (c5 : Bool) (c6 : Bool) (c7 : Bool) (c8 : Bool) (c9 : Bool) (c10 : Bool) (c11 : Bool) (c12 : Bool), Sub [(1, (pB b1 0)), (3, (pB b2 0)), (4, (pB b3 0)), (30, (.slice ao1 p_s.steps.length cap1)), (31, (.int .i64 (p_s.steps.length : Int))), (32, (.int .i64 i1)), (1000000007, (.bool false))] g' ∧ (∀ w', S' w' → St w H [.blk b3 101 [(.bool c7), (.bool c8), (.bool c9), (.bool c10), (.bool c11), (.bool c12)], .blk b2 101 [(.bool c1), (.bool c2), (.bool c3), (.bool c4), (.bool c5), (.bool c6)], .blk b1 24 [(.int .i64 p_s.actuators), (.slice ao1 p_s.steps.length cap1)]] H w') ∧ sequence_Check_loop1 p_s k1 m1 i1 c1 c2 c3 c4 c5 c6 c7 c8 c9 c10 c11 c12 = some r) ((Int.toNat ((p_s.steps.length : Int) - 0) + 1)) ⟨0, false, false, false, false, false, false, false, false, false, false, false, false, (Sub.all rfl), fun w' s => s, hm⟩ ?_ ?_
  ·
   rintro g' S' ⟨_, _, _, _, _, _, _, _, _, _, _, _, _, _, _, hm⟩
   exact none_some hm
  rintro m1 g' S' ⟨i1, c1, c2, c3, c4, c5, c6, c7, c8, c9, c10, c11, c12, hsub1, hS1, hm⟩
  refine WP.sub hsub1 (WP.weaken hS1 ?_)
  rw [sequence_Check_loop1] at hm
  refine WP.seq (WP.region (V rfl (ov_lss rfl rfl rfl) (WL.nil (tn (WP.seq ?_)))))
  refine WP.cond rfl (fun hc6 => ?_) (fun hc6 => ?_)
  ·
   replace hm := ite_t hc6 hm
   refine WP.skip (tn ?_)
   obtain ⟨k2, hk2, hm⟩ := joinK_some hm
   refine WP.seq_join (fun g' S' => ∃ (c19 : Bool) (c20 : Bool) (c21 : Bool) (c22 : Bool) (c23 : Bool) (c24 : Bool) (c25 : Bool) (c26 : Bool) (c27 : Bool) (c28 : Bool) (c29 : Bool) (c30 : Bool), Sub [(1, (pB b1 0)), (3, (pB b2 0)), (4, (pB b3 0)), (30, (.slice ao1 p_s.steps.length cap1)), (31, (.int .i64 (p_s.steps.length : Int))), (32, (.int .i64 i1)), (1000000007, (.bool false))] g' ∧ (∀ w', S' w' → St w H [.blk b3 101 [(.bool c25), (.bool c26), (.bool c27), (.bool c28), (.bool c29), (.bool c30)], .blk b2 101 [(.bool c19), (.bool c20), (.bool c21), (.bool c22), (.bool c23), (.bool c24)], .blk b1 24 [(.int .i64 p_s.actuators), (.slice ao1 p_s.steps.length cap1)]] H w') ∧ k2 c19 c20 c21 c22 c23 c24 c25 c26 c27 c28 c29 c30 = some r) ?_ ?_
   ·
    refine WP.block (WP.seq (WP.region ?_))
    obtain ⟨x1, e1, hm⟩ := bind_some hm
    obtain ⟨h3, h4, h5, cs1, h6, h7⟩ := h1.get e1 (by decide)
    obtain ⟨ao2, cap2, rfl, h2, hc7⟩ := h6
    refine V rfl (ov_indexAddr underlying22 sizeOf45 rfl rfl rfl h3 h4 h5) (V rfl (ov_load_elems (vs := [(.slice ao2 x1.strokes.length cap2), (.int .i64 x1.wait)]) isAgg45 sizeOf45 rfl rfl rfl h7 h5) ?_)
    refine ws rfl (os_alloc (cs := [(.slice none 0 0), (.int .i64 0)]) zeroValue45 rfl rfl (fun b4 => ?_))
    refine ws0 rfl (os_store (i := 0) (vs := [(.slice ao2 x1.strokes.length cap2), (.int .i64 x1.wait)]) (cs' := [(.slice ao2 x1.strokes.length cap2), (.int .i64 x1.wait)]) sizeOf45 rfl rfl rfl rfl rfl rfl rfl rfl rfl ?_)
    refine WL.nil (tn (WP.seq (WP.seq (WP.region (V rfl (ov_load_whole (i := 3) isAgg24 sizeOf24 rfl rfl rfl rfl) (V rfl (ov_load_whole (i := 0) isAgg45 sizeOf45 rfl rfl rfl rfl) (V rfl (ov_load_whole (i := 2) isAgg101 sizeOf101 rfl rfl rfl rfl) ?_)))))))
    obtain ⟨r1, e2, hm⟩ := bind_some hm
    refine wo rfl (oq_con (r := (.int .i64 r1)) call77 rfl rfl (fun w' s => ⟨_, (sequence_fits_con p_s x1 (Ends6.mk c1 c2 c3 c4 c5 c6) ao1 cap1 ao2 cap2  w' H s.hold h1 hc1 h2 hc7 hG r1 e2)⟩)) ?_
    refine Va rfl (WL.nil (tn (WP.seq (WP.region (Vm rfl (V rfl (ov_neq rfl rfl rfl) (WL.nil (tn ?_))))))))
    refine WP.cond rfl (fun hc8 => ?_) (fun hc8 => ?_)
    ·
     replace hm := ite_t hc8 hm
     refine WP.seq (WP.region (Vm rfl (Va rfl (WL.nil (tn (WP.ret (then_ret (block_ret (then_ret (then_ret (block_ret (then_ret ?_))))))))))))
     obtain rfl := Option.some.inj hm
     refine retQ_ret results40 (Res.tmp rfl Res.nil) rfl (fun w' s => ⟨s.below, ?_⟩)
     exact rfl
    replace hm := ite_f hc8 hm
    refine WP.skip (tn (WP.seq (WP.region (V rfl (ov_load_whole (i := 2) isAgg101 sizeOf101 rfl rfl rfl rfl) (V rfl (ov_load_whole (i := 0) isAgg45 sizeOf45 rfl rfl rfl rfl) ?_)))))
    obtain ⟨r2, e3, hm⟩ := bind_some hm
    refine wo rfl (oq_con (r := (.agg #[(.bool r2.a0), (.bool r2.a1), (.bool r2.a2), (.bool r2.a3), (.bool r2.a4), (.bool r2.a5)])) call78 rfl rfl (fun w' s => ⟨_, (sequence_ends_behind_con (Ends6.mk c1 c2 c3 c4 c5 c6) x1 ao2 cap2  w' H s.hold h2 hc7 hG r2 e3)⟩)) ?_
    refine ws0 rfl (os_store (i := 2) (vs := [(.bool r2.a0), (.bool r2.a1), (.bool r2.a2), (.bool r2.a3), (.bool r2.a4), (.bool r2.a5)]) (cs' := [(.bool r2.a0), (.bool r2.a1), (.bool r2.a2), (.bool r2.a3), (.bool r2.a4), (.bool r2.a5)]) sizeOf101 rfl rfl rfl rfl rfl rfl rfl rfl rfl ?_)
    refine WL.nil (tn (WP.seq (WP.region (V rfl (ov_fieldAddr underlying45 rfl rfl rfl sizeOf43 rfl rfl) (Vl 0 isAgg43 rfl (V rfl (ov_len_slice underlying43 rfl rfl) (Vm rfl (WL.nil (tn (WP.block ?_))))))))))
    refine WP.loop (fun m2 g' S' => ∃ (i2 : Int) (c13 : Bool) (c14 : Bool) (c15 : Bool) (c16 : Bool) (c17 : Bool) (c18 : Bool), Sub [(1, (pB b1 0)), (3, (pB b2 0)), (4, (pB b3 0)), (30, (.slice ao1 p_s.steps.length cap1)), (31, (.int .i64 (p_s.steps.length : Int))), (32, (.int .i64 i1)), (47, (.slice ao2 x1.strokes.length cap2)), (48, (.int .i64 (x1.strokes.length : Int))), (49, (.int .i64 i2)), (1000000007, (.bool false))] g' ∧ (∀ w', S' w' → St w H [.blk b3 101 [(.bool c13), (.bool c14), (.bool c15), (.bool c16), (.bool c17), (.bool c18)], .blk b2 101 [(.bool r2.a0), (.bool r2.a1), (.bool r2.a2), (.bool r2.a3), (.bool r2.a4), (.bool r2.a5)], .blk b1 24 [(.int .i64 p_s.actuators), (.slice ao1 p_s.steps.length cap1)]] H w') ∧ sequence_Check_loop2 k2 x1 r2 m2 i2 c13 c14 c15 c16 c17 c18 = some r) ((Int.toNat ((x1.strokes.length : Int) - 0) + 1)) ⟨0, c7, c8, c9, c10, c11, c12, (Sub.all rfl), fun w' s => (s.sl [1, 2, 3]), hm⟩ ?_ ?_
    ·
     rintro g' S' ⟨_, _, _, _, _, _, _, _, _, hm⟩
     exact none_some hm
    rintro m2 g' S' ⟨i2, c13, c14, c15, c16, c17, c18, hsub2, hS2, hm⟩
    refine WP.sub hsub2 (WP.weaken hS2 ?_)
    rw [sequence_Check_loop2] at hm
    refine WP.seq (WP.region (V rfl (ov_lss rfl rfl rfl) (WL.nil (tn (WP.seq ?_)))))
    refine WP.cond rfl (fun hc9 => ?_) (fun hc9 => ?_)
    ·
     replace hm := ite_t hc9 hm
     refine WP.skip (tn (WP.seq (WP.block (WP.seq (WP.region ?_)))))
     obtain ⟨x2, e4, hm⟩ := bind_some hm
     obtain ⟨h8, h9, h10, cs2, h11, h12⟩ := h2.get e4 (by decide)
     obtain rfl : cs2 = [(.int .i64 x2.actuator), (.bool x2.out)] := h11
     refine V rfl (ov_indexAddr underlying43 sizeOf48 rfl rfl rfl h8 h9 h10) (V rfl (ov_load_elems (vs := [(.int .i64 x2.actuator), (.bool x2.out)]) isAgg48 sizeOf48 rfl rfl rfl h12 h10) ?_)
     refine ws rfl (os_alloc (cs := [(.int .i64 0), (.bool false)]) zeroValue48 rfl rfl (fun b5 => ?_))
     refine ws0 rfl (os_store (i := 0) (vs := [(.int .i64 x2.actuator), (.bool x2.out)]) (cs' := [(.int .i64 x2.actuator), (.bool x2.out)]) sizeOf48 rfl rfl rfl rfl rfl rfl rfl rfl rfl ?_)
     refine WL.nil (tn (WP.region (V rfl (ov_fieldAddr underlying48 rfl rfl rfl sizeOf3 rfl rfl) (Vl 0 isAgg3 rfl ?_))))
     rcases Bool.eq_false_or_eq_true (x2.actuator == 0) with hc10 | hc10
     ·
      replace hm := ite_t hc10 hm
      refine V rfl (ov_indexAddr_at (j := 0) underlying101 sizeOf4 rfl rfl rfl (eq_of_beq hc10) rfl) ?_
      refine ws0 rfl (os_store (i := 1) (vs := [(.bool true)]) (cs' := [(.bool true), (.bool c14), (.bool c15), (.bool c16), (.bool c17), (.bool c18)]) sizeOf4 rfl rfl rfl rfl rfl rfl rfl rfl rfl ?_)
      refine WL.nil (bn (tn (WP.region (V rfl (ov_add rfl rfl rfl) (Vm rfl (WL.nil (tn ?_)))))))
      exact ⟨(IntKind.wrap .i64 (i2 + 1)), true, c14, c15, c16, c17, c18, (Sub.all rfl), fun w' s => (s.sl [1, 2, 3]), hm⟩
     replace hm := ite_f hc10 hm
     rcases Bool.eq_false_or_eq_true (x2.actuator == 1) with hc11 | hc11
     ·
      replace hm := ite_t hc11 hm
      refine V rfl (ov_indexAddr_at (j := 1) underlying101 sizeOf4 rfl rfl rfl (eq_of_beq hc11) rfl) ?_
      refine ws0 rfl (os_store (i := 1) (vs := [(.bool true)]) (cs' := [(.bool c13), (.bool true), (.bool c15), (.bool c16), (.bool c17), (.bool c18)]) sizeOf4 rfl rfl rfl rfl rfl rfl rfl rfl rfl ?_)
      refine WL.nil (bn (tn (WP.region (V rfl (ov_add rfl rfl rfl) (Vm rfl (WL.nil (tn ?_)))))))
      exact ⟨(IntKind.wrap .i64 (i2 + 1)), c13, true, c15, c16, c17, c18, (Sub.all rfl), fun w' s => (s.sl [1, 2, 3]), hm⟩
     replace hm := ite_f hc11 hm
     rcases Bool.eq_false_or_eq_true (x2.actuator == 2) with hc12 | hc12
     ·
      replace hm := ite_t hc12 hm
      refine V rfl (ov_indexAddr_at (j := 2) underlying101 sizeOf4 rfl rfl rfl (eq_of_beq hc12) rfl) ?_
      refine ws0 rfl (os_store (i := 1) (vs := [(.bool true)]) (cs' := [(.bool c13), (.bool c14), (.bool true), (.bool c16), (.bool c17), (.bool c18)]) sizeOf4 rfl rfl rfl rfl rfl rfl rfl rfl rfl ?_)
      refine WL.nil (bn (tn (WP.region (V rfl (ov_add rfl rfl rfl) (Vm rfl (WL.nil (tn ?_)))))))
      exact ⟨(IntKind.wrap .i64 (i2 + 1)), c13, c14, true, c16, c17, c18, (Sub.all rfl), fun w' s => (s.sl [1, 2, 3]), hm⟩
     replace hm := ite_f hc12 hm
     rcases Bool.eq_false_or_eq_true (x2.actuator == 3) with hc13 | hc13
     ·
      replace hm := ite_t hc13 hm
      refine V rfl (ov_indexAddr_at (j := 3) underlying101 sizeOf4 rfl rfl rfl (eq_of_beq hc13) rfl) ?_
      refine ws0 rfl (os_store (i := 1) (vs := [(.bool true)]) (cs' := [(.bool c13), (.bool c14), (.bool c15), (.bool true), (.bool c17), (.bool c18)]) sizeOf4 rfl rfl rfl rfl rfl rfl rfl rfl rfl ?_)
      refine WL.nil (bn (tn (WP.region (V rfl (ov_add rfl rfl rfl) (Vm rfl (WL.nil (tn ?_)))))))
      exact ⟨(IntKind.wrap .i64 (i2 + 1)), c13, c14, c15, true, c17, c18, (Sub.all rfl), fun w' s => (s.sl [1, 2, 3]), hm⟩
     replace hm := ite_f hc13 hm
     rcases Bool.eq_false_or_eq_true (x2.actuator == 4) with hc14 | hc14
     ·
      replace hm := ite_t hc14 hm
      refine V rfl (ov_indexAddr_at (j := 4) underlying101 sizeOf4 rfl rfl rfl (eq_of_beq hc14) rfl) ?_
      refine ws0 rfl (os_store (i := 1) (vs := [(.bool true)]) (cs' := [(.bool c13), (.bool c14), (.bool c15), (.bool c16), (.bool true), (.bool c18)]) sizeOf4 rfl rfl rfl rfl rfl rfl rfl rfl rfl ?_)
      refine WL.nil (bn (tn (WP.region (V rfl (ov_add rfl rfl rfl) (Vm rfl (WL.nil (tn ?_)))))))
      exact ⟨(IntKind.wrap .i64 (i2 + 1)), c13, c14, c15, c16, true, c18, (Sub.all rfl), fun w' s => (s.sl [1, 2, 3]), hm⟩
     replace hm := ite_f hc14 hm
     rcases Bool.eq_false_or_eq_true (x2.actuator == 5) with hc15 | hc15
     ·
      replace hm := ite_t hc15 hm
      refine V rfl (ov_indexAddr_at (j := 5) underlying101 sizeOf4 rfl rfl rfl (eq_of_beq hc15) rfl) ?_
      refine ws0 rfl (os_store (i := 1) (vs := [(.bool true)]) (cs' := [(.bool c13), (.bool c14), (.bool c15), (.bool c16), (.bool c17), (.bool true)]) sizeOf4 rfl rfl rfl rfl rfl rfl rfl rfl rfl ?_)
      refine WL.nil (bn (tn (WP.region (V rfl (ov_add rfl rfl rfl) (Vm rfl (WL.nil (tn ?_)))))))
      exact ⟨(IntKind.wrap .i64 (i2 + 1)), c13, c14, c15, c16, c17, true, (Sub.all rfl), fun w' s => (s.sl [1, 2, 3]), hm⟩
     replace hm := ite_f hc15 hm
     exact (none_some hm).elim
    replace hm := ite_f hc9 hm
    refine WP.exit (then_exit (then_exit (block_here (bn (tn ?_)))))
    exact ⟨r2.a0, r2.a1, r2.a2, r2.a3, r2.a4, r2.a5, c13, c14, c15, c16, c17, c18, (Sub.all rfl), fun w' s => s, hm⟩
   rintro g' S' ⟨c19, c20, c21, c22, c23, c24, c25, c26, c27, c28, c29, c30, hsub3, hS3, hm⟩
   refine WP.sub hsub3 (WP.weaken hS3 ?_)
   replace hm := (congrFun (congrFun (congrFun (congrFun (congrFun (congrFun (congrFun (congrFun (congrFun (congrFun (congrFun (congrFun hk2 c19) c20) c21) c22) c23) c24) c25) c26) c27) c28) c29) c30).symm.trans hm
   refine WP.region (V rfl (ov_add rfl rfl rfl) (Vm rfl (WL.nil (tn ?_))))
   exact ⟨(IntKind.wrap .i64 (i1 + 1)), c19, c20, c21, c22, c23, c24, c25, c26, c27, c28, c29, c30, (Sub.all rfl), fun w' s => s, hm⟩
  replace hm := ite_f hc6 hm
  refine WP.exit (then_exit (then_exit (block_here (tn ?_))))
  exact ⟨c1, c2, c3, c4, c5, c6, c7, c8, c9, c10, c11, c12, (Sub.all rfl), fun w' s => s, hm⟩
 rintro g' S' ⟨c31, c32, c33, c34, c35, c36, c37, c38, c39, c40, c41, c42, hsub4, hS4, hm⟩
 refine WP.sub hsub4 (WP.weaken hS4 ?_)
 replace hm := (congrFun (congrFun (congrFun (congrFun (congrFun (congrFun (congrFun (congrFun (congrFun (congrFun (congrFun (congrFun hk1 c31) c32) c33) c34) c35) c36) c37) c38) c39) c40) c41) c42).symm.trans hm
 refine WP.seq (WP.seq (WP.region (V rfl (ov_load_whole (i := 1) isAgg101 sizeOf101 rfl rfl rfl rfl) (V rfl (ov_build (r := (.agg #[(.bool false), (.bool false), (.bool false), (.bool false), (.bool false), (.bool false)])) rfl rfl (fun _ => by kernel_rfl)) (V rfl (neq_struct101 (a := (Ends6.mk c31 c32 c33 c34 c35 c36)) (b := (Ends6.mk false false false false false false)) rfl rfl rfl) (WL.nil (tn ?_)))))))
 refine WP.cond rfl (fun hc16 => ?_) (fun hc16 => ?_)
 ·
  replace hm := ite_t hc16 hm
  refine WP.seq (WP.region (Va rfl (WL.nil (tn (WP.ret (then_ret ?_))))))
  obtain rfl := Option.some.inj hm
  refine retQ_ret results40 (Res.tmp rfl Res.nil) rfl (fun w' s => ⟨s.below, ?_⟩)
  exact rfl
 replace hm := ite_f hc16 hm
 refine WP.skip (tn (WP.seq (WP.seq (WP.region (V rfl (ov_fieldAddr underlying24 rfl rfl rfl sizeOf3 rfl rfl) (Vl 2 isAgg3 rfl ?_))))))
 refine WL.box_held (fun H1 hle1 hc17 => ?_)
 have h13 : SL H1 encBool (some ⟨b3, 0, none⟩) ([c37, c38, c39, c40, c41, c42] : List Bool) := sl_boxB hc17
 replace hG := hG.mono hle1
 obtain ⟨l1, e5, hm⟩ := bind_some hm
 obtain ⟨ao3, cap3, h14, h15, hc18⟩ := sl_arr_h h13 e5
 refine V rfl (h14 underlying101 sizeOf4 rfl rfl rfl) ?_
 obtain ⟨r3, e6, hm⟩ := bind_some hm
 refine wo rfl (oq_con (r := (.bool r3)) call79 rfl rfl (fun w' s => ⟨_, (slices_Contains_boolbool_con l1 false ao3 cap3  w' H1 s.hold h15 hc18 hG r3 e6)⟩)) ?_
 refine WL.nil (tn ?_)
 refine WP.cond rfl (fun hc19 => ?_) (fun hc19 => ?_)
 ·
  replace hm := ite_t hc19 hm
  refine WP.seq (WP.region (Va rfl (WL.nil (tn (WP.ret (then_ret ?_))))))
  obtain rfl := Option.some.inj hm
  refine retQ_ret results40 (Res.tmp rfl Res.nil) rfl (fun w' s => ⟨s.below, ?_⟩)
  exact rfl
 replace hm := ite_f hc19 hm
 refine WP.skip (tn (WP.seq (WP.region (Va rfl (WL.nil (tn (WP.ret ?_)))))))
 obtain rfl := Option.some.inj hm
 refine retQ_ret results40 (Res.tmp rfl Res.nil) rfl (fun w' s => ⟨s.below, ?_⟩)
 exact rfl
theorem ref14_steps_con (p_s : Sequence) (ao1 : Option Addr) (cap1 : Nat) (w : World) (H : Heap) (hH : Le H (hp w)) (h1 : SL H encStep ao1 p_s.steps) (hc1 : p_s.steps.length ≤ cap1) (hG : Glob H) (r : Int) (hm : ref14_steps p_s = some r) :
  Con prog 75 [(.agg #[(.int .i64 p_s.actuators), (.slice ao1 p_s.steps.length cap1)])] w H (fun v _ => v = (.int .i64 r)) := by
 unfold ref14_steps at hm
 refine con_of hH func75 rfl 62 ntmps75 rfl ?_
 refine WP.seq (WP.region ?_)
 refine ws rfl (os_box (cs := [(.int .i64 p_s.actuators), (.slice ao1 p_s.steps.length cap1)]) rfl rfl rfl (fun b1 => ?_))
 refine Va rfl (WL.nil (tn (WP.seq (WP.region (V rfl (ov_fieldAddr underlying24 rfl rfl rfl sizeOf3 rfl rfl) (Vl 0 isAgg3 rfl ?_))))))
 obtain ⟨u1, e1, hm⟩ := bind_some hm
 replace e1 := guardO_some e1
 refine ws rfl (os_makeSlice (En := encBool) (z := (.bool false)) (y0 := false) (bytes := 1) underlying49 (by kernel_rfl) rfl (by decide) rfl rfl rfl e1 (fun b2 xs1 rl1 => ?_))
 refine Va rfl (WL.nil (tn ?_))
 obtain ⟨k1, hk1, hm⟩ := joinK_some hm
 refine WP.seq_join (fun g' S' => ∃ (H5 : Heap) (l3 : (List Bool)) (ao6 : _) (cap6 : _), Le H H5 ∧ SL H5 encBool ao6 l3 ∧ l3.length ≤ cap6 ∧ Sub [(1, (pB b1 0)), (3, (.slice ao6 l3.length cap6)), (1000000007, (.bool false))] g' ∧ (∀ w', S' w' → St w H [.blk b1 24 [(.int .i64 p_s.actuators), (.slice ao1 p_s.steps.length cap1)]] H5 w') ∧ k1 l3 = some r) ?_ ?_
 ·
  refine WP.seq (WP.region (Va rfl (WL.nil (tn (WP.block ?_)))))
  refine WP.held rl1 (fun H1 hc2 hle1 h2 => ?_)
  replace h1 := h1.mono hle1
  replace hG := hG.mono hle1
  refine WP.loop (fun m1 g' S' => ∃ (H2 : Heap) (l1 : (List Bool)) (ao2 : _) (cap2 : _) (i1 : Int), Le H1 H2 ∧ SL H2 encBool ao2 l1 ∧ l1.length ≤ cap2 ∧ Sub [(1, (pB b1 0)), (3, (.slice ao2 l1.length cap2)), (4, (.int .i64 i1)), (1000000007, (.bool false))] g' ∧ (∀ w', S' w' → St w H [.blk b1 24 [(.int .i64 p_s.actuators), (.slice ao1 p_s.steps.length cap1)]] H2 w') ∧ ref14_steps_loop1 p_s k1 m1 l1 i1 = some r) ((Int.toNat ((p_s.steps.length : Int) - 0) + 1)) ⟨H1, (List.replicate (Int.toNat p_s.actuators) false), (some ⟨b2, 0, none⟩), (Int.toNat p_s.actuators), 0, (Le.refl _), h2, hc2, (Sub.all rfl), fun w' s => s, hm⟩ ?_ ?_
  ·
   rintro g' S' ⟨_, _, _, _, _, _, _, _, _, _, hm⟩
   exact none_some hm
  rintro m1 g' S' ⟨H2, l1, ao2, cap2, i1, hle2, h3, hc3, hsub1, hS1, hm⟩
  refine WP.sub hsub1 (WP.weaken hS1 ?_)
  rw [ref14_steps_loop1] at hm
  replace h1 := h1.mono hle2
  replace hG := hG.mono hle2
  refine WP.seq (WP.seq (WP.region (Vm rfl (V rfl (ov_fieldAddr underlying24 rfl rfl rfl sizeOf22 rfl rfl) (Vl 0 isAgg22 rfl (V rfl (ov_len_slice underlying22 rfl rfl) (V rfl (ov_lss rfl rfl rfl) (WL.nil (tn ?_)))))))))
  refine WP.cond rfl (fun hc4 => ?_) (fun hc4 => ?_)
  ·
   replace hm := ite_t hc4 hm
   refine WP.skip (tn ?_)
   obtain ⟨k2, hk2, hm⟩ := joinK_some hm
   refine WP.seq_join (fun g' S' => ∃ (H4 : Heap) (l2 : (List Bool)) (ao5 : _) (cap5 : _), Le H2 H4 ∧ SL H4 encBool ao5 l2 ∧ l2.length ≤ cap5 ∧ Sub [(1, (pB b1 0)), (3, (.slice ao5 l2.length cap5)), (4, (.int .i64 i1)), (1000000007, (.bool false))] g' ∧ (∀ w', S' w' → St w H [.blk b1 24 [(.int .i64 p_s.actuators), (.slice ao1 p_s.steps.length cap1)]] H4 w') ∧ k2 l2 = some r) ?_ ?_
   ·
    refine WP.block (WP.seq (WP.region (V rfl (ov_fieldAddr underlying24 rfl rfl rfl sizeOf22 rfl rfl) (Vl 0 isAgg22 rfl (Vm rfl ?_)))))
    obtain ⟨x1, e2, hm⟩ := bind_some hm
    obtain ⟨h5, h6, h7, cs1, h8, h9⟩ := h1.get e2 (by decide)
    obtain ⟨ao3, cap3, rfl, h4, hc5⟩ := h8
    refine V rfl (ov_indexAddr underlying22 sizeOf45 rfl rfl rfl h5 h6 h7) (V rfl (ov_load_elems (vs := [(.slice ao3 x1.strokes.length cap3), (.int .i64 x1.wait)]) isAgg45 sizeOf45 rfl rfl rfl h9 h7) ?_)
    refine ws rfl (os_alloc (cs := [(.slice none 0 0), (.int .i64 0)]) zeroValue45 rfl rfl (fun b3 => ?_))
    refine ws0 rfl (os_store (i := 0) (vs := [(.slice ao3 x1.strokes.length cap3), (.int .i64 x1.wait)]) (cs' := [(.slice ao3 x1.strokes.length cap3), (.int .i64 x1.wait)]) sizeOf45 rfl rfl rfl rfl rfl rfl rfl rfl rfl ?_)
    refine WL.nil (tn (WP.seq (WP.seq (WP.region (V rfl (ov_load_whole (i := 0) isAgg45 sizeOf45 rfl rfl rfl rfl) ?_)))))
    obtain ⟨r1, e3, hm⟩ := bind_some hm
    refine wo rfl (oq_con (r := (.int .i64 r1)) call111 rfl rfl (fun w' s => ⟨_, (ref13_CheckStep_con x1 ao3 cap3  w' H2 s.hold h4 hc5 hG r1 e3)⟩)) ?_
    refine Va rfl (WL.nil (tn (WP.seq (WP.region (Vm rfl (V rfl (ov_neq rfl rfl rfl) (WL.nil (tn ?_))))))))
    refine WP.cond rfl (fun hc6 => ?_) (fun hc6 => ?_)
    ·
     replace hm := ite_t hc6 hm
     refine WP.seq (WP.region (Vm rfl (Va rfl (WL.nil (tn (WP.ret (then_ret (block_ret (then_ret (then_ret (block_ret (then_ret ?_))))))))))))
     obtain rfl := Option.some.inj hm
     refine retQ_ret results75 (Res.tmp rfl Res.nil) rfl (fun w' s => ⟨s.below, ?_⟩)
     exact rfl
    replace hm := ite_f hc6 hm
    refine WP.skip (tn ?_)
    obtain ⟨k3, hk3, hm⟩ := joinK_some hm
    refine WP.seq_join (fun g' S' => Sub [(1, (pB b1 0)), (3, (.slice ao2 l1.length cap2)), (4, (.int .i64 i1)), (5, (pB b3 0)), (1000000007, (.bool false))] g' ∧ (∀ w', S' w' → St w H [.blk b3 45 [(.slice ao3 x1.strokes.length cap3), (.int .i64 x1.wait)], .blk b1 24 [(.int .i64 p_s.actuators), (.slice ao1 p_s.steps.length cap1)]] H2 w') ∧ k3 = some r) ?_ ?_
    ·
     refine WP.seq (WP.region (Va rfl (WL.nil (tn (WP.block ?_)))))
     refine WP.loop (fun m2 g' S' => ∃ (i2 : Int), Sub [(1, (pB b1 0)), (3, (.slice ao2 l1.length cap2)), (4, (.int .i64 i1)), (5, (pB b3 0)), (7, (.int .i64 i2)), (1000000007, (.bool false))] g' ∧ (∀ w', S' w' → St w H [.blk b3 45 [(.slice ao3 x1.strokes.length cap3), (.int .i64 x1.wait)], .blk b1 24 [(.int .i64 p_s.actuators), (.slice ao1 p_s.steps.length cap1)]] H2 w') ∧ ref14_steps_loop2 p_s x1 k3 m2 i2 = some r) ((Int.toNat ((x1.strokes.length : Int) - 0) + 1)) ⟨0, (Sub.all rfl), fun w' s => s, hm⟩ ?_ ?_
     ·
      rintro g' S' ⟨_, _, _, hm⟩
      exact none_some hm
     rintro m2 g' S' ⟨i2, hsub2, hS2, hm⟩
     refine WP.sub hsub2 (WP.weaken hS2 ?_)
     rw [ref14_steps_loop2] at hm
     refine WP.seq (WP.seq (WP.region (Vm rfl (V rfl (ov_fieldAddr underlying45 rfl rfl rfl sizeOf43 rfl rfl) (Vl 0 isAgg43 rfl (V rfl (ov_len_slice underlying43 rfl rfl) (V rfl (ov_lss rfl rfl rfl) (WL.nil (tn ?_)))))))))
     refine WP.cond rfl (fun hc7 => ?_) (fun hc7 => ?_)
     ·
      replace hm := ite_t hc7 hm
      refine WP.skip (tn (WP.seq (WP.block (WP.seq ?_))))
      refine WP.region_draws (by kernel_rfl) (by kernel_rfl) (fun _ s => s.drew) ?_
      refine qf rfl (ov_fieldAddr underlying45 rfl rfl rfl sizeOf43 rfl rfl) ?_
      refine qf rfl (ov_load_box (i := 0) isAgg43 rfl rfl rfl rfl) ?_
      refine qf rfl (ov_move rfl rfl) ?_
      obtain ⟨x2, e4, hm⟩ := bind_some hm
      obtain ⟨h10, h11, h12, cs2, h13, h14⟩ := h4.get e4 (by decide)
      obtain rfl : cs2 = [(.int .i64 x2.actuator), (.bool x2.out)] := h13
      refine qf rfl (ov_indexAddr underlying43 sizeOf48 rfl rfl rfl h10 h11 h12) ?_
      refine qf rfl (ov_fieldAddrE underlying48 rfl rfl rfl sizeOf3 rfl rfl) ?_
      refine qf rfl (ov_load_elem (v := (.int .i64 x2.actuator)) isAgg3 rfl rfl (h14.one (off := 0) rfl)) ?_
      refine qf rfl (ov_fieldAddr underlying24 rfl rfl rfl sizeOf3 rfl rfl) ?_
      refine qf rfl (ov_load_box (i := 1) isAgg3 rfl rfl rfl rfl) ?_
      refine qf rfl (ov_geq rfl rfl rfl) ?_
      refine QL.nil ?_
      refine tn ?_
      refine WP.cond rfl (fun hc8 => ?_) (fun hc8 => ?_)
      ·
       replace hm := ite_t hc8 hm
       refine WP.seq (WP.region (Va rfl (WL.nil (tn (WP.ret (block_ret (then_ret (then_ret (block_ret (then_ret (block_ret (then_ret (then_ret ?_)))))))))))))
       refine block_ret (then_ret ?_)
       obtain rfl := Option.some.inj hm
       refine retQ_ret results75 (Res.tmp rfl Res.nil) rfl (fun w' s => ⟨s.below, ?_⟩)
       exact rfl
      replace hm := ite_f hc8 hm
      refine WP.skip (bn (tn (WP.region (Vm rfl (V rfl (ov_add rfl rfl rfl) (Va rfl (WL.nil (tn ?_))))))))
      exact ⟨(IntKind.wrap .i64 (i2 + 1)), (Sub.all rfl), fun w' s => s, hm⟩
     replace hm := ite_f hc7 hm
     refine WP.exit (then_exit (then_exit (block_here (tn ?_))))
     exact ⟨(Sub.all rfl), fun w' s => s, hm⟩
    rintro g' S' ⟨hsub3, hS3, hm⟩
    refine WP.sub hsub3 (WP.weaken hS3 ?_)
    replace hm := hk3.symm.trans hm
    refine WP.seq (WP.seq (WP.region (V rfl (ov_load_whole (i := 0) isAgg45 sizeOf45 rfl rfl rfl rfl) (Vm rfl ?_))))
    obtain ⟨r2, e5, hm⟩ := bind_some hm
    refine wo rfl (oq_con (r := (.bool r2)) call112 rfl rfl (fun w' s => ⟨_, (ref13_Suits_con x1 l1 ao3 cap3 ao2 cap2  w' H2 s.hold h4 hc5 h3 hc3 hG r2 e5)⟩)) ?_
    refine V rfl (ov_not rfl rfl) (WL.nil (tn ?_))
    refine WP.cond rfl (fun hc9 => ?_) (fun hc9 => ?_)
    ·
     replace hm := ite_t hc9 hm
     refine WP.seq (WP.region (Va rfl (WL.nil (tn (WP.ret (then_ret (block_ret (then_ret (then_ret (block_ret (then_ret ?_)))))))))))
     obtain rfl := Option.some.inj hm
     refine retQ_ret results75 (Res.tmp rfl Res.nil) rfl (fun w' s => ⟨s.below, ?_⟩)
     exact rfl
    replace hm := ite_f hc9 hm
    refine WP.skip (tn (WP.region (V rfl (ov_load_whole (i := 0) isAgg45 sizeOf45 rfl rfl rfl rfl) (Vm rfl ?_))))
    obtain ⟨r3, e6, hm⟩ := bind_some hm
    refine ws rfl (os_con call90 rfl rfl (fun w' s => (ref13_After_con x1 l1 ao3 cap3 ao2 cap2  w' H2 s.hold h4 hc5 h3 hc3 hG r3 e6)) (fun rr1 H3 hle3 hR1 => ?_))
    replace h3 := h3.mono hle3
    obtain ⟨ao4, cap4, rfl, h15, hc10⟩ := hR1
    refine Va rfl (WL.nil (bn (tn ?_)))
    exact ⟨H3, r3, ao4, cap4, hle3, h15, hc10, (Sub.all rfl), fun w' s => (s.sl [1]), hm⟩
   rintro g' S' ⟨H4, l2, ao5, cap5, hle4, h16, hc11, hsub4, hS4, hm⟩
   refine WP.sub hsub4 (WP.weaken hS4 ?_)
   replace hm := (congrFun hk2 l2).symm.trans hm
   refine WP.region (Vm rfl (V rfl (ov_add rfl rfl rfl) (Va rfl (WL.nil (tn ?_)))))
   exact ⟨H4, l2, ao5, cap5, (IntKind.wrap .i64 (i1 + 1)), (hle2.trans hle4), h16, hc11, (Sub.all rfl), fun w' s => s, hm⟩
  replace hm := ite_f hc4 hm
  refine WP.exit (then_exit (then_exit (block_here (tn ?_))))
  exact ⟨H2, l1, ao2, cap2, (hle1.trans hle2), h3, hc3, (Sub.all rfl), fun w' s => s, hm⟩
 rintro g' S' ⟨H5, l3, ao6, cap6, hle5, h17, hc12, hsub5, hS5, hm⟩
 refine WP.sub hsub5 (WP.weaken hS5 ?_)
 replace hm := (congrFun hk1 l3).symm.trans hm
 obtain ⟨k4, hk4, hm⟩ := joinK_some hm
 refine WP.seq_join (fun g' S' => Sub [(1000000007, (.bool false))] g' ∧ (∀ w', S' w' → St w H [] H5 w') ∧ k4 = some r) ?_ ?_
 ·
  refine WP.seq (WP.region (Va rfl (WL.nil (tn (WP.block ?_)))))
  refine WP.loop (fun m3 g' S' => ∃ (i3 : Int), Sub [(1, (pB b1 0)), (3, (.slice ao6 l3.length cap6)), (8, (.int .i64 i3)), (1000000007, (.bool false))] g' ∧ (∀ w', S' w' → St w H [.blk b1 24 [(.int .i64 p_s.actuators), (.slice ao1 p_s.steps.length cap1)]] H5 w') ∧ ref14_steps_loop3 p_s l3 k4 m3 i3 = some r) ((Int.toNat (p_s.actuators - 0) + 1)) ⟨0, (Sub.all rfl), fun w' s => s, hm⟩ ?_ ?_
  ·
   rintro g' S' ⟨_, _, _, hm⟩
   exact none_some hm
  rintro m3 g' S' ⟨i3, hsub6, hS6, hm⟩
  refine WP.sub hsub6 (WP.weaken hS6 ?_)
  rw [ref14_steps_loop3] at hm
  refine WP.seq (WP.seq (WP.region (Vm rfl (V rfl (ov_fieldAddr underlying24 rfl rfl rfl sizeOf3 rfl rfl) (Vl 0 isAgg3 rfl (V rfl (ov_lss rfl rfl rfl) (WL.nil (tn ?_))))))))
  refine WP.cond rfl (fun hc13 => ?_) (fun hc13 => ?_)
  ·
   replace hm := ite_t hc13 hm
   refine WP.skip (tn (WP.seq (WP.block (WP.seq (WP.region (Vm rfl (Vm rfl ?_)))))))
   obtain ⟨x3, e7, hm⟩ := bind_some hm
   obtain ⟨h18, h19, h20, cs3, h21, h22⟩ := h17.get e7 (by decide)
   obtain rfl : cs3 = [(.bool x3)] := h21
   refine V rfl (ov_indexAddr underlying49 sizeOf4 rfl rfl rfl h18 h19 h20) (V rfl (ov_load_elem (v := (.bool x3)) isAgg4 rfl rfl h22) (WL.nil (tn ?_)))
   refine WP.cond rfl (fun hc14 => ?_) (fun hc14 => ?_)
   ·
    replace hm := ite_t hc14 hm
    refine WP.seq (WP.region (Va rfl (WL.nil (tn (WP.ret (block_ret (then_ret (then_ret (block_ret (then_ret ?_))))))))))
    obtain rfl := Option.some.inj hm
    refine retQ_ret results75 (Res.tmp rfl Res.nil) rfl (fun w' s => ⟨s.below, ?_⟩)
    exact rfl
   replace hm := ite_f hc14 hm
   refine WP.skip (bn (tn (WP.region (Vm rfl (V rfl (ov_add rfl rfl rfl) (Va rfl (WL.nil (tn ?_))))))))
   exact ⟨(IntKind.wrap .i64 (i3 + 1)), (Sub.all rfl), fun w' s => s, hm⟩
  replace hm := ite_f hc13 hm
  refine WP.exit (then_exit (then_exit (block_here (tn ?_))))
  exact ⟨(Sub.all rfl), fun w' s => (s.sl []), hm⟩
 rintro g' S' ⟨hsub7, hS7, hm⟩
 refine WP.sub hsub7 (WP.weaken hS7 ?_)
 replace hm := hk4.symm.trans hm
 refine WP.seq (WP.region (Va rfl (WL.nil (tn (WP.ret ?_)))))
 obtain rfl := Option.some.inj hm
 refine retQ_ret results75 (Res.tmp rfl Res.nil) rfl (fun w' s => ⟨s.below, ?_⟩)
 exact rfl
theorem ref14_moves_con (p_s : Sequence) (p_actuator : Int) (ao1 : Option Addr) (cap1 : Nat) (w : World) (H : Heap) (hH : Le H (hp w)) (h1 : SL H encStep ao1 p_s.steps) (hc1 : p_s.steps.length ≤ cap1) (hG : Glob H) (r : Bool) (hm : ref14_moves p_s p_actuator = some r) :
  Con prog 76 [(.agg #[(.int .i64 p_s.actuators), (.slice ao1 p_s.steps.length cap1)]), (.int .i64 p_actuator)] w H (fun v _ => v = (.bool r)) := by
 unfold ref14_moves at hm
 refine con_of hH func76 rfl 21 ntmps76 rfl ?_
 refine WP.seq (WP.region ?_)
 refine ws rfl (os_box (cs := [(.int .i64 p_s.actuators), (.slice ao1 p_s.steps.length cap1)]) rfl rfl rfl (fun b1 => ?_))
 refine Va rfl (WL.nil (tn ?_))
 obtain ⟨k1, hk1, hm⟩ := joinK_some hm
 refine WP.seq_join (fun g' S' => Sub [(1000000007, (.bool false))] g' ∧ (∀ w', S' w' → St w H [] H w') ∧ k1 = some r) ?_ ?_
 ·
  refine WP.seq (WP.region (Va rfl (WL.nil (tn (WP.block ?_)))))
  refine WP.loop (fun m1 g' S' => ∃ (i1 : Int), Sub [(1, (.int .i64 p_actuator)), (2, (pB b1 0)), (5, (.int .i64 i1)), (1000000007, (.bool false))] g' ∧ (∀ w', S' w' → St w H [.blk b1 24 [(.int .i64 p_s.actuators), (.slice ao1 p_s.steps.length cap1)]] H w') ∧ ref14_moves_loop1 p_s p_actuator k1 m1 i1 = some r) ((Int.toNat ((p_s.steps.length : Int) - 0) + 1)) ⟨0, (Sub.all rfl), fun w' s => s, hm⟩ ?_ ?_
  ·
   rintro g' S' ⟨_, _, _, hm⟩
   exact none_some hm
  rintro m1 g' S' ⟨i1, hsub1, hS1, hm⟩
  refine WP.sub hsub1 (WP.weaken hS1 ?_)
  rw [ref14_moves_loop1] at hm
  refine WP.seq (WP.seq (WP.region (Vm rfl (V rfl (ov_fieldAddr underlying24 rfl rfl rfl sizeOf22 rfl rfl) (Vl 0 isAgg22 rfl (V rfl (ov_len_slice underlying22 rfl rfl) (V rfl (ov_lss rfl rfl rfl) (WL.nil (tn ?_)))))))))
  refine WP.cond rfl (fun hc2 => ?_) (fun hc2 => ?_)
  ·
   replace hm := ite_t hc2 hm
   refine WP.skip (tn (WP.seq (WP.block (WP.seq (WP.region (V rfl (ov_fieldAddr underlying24 rfl rfl rfl sizeOf22 rfl rfl) (Vl 0 isAgg22 rfl (Vm rfl ?_))))))))
   obtain ⟨x1, e1, hm⟩ := bind_some hm
   obtain ⟨h3, h4, h5, cs1, h6, h7⟩ := h1.get e1 (by decide)
   obtain ⟨ao2, cap2, rfl, h2, hc3⟩ := h6
   refine V rfl (ov_indexAddr underlying22 sizeOf45 rfl rfl rfl h3 h4 h5) (V rfl (ov_load_elems (vs := [(.slice ao2 x1.strokes.length cap2), (.int .i64 x1.wait)]) isAgg45 sizeOf45 rfl rfl rfl h7 h5) (Vm rfl ?_))
   obtain ⟨r1, e2, hm⟩ := bind_some hm
   refine wo rfl (oq_con (r := (.int .i64 r1)) call88 rfl rfl (fun w' s => ⟨_, (ref13_Way_con x1 p_actuator ao2 cap2  w' H s.hold h2 hc3 hG r1 e2)⟩)) ?_
   refine V rfl (ov_neq rfl rfl rfl) (WL.nil (tn ?_))
   refine WP.cond rfl (fun hc4 => ?_) (fun hc4 => ?_)
   ·
    replace hm := ite_t hc4 hm
    refine WP.seq (WP.region (Va rfl (WL.nil (tn (WP.ret (block_ret (then_ret (then_ret (block_ret (then_ret ?_))))))))))
    obtain rfl := Option.some.inj hm
    refine retQ_ret results76 (Res.tmp rfl Res.nil) rfl (fun w' s => ⟨s.below, ?_⟩)
    exact rfl
   replace hm := ite_f hc4 hm
   refine WP.skip (bn (tn (WP.region (Vm rfl (V rfl (ov_add rfl rfl rfl) (Va rfl (WL.nil (tn ?_))))))))
   exact ⟨(IntKind.wrap .i64 (i1 + 1)), (Sub.all rfl), fun w' s => s, hm⟩
  replace hm := ite_f hc2 hm
  refine WP.exit (then_exit (then_exit (block_here (tn ?_))))
  exact ⟨(Sub.all rfl), fun w' s => (s.sl []), hm⟩
 rintro g' S' ⟨hsub2, hS2, hm⟩
 refine WP.sub hsub2 (WP.weaken hS2 ?_)
 replace hm := hk1.symm.trans hm
 refine WP.seq (WP.region (Va rfl (WL.nil (tn (WP.ret ?_)))))
 obtain rfl := Option.some.inj hm
 refine retQ_ret results76 (Res.tmp rfl Res.nil) rfl (fun w' s => ⟨s.below, ?_⟩)
 exact rfl
theorem ref14_Check_con (p_s : Sequence) (ao1 : Option Addr) (cap1 : Nat) (w : World) (H : Heap) (hH : Le H (hp w)) (h1 : SL H encStep ao1 p_s.steps) (hc1 : p_s.steps.length ≤ cap1) (hG : Glob H) (r : Int) (hm : ref14_Check p_s = some r) :
  Con prog 38 [(.agg #[(.int .i64 p_s.actuators), (.slice ao1 p_s.steps.length cap1)])] w H (fun v _ => v = (.int .i64 r)) := by
 unfold ref14_Check at hm
 refine con_of hH func38 rfl 36 ntmps38 rfl ?_
 refine WP.seq (WP.region ?_)
 refine ws rfl (os_box (cs := [(.int .i64 p_s.actuators), (.slice ao1 p_s.steps.length cap1)]) rfl rfl rfl (fun b1 => ?_))
 refine Va rfl (WL.nil (tn (WP.seq (WP.seq (WP.region (V rfl (ov_fieldAddr underlying24 rfl rfl rfl sizeOf3 rfl rfl) (Vl 0 isAgg3 rfl (V rfl (ov_lss rfl rfl rfl) (Vm rfl ?_)))))))))
 refine WL.cut_bool 4 12 (x := ((decide (p_s.actuators < 1)) || (decide (p_s.actuators > 6)))) ?_ ?_
 ·
  rcases Bool.eq_false_or_eq_true (decide (p_s.actuators < 1)) with hc2 | hc2
  ·
   refine Vi rfl (Idle.no rfl rfl rfl hc2) (Vi rfl (Idle.no rfl rfl rfl hc2) (Vi rfl (Idle.no rfl rfl rfl hc2) (V rfl (ov_pick_true rfl (guard_eq rfl hc2) rfl) ?_)))
   exact WL.nil ⟨Sub.cons' rfl (congrArg Value.bool (orT hc2)) (Sub.dropn 4 rfl), fun _ s => s⟩
  refine wy hc2 rfl (ov_fieldAddr underlying24 rfl rfl rfl sizeOf3 rfl rfl) ?_
  refine wy hc2 rfl (ov_load_box (i := 0) isAgg3 rfl rfl rfl rfl) ?_
  refine wy hc2 rfl (ov_gtr rfl rfl rfl) ?_
  refine V rfl (ov_pick_false rfl (guard_eq rfl hc2) rfl) ?_
  exact WL.nil ⟨Sub.cons' rfl (congrArg Value.bool (orF hc2)) (Sub.dropn 4 rfl), fun _ s => s⟩
 refine WL.nil (tn ?_)
 refine WP.cond rfl (fun hc3 => ?_) (fun hc3 => ?_)
 ·
  replace hm := ite_t hc3 hm
  refine WP.seq (WP.region (Va rfl (WL.nil (tn (WP.ret (then_ret ?_))))))
  obtain rfl := Option.some.inj hm
  refine retQ_ret results38 (Res.tmp rfl Res.nil) rfl (fun w' s => ⟨s.below, ?_⟩)
  exact rfl
 replace hm := ite_f hc3 hm
 refine WP.skip (tn (WP.seq (WP.seq (WP.region (V rfl (ov_fieldAddr underlying24 rfl rfl rfl sizeOf22 rfl rfl) (Vl 0 isAgg22 rfl (V rfl (ov_len_slice underlying22 rfl rfl) (V rfl (ov_eql rfl rfl rfl) (WL.nil (tn ?_))))))))))
 refine WP.cond rfl (fun hc4 => ?_) (fun hc4 => ?_)
 ·
  replace hm := ite_t hc4 hm
  refine WP.seq (WP.region (Va rfl (WL.nil (tn (WP.ret (then_ret ?_))))))
  obtain rfl := Option.some.inj hm
  refine retQ_ret results38 (Res.tmp rfl Res.nil) rfl (fun w' s => ⟨s.below, ?_⟩)
  exact rfl
 replace hm := ite_f hc4 hm
 refine WP.skip (tn (WP.seq (WP.seq (WP.region (V rfl (ov_fieldAddr underlying24 rfl rfl rfl sizeOf22 rfl rfl) (Vl 0 isAgg22 rfl (V rfl (ov_len_slice underlying22 rfl rfl) (V rfl (ov_gtr rfl rfl rfl) (WL.nil (tn ?_))))))))))
 refine WP.cond rfl (fun hc5 => ?_) (fun hc5 => ?_)
 ·
  replace hm := ite_t hc5 hm
  refine WP.seq (WP.region (Va rfl (WL.nil (tn (WP.ret (then_ret ?_))))))
  obtain rfl := Option.some.inj hm
  refine retQ_ret results38 (Res.tmp rfl Res.nil) rfl (fun w' s => ⟨s.below, ?_⟩)
  exact rfl
 replace hm := ite_f hc5 hm
 refine WP.skip (tn (WP.seq (WP.seq (WP.region (V rfl (ov_load_whole (i := 0) isAgg24 sizeOf24 rfl rfl rfl rfl) ?_)))))
 obtain ⟨r1, e1, hm⟩ := bind_some hm
 refine wo rfl (oq_con (r := (.int .i64 r1)) call75 rfl rfl (fun w' s => ⟨_, (ref14_steps_con p_s ao1 cap1  w' H s.hold h1 hc1 hG r1 e1)⟩)) ?_
 refine Va rfl (WL.nil (tn (WP.seq (WP.region (Vm rfl (V rfl (ov_neq rfl rfl rfl) (WL.nil (tn ?_))))))))
 refine WP.cond rfl (fun hc6 => ?_) (fun hc6 => ?_)
 ·
  replace hm := ite_t hc6 hm
  refine WP.seq (WP.region (Vm rfl (Va rfl (WL.nil (tn (WP.ret (then_ret ?_)))))))
  obtain rfl := Option.some.inj hm
  refine retQ_ret results38 (Res.tmp rfl Res.nil) rfl (fun w' s => ⟨s.below, ?_⟩)
  exact rfl
 replace hm := ite_f hc6 hm
 refine WP.skip (tn ?_)
 obtain ⟨k1, hk1, hm⟩ := joinK_some hm
 refine WP.seq_join (fun g' S' => Sub [(1000000007, (.bool false))] g' ∧ (∀ w', S' w' → St w H [] H w') ∧ k1 = some r) ?_ ?_
 ·
  refine WP.seq (WP.region (Va rfl (WL.nil (tn (WP.block ?_)))))
  refine WP.loop (fun m1 g' S' => ∃ (i1 : Int), Sub [(1, (pB b1 0)), (4, (.int .i64 i1)), (1000000007, (.bool false))] g' ∧ (∀ w', S' w' → St w H [.blk b1 24 [(.int .i64 p_s.actuators), (.slice ao1 p_s.steps.length cap1)]] H w') ∧ ref14_Check_loop1 p_s k1 m1 i1 = some r) ((Int.toNat (p_s.actuators - 0) + 1)) ⟨0, (Sub.all rfl), fun w' s => s, hm⟩ ?_ ?_
  ·
   rintro g' S' ⟨_, _, _, hm⟩
   exact none_some hm
  rintro m1 g' S' ⟨i1, hsub1, hS1, hm⟩
  refine WP.sub hsub1 (WP.weaken hS1 ?_)
  rw [ref14_Check_loop1] at hm
  refine WP.seq (WP.seq (WP.region (Vm rfl (V rfl (ov_fieldAddr underlying24 rfl rfl rfl sizeOf3 rfl rfl) (Vl 0 isAgg3 rfl (V rfl (ov_lss rfl rfl rfl) (WL.nil (tn ?_))))))))
  refine WP.cond rfl (fun hc7 => ?_) (fun hc7 => ?_)
  ·
   replace hm := ite_t hc7 hm
   refine WP.skip (tn (WP.seq (WP.block (WP.seq (WP.region (V rfl (ov_load_whole (i := 0) isAgg24 sizeOf24 rfl rfl rfl rfl) (Vm rfl ?_)))))))
   obtain ⟨r2, e2, hm⟩ := bind_some hm
   refine wo rfl (oq_con (r := (.bool r2)) call76 rfl rfl (fun w' s => ⟨_, (ref14_moves_con p_s i1 ao1 cap1  w' H s.hold h1 hc1 hG r2 e2)⟩)) ?_
   refine V rfl (ov_not rfl rfl) (WL.nil (tn ?_))
   refine WP.cond rfl (fun hc8 => ?_) (fun hc8 => ?_)
   ·
    replace hm := ite_t hc8 hm
    refine WP.seq (WP.region (Va rfl (WL.nil (tn (WP.ret (block_ret (then_ret (then_ret (block_ret (then_ret ?_))))))))))
    obtain rfl := Option.some.inj hm
    refine retQ_ret results38 (Res.tmp rfl Res.nil) rfl (fun w' s => ⟨s.below, ?_⟩)
    exact rfl
   replace hm := ite_f hc8 hm
   refine WP.skip (bn (tn (WP.region (Vm rfl (V rfl (ov_add rfl rfl rfl) (Va rfl (WL.nil (tn ?_))))))))
   exact ⟨(IntKind.wrap .i64 (i1 + 1)), (Sub.all rfl), fun w' s => s, hm⟩
  replace hm := ite_f hc7 hm
  refine WP.exit (then_exit (then_exit (block_here (tn ?_))))
  exact ⟨(Sub.all rfl), fun w' s => (s.sl []), hm⟩
 rintro g' S' ⟨hsub2, hS2, hm⟩
 refine WP.sub hsub2 (WP.weaken hS2 ?_)
 replace hm := hk1.symm.trans hm
 refine WP.seq (WP.region (Va rfl (WL.nil (tn (WP.ret ?_)))))
 obtain rfl := Option.some.inj hm
 refine retQ_ret results38 (Res.tmp rfl Res.nil) rfl (fun w' s => ⟨s.below, ?_⟩)
 exact rfl
theorem ref14_Same_con (p_a : Sequence) (p_b : Sequence) (ao1 : Option Addr) (cap1 : Nat) (ao2 : Option Addr) (cap2 : Nat) (w : World) (H : Heap) (hH : Le H (hp w)) (h1 : SL H encStep ao1 p_a.steps) (hc1 : p_a.steps.length ≤ cap1) (h2 : SL H encStep ao2 p_b.steps) (hc2 : p_b.steps.length ≤ cap2) (hG : Glob H) (r : Bool) (hm : ref14_Same p_a p_b = some r) :
  Con prog 34 [(.agg #[(.int .i64 p_a.actuators), (.slice ao1 p_a.steps.length cap1)]), (.agg #[(.int .i64 p_b.actuators), (.slice ao2 p_b.steps.length cap2)])] w H (fun v _ => v = (.bool r)) := by
 unfold ref14_Same at hm
 refine con_of hH func34 rfl 17 ntmps34 rfl ?_
 refine WP.seq (WP.region ?_)
 refine ws rfl (os_box (cs := [(.int .i64 p_a.actuators), (.slice ao1 p_a.steps.length cap1)]) rfl rfl rfl (fun b1 => ?_))
 refine ws rfl (os_box (cs := [(.int .i64 p_b.actuators), (.slice ao2 p_b.steps.length cap2)]) rfl rfl rfl (fun b2 => ?_))
 refine Va rfl (WL.nil (tn (WP.seq (WP.region (V rfl (ov_fieldAddr underlying24 rfl rfl rfl sizeOf3 rfl rfl) (Vl 1 isAgg3 rfl (V rfl (ov_fieldAddr underlying24 rfl rfl rfl sizeOf3 rfl rfl) (Vl 0 isAgg3 rfl (V rfl (ov_eql rfl rfl rfl) (Vm rfl ?_))))))))))
 obtain ⟨c1, e1, hm⟩ := bind_some hm
 refine WL.cut_bool 6 16 (x := c1) ?_ ?_
 ·
  rcases Bool.eq_false_or_eq_true (p_a.actuators == p_b.actuators) with hc3 | hc3
  ·
   replace hm := ite_t hc3 e1
   refine wy hc3 rfl (ov_fieldAddr underlying24 rfl rfl rfl sizeOf22 rfl rfl) ?_
   refine wy hc3 rfl (ov_load_box (i := 1) isAgg22 rfl rfl rfl rfl) ?_
   refine wy hc3 rfl (ov_fieldAddr underlying24 rfl rfl rfl sizeOf22 rfl rfl) ?_
   refine wy hc3 rfl (ov_load_box (i := 0) isAgg22 rfl rfl rfl rfl) ?_
   obtain ⟨r1, e2, hm⟩ := bind_some hm
   refine WL.quiet (Runs.yes rfl rfl rfl hc3) rfl rfl (oq_con (r := (.bool r1)) call74 rfl rfl (fun w' s => ⟨_, (ref13_SameSteps_con p_a.steps p_b.steps ao1 cap1 ao2 cap2  w' H s.hold h1 hc1 h2 hc2 hG r1 e2)⟩)) ?_
   refine V rfl (ov_pick_true rfl (guard_eq rfl hc3) rfl) ?_
   exact WL.nil ⟨Sub.cons' rfl (congrArg Value.bool (Option.some.inj hm)) (Sub.dropn 6 rfl), fun _ s => s⟩
  replace hm := ite_f hc3 e1
  refine Vi rfl (Idle.no rfl rfl rfl hc3) (Vi rfl (Idle.no rfl rfl rfl hc3) (Vi rfl (Idle.no rfl rfl rfl hc3) (Vi rfl (Idle.no rfl rfl rfl hc3) (Vi rfl (Idle.no rfl rfl rfl hc3) (V rfl (ov_pick_false rfl (guard_eq rfl hc3) rfl) ?_)))))
  exact WL.nil ⟨Sub.cons' rfl (congrArg Value.bool (Option.some.inj hm)) (Sub.dropn 6 rfl), fun _ s => s⟩
 refine Va rfl (WL.nil (tn (WP.ret ?_)))
 obtain rfl := Option.some.inj hm
 refine retQ_ret results34 (Res.tmp rfl Res.nil) rfl (fun w' s => ⟨s.below, ?_⟩)
 exact rfl
theorem slices_Equal_intint_con (p_s1 : (List Int)) (p_s2 : (List Int)) (ao1 : Option Addr) (cap1 : Nat) (ao2 : Option Addr) (cap2 : Nat) (w : World) (H : Heap) (hH : Le H (hp w)) (h1 : SL H (encInt .i64) ao1 p_s1) (hc1 : p_s1.length ≤ cap1) (h2 : SL H (encInt .i64) ao2 p_s2) (hc2 : p_s2.length ≤ cap2) (hG : Glob H) (r : Bool) (hm : slices_Equal_intint p_s1 p_s2 = some r) :
  Con prog 35 [(.slice ao1 p_s1.length cap1), (.slice ao2 p_s2.length cap2)] w H (fun v _ => v = (.bool r)) := by
 unfold slices_Equal_intint at hm
 refine con_of hH func35 rfl 26 ntmps35 rfl ?_
 refine WP.seq (WP.region (Va rfl (WL.nil (tn (WP.seq (WP.seq (WP.region (Vm rfl (V rfl (ov_len_slice underlying39 rfl rfl) (Vm rfl (V rfl (ov_len_slice underlying39 rfl rfl) (V rfl (ov_neq rfl rfl rfl) (WL.nil ?_)))))))))))))
 refine tn ?_
 refine WP.cond rfl (fun hc3 => ?_) (fun hc3 => ?_)
 ·
  replace hm := ite_t hc3 hm
  refine WP.seq (WP.region (Va rfl (WL.nil (tn (WP.ret (then_ret ?_))))))
  obtain rfl := Option.some.inj hm
  refine retQ_ret results35 (Res.tmp rfl Res.nil) rfl (fun w' s => ⟨s.below, ?_⟩)
  exact rfl
 replace hm := ite_f hc3 hm
 refine WP.skip (tn ?_)
 obtain ⟨k1, hk1, hm⟩ := joinK_some hm
 refine WP.seq_join (fun g' S' => Sub [(1000000007, (.bool false))] g' ∧ (∀ w', S' w' → St w H [] H w') ∧ k1 = some r) ?_ ?_
 ·
  refine WP.seq (WP.region (Vm rfl (V rfl (ov_len_slice underlying39 rfl rfl) (Vm rfl (WL.nil (tn (WP.block ?_)))))))
  refine WP.loop (fun m1 g' S' => ∃ (i1 : Int), Sub [(0, (.slice ao1 p_s1.length cap1)), (1, (.slice ao2 p_s2.length cap2)), (12, (.int .i64 (p_s1.length : Int))), (13, (.int .i64 i1)), (1000000007, (.bool false))] g' ∧ (∀ w', S' w' → St w H [] H w') ∧ slices_Equal_intint_loop1 p_s1 p_s2 k1 m1 i1 = some r) ((Int.toNat ((p_s1.length : Int) - 0) + 1)) ⟨0, (Sub.all rfl), fun w' s => s, hm⟩ ?_ ?_
  ·
   rintro g' S' ⟨_, _, _, hm⟩
   exact none_some hm
  rintro m1 g' S' ⟨i1, hsub1, hS1, hm⟩
  refine WP.sub hsub1 (WP.weaken hS1 ?_)
  rw [slices_Equal_intint_loop1] at hm
  refine WP.seq (WP.region (V rfl (ov_lss rfl rfl rfl) (WL.nil (tn (WP.seq ?_)))))
  refine WP.cond rfl (fun hc4 => ?_) (fun hc4 => ?_)
  ·
   replace hm := ite_t hc4 hm
   refine WP.skip (tn (WP.seq (WP.block (WP.seq (WP.region (Vm rfl (Va rfl (WL.nil (tn (WP.seq ?_))))))))))
   refine WP.region_draws (by kernel_rfl) (by kernel_rfl) (fun _ s => s.drew) ?_
   refine qf rfl (ov_move rfl rfl) ?_
   refine qf rfl (ov_move rfl rfl) ?_
   obtain ⟨x1, e1, hm⟩ := bind_some hm
   obtain ⟨h3, h4, h5, cs1, h6, h7⟩ := h1.get e1 (by decide)
   obtain rfl : cs1 = [(.int .i64 x1)] := h6
   refine qf rfl (ov_indexAddr underlying39 sizeOf3 rfl rfl rfl h3 h4 h5) ?_
   refine qf rfl (ov_load_elem (v := (.int .i64 x1)) isAgg3 rfl rfl h7) ?_
   refine qf rfl (ov_move rfl rfl) ?_
   refine qf rfl (ov_move rfl rfl) ?_
   obtain ⟨x2, e2, hm⟩ := bind_some hm
   obtain ⟨h8, h9, h10, cs2, h11, h12⟩ := h2.get e2 (by decide)
   obtain rfl : cs2 = [(.int .i64 x2)] := h11
   refine qf rfl (ov_indexAddr underlying39 sizeOf3 rfl rfl rfl h8 h9 h10) ?_
   refine qf rfl (ov_load_elem (v := (.int .i64 x2)) isAgg3 rfl rfl h12) ?_
   refine qf rfl (ov_neq rfl rfl rfl) ?_
   refine QL.nil ?_
   refine tn ?_
   refine WP.cond rfl (fun hc5 => ?_) (fun hc5 => ?_)
   ·
    replace hm := ite_t hc5 hm
    refine WP.seq (WP.region (Va rfl (WL.nil (tn (WP.ret (block_ret (then_ret (then_ret (block_ret (then_ret ?_))))))))))
    obtain rfl := Option.some.inj hm
    refine retQ_ret results35 (Res.tmp rfl Res.nil) rfl (fun w' s => ⟨s.below, ?_⟩)
    exact rfl
   replace hm := ite_f hc5 hm
   refine WP.skip (bn (tn (WP.region (V rfl (ov_add rfl rfl rfl) (Vm rfl (WL.nil (tn ?_)))))))
   exact ⟨(IntKind.wrap .i64 (i1 + 1)), (Sub.all rfl), fun w' s => s, hm⟩
  replace hm := ite_f hc4 hm
  refine WP.exit (then_exit (then_exit (block_here (tn ?_))))
  exact ⟨(Sub.all rfl), fun w' s => s, hm⟩
 rintro g' S' ⟨hsub2, hS2, hm⟩
 refine WP.sub hsub2 (WP.weaken hS2 ?_)
 replace hm := hk1.symm.trans hm
 refine WP.seq (WP.region (Va rfl (WL.nil (tn (WP.ret ?_)))))
 obtain rfl := Option.some.inj hm
 refine retQ_ret results35 (Res.tmp rfl Res.nil) rfl (fun w' s => ⟨s.below, ?_⟩)
 exact rfl
theorem diagram_index_con (p_out : Bool) (w : World) (H : Heap) (hH : Le H (hp w)) (hG : Glob H) (r : Int) (hm : diagram_index p_out = some r) :
  Con prog 87 [(.bool p_out)] w H (fun v _ => v = (.int .i64 r)) := by
 unfold diagram_index at hm
 refine con_of hH func87 rfl 4 ntmps87 rfl ?_
 refine WP.seq (WP.region (Va rfl (WL.nil (tn (WP.seq (WP.seq (WP.region (Vm rfl (WL.nil (tn ?_))))))))))
 refine WP.cond rfl (fun hc1 => ?_) (fun hc1 => ?_)
 ·
  replace hm := ite_t hc1 hm
  refine WP.seq (WP.region (Va rfl (WL.nil (tn (WP.ret (then_ret ?_))))))
  obtain rfl := Option.some.inj hm
  refine retQ_ret results87 (Res.tmp rfl Res.nil) rfl (fun w' s => ⟨s.below, ?_⟩)
  exact rfl
 replace hm := ite_f hc1 hm
 refine WP.skip (tn (WP.seq (WP.region (Va rfl (WL.nil (tn (WP.ret ?_)))))))
 obtain rfl := Option.some.inj hm
 refine retQ_ret results87 (Res.tmp rfl Res.nil) rfl (fun w' s => ⟨s.below, ?_⟩)
 exact rfl
theorem diagram_cells1_con (p_s : Sequence) (ao1 : Option Addr) (cap1 : Nat) (w : World) (H : Heap) (hH : Le H (hp w)) (h1 : SL H encStep ao1 p_s.steps) (hc1 : p_s.steps.length ≤ cap1) (hG : Glob H) (hn : (p_s.actuators == 1) = true) (r : (List (List Cell))) (hm : diagram_cells1 p_s = some r) :
  Con prog 43 [(.agg #[(.int .i64 p_s.actuators), (.slice ao1 p_s.steps.length cap1)])] w H (fun v H' => ∃ (ao2 : Option Addr) (cap2 : Nat), v = (.slice ao2 r.length cap2) ∧ SL H' (encSl encCell) ao2 r ∧ r.length ≤ cap2) := by
 unfold diagram_cells1 at hm
 refine con_of hH func43 rfl 99 ntmps43 rfl ?_
 refine WP.seq (WP.region ?_)
 refine ws rfl (os_box (cs := [(.int .i64 p_s.actuators), (.slice ao1 p_s.steps.length cap1)]) rfl rfl rfl (fun b1 => ?_))
 refine Va rfl (WL.nil (tn (WP.seq (WP.region (V rfl (ov_fieldAddr underlying24 rfl rfl rfl sizeOf3 rfl rfl) (Vl 0 isAgg3 rfl ?_))))))
 refine ws rfl (os_makeSlice_n (N := 1) (sz := 1) (bytes := 24) (z := (.slice none 0 0)) (cs := [(.slice none 0 0)]) underlying76 (by kernel_rfl) (by kernel_rfl) rfl rfl rfl (eq_of_beq hn) (by decide) (by decide) (fun b2 => ?_))
 refine Va rfl (WL.nil (tn (WP.seq (WP.region (V rfl (ov_fieldAddr underlying24 rfl rfl rfl sizeOf3 rfl rfl) (Vl 1 isAgg3 rfl ?_))))))
 obtain ⟨u1, e1, hm⟩ := bind_some hm
 replace e1 := guardO_some e1
 refine ws rfl (os_makeSlice (En := encBool) (z := (.bool false)) (y0 := false) (bytes := 1) underlying49 (by kernel_rfl) rfl (by decide) rfl rfl rfl e1 (fun b3 xs1 rl1 => ?_))
 refine Va rfl (WL.nil (tn ?_))
 obtain ⟨k1, hk1, hm⟩ := joinK_some hm
 refine WP.seq_join (fun g' S' => ∃ (l13 : (List Cell)) (ao16 : _) (cap16 : _) (xs14 : _), RL H encCell l13 xs14 ∧ Sub [(3, (.slice (some ⟨b2, 0, none⟩) 1 1)), (1000000007, (.bool false))] g' ∧ (∀ w', S' w' → St w H [rowE 80 encCell l13 ao16 cap16 xs14, .blk b2 78 [(.slice ao16 l13.length cap16)]] H w') ∧ k1 l13 = some r) ?_ ?_
 ·
  refine WP.seq (WP.region (V rfl (ov_fieldAddr underlying24 rfl rfl rfl sizeOf22 rfl rfl) (Vl 2 isAgg22 rfl (V rfl (ov_len_slice underlying22 rfl rfl) (Vm rfl (WL.nil (tn (WP.block ?_))))))))
  have rl2 := RL.nil (α := Cell) H encCell
  refine WP.weaken (fun _ s => s.nilrow 80 (encCell).size) ?_
  refine WP.loop (fun m1 g' S' => ∃ (i1 : Int) (l1 : (List Bool)) (ao3 : _) (cap3 : _) (xs2 : _) (l2 : (List Cell)) (ao4 : _) (cap4 : _) (xs3 : _), RL H encBool l1 xs2 ∧ RL H encCell l2 xs3 ∧ Sub [(1, (pB b1 0)), (3, (.slice (some ⟨b2, 0, none⟩) 1 1)), (4, (.slice ao3 l1.length cap3)), (20, (.slice ao1 p_s.steps.length cap1)), (21, (.int .i64 (p_s.steps.length : Int))), (22, (.int .i64 i1)), (1000000007, (.bool false))] g' ∧ (∀ w', S' w' → St w H [rowE 80 encCell l2 ao4 cap4 xs3, rowE 4 encBool l1 ao3 cap3 xs2, .blk b2 78 [(.slice ao4 l2.length cap4)], .blk b1 24 [(.int .i64 p_s.actuators), (.slice ao1 p_s.steps.length cap1)]] H w') ∧ diagram_cells1_loop1 p_s k1 m1 i1 l1 l2 = some r) ((Int.toNat ((p_s.steps.length : Int) - 0) + 1)) ⟨0, (List.replicate (Int.toNat p_s.actuators) false), (some ⟨b3, 0, none⟩), (Int.toNat p_s.actuators), xs1, ([] : List Cell), none, 0, [], rl1, rl2, (Sub.all rfl), fun w' s => s, hm⟩ ?_ ?_
  ·
   rintro g' S' ⟨_, _, _, _, _, _, _, _, _, _, _, _, _, hm⟩
   exact none_some hm
  rintro m1 g' S' ⟨i1, l1, ao3, cap3, xs2, l2, ao4, cap4, xs3, rl3, rl4, hsub1, hS1, hm⟩
  refine WP.sub hsub1 (WP.weaken hS1 ?_)
  rw [diagram_cells1_loop1] at hm
  refine WP.seq (WP.region (V rfl (ov_lss rfl rfl rfl) (WL.nil (tn (WP.seq ?_)))))
  refine WP.cond rfl (fun hc3 => ?_) (fun hc3 => ?_)
  ·
   replace hm := ite_t hc3 hm
   refine WP.skip (tn ?_)
   obtain ⟨k2, hk2, hm⟩ := joinK_some hm
   refine WP.seq_join (fun g' S' => ∃ (l11 : (List Bool)) (ao14 : _) (cap14 : _) (xs12 : _) (l12 : (List Cell)) (ao15 : _) (cap15 : _) (xs13 : _), RL H encBool l11 xs12 ∧ RL H encCell l12 xs13 ∧ Sub [(1, (pB b1 0)), (3, (.slice (some ⟨b2, 0, none⟩) 1 1)), (4, (.slice ao14 l11.length cap14)), (20, (.slice ao1 p_s.steps.length cap1)), (21, (.int .i64 (p_s.steps.length : Int))), (22, (.int .i64 i1)), (1000000007, (.bool false))] g' ∧ (∀ w', S' w' → St w H [rowE 80 encCell l12 ao15 cap15 xs13, rowE 4 encBool l11 ao14 cap14 xs12, .blk b2 78 [(.slice ao15 l12.length cap15)], .blk b1 24 [(.int .i64 p_s.actuators), (.slice ao1 p_s.steps.length cap1)]] H w') ∧ k2 l11 l12 = some r) ?_ ?_
   ·
    refine WP.block (WP.seq (WP.region ?_))
    obtain ⟨x1, e2, hm⟩ := bind_some hm
    obtain ⟨h4, h5, h6, cs1, h7, h8⟩ := h1.get e2 (by decide)
    obtain ⟨ao5, cap5, rfl, h3, hc4⟩ := h7
    refine V rfl (ov_indexAddr underlying22 sizeOf45 rfl rfl rfl h4 h5 h6) (V rfl (ov_load_elems (vs := [(.slice ao5 x1.strokes.length cap5), (.int .i64 x1.wait)]) isAgg45 sizeOf45 rfl rfl rfl h8 h6) ?_)
    refine ws rfl (os_alloc (cs := [(.slice none 0 0), (.int .i64 0)]) zeroValue45 rfl rfl (fun b4 => ?_))
    refine ws0 rfl (os_store (i := 0) (vs := [(.slice ao5 x1.strokes.length cap5), (.int .i64 x1.wait)]) (cs' := [(.slice ao5 x1.strokes.length cap5), (.int .i64 x1.wait)]) sizeOf45 rfl rfl rfl rfl rfl rfl rfl rfl rfl ?_)
    refine WL.nil (tn (WP.seq (WP.region (V rfl (ov_fieldAddr underlying24 rfl rfl rfl sizeOf3 rfl rfl) (Vl 4 isAgg3 rfl ?_)))))
    obtain ⟨u2, e3, hm⟩ := bind_some hm
    replace e3 := guardO_some e3
    refine ws rfl (os_makeSlice (En := encCell) (z := (.agg #[(.int .u8 0), (.int .u8 0)])) (y0 := (Cell.mk 0 0)) (bytes := 2) underlying78 (by kernel_rfl) rfl (by decide) rfl rfl rfl e3 (fun b5 xs4 rl5 => ?_))
    refine Va rfl (WL.nil (tn ?_))
    obtain ⟨k3, hk3, hm⟩ := joinK_some hm
    refine WP.seq_join (fun g' S' => ∃ (l4 : (List Cell)) (ao7 : _) (cap7 : _) (xs6 : _), RL H encCell l4 xs6 ∧ Sub [(1, (pB b1 0)), (3, (.slice (some ⟨b2, 0, none⟩) 1 1)), (4, (.slice ao3 l1.length cap3)), (6, (pB b4 0)), (7, (.slice ao7 l4.length cap7)), (20, (.slice ao1 p_s.steps.length cap1)), (21, (.int .i64 (p_s.steps.length : Int))), (22, (.int .i64 i1)), (1000000007, (.bool false))] g' ∧ (∀ w', S' w' → St w H [rowE 80 encCell l4 ao7 cap7 xs6, .blk b4 45 [(.slice ao5 x1.strokes.length cap5), (.int .i64 x1.wait)], rowE 80 encCell l2 ao4 cap4 xs3, rowE 4 encBool l1 ao3 cap3 xs2, .blk b2 78 [(.slice ao4 l2.length cap4)], .blk b1 24 [(.int .i64 p_s.actuators), (.slice ao1 p_s.steps.length cap1)]] H w') ∧ k3 l4 = some r) ?_ ?_
    ·
     refine WP.seq (WP.region (Vm rfl (V rfl (ov_len_slice underlying49 rfl rfl) (Vm rfl (WL.nil (tn (WP.block ?_)))))))
     refine WP.loop (fun m2 g' S' => ∃ (i2 : Int) (l3 : (List Cell)) (ao6 : _) (cap6 : _) (xs5 : _), RL H encCell l3 xs5 ∧ Sub [(1, (pB b1 0)), (3, (.slice (some ⟨b2, 0, none⟩) 1 1)), (4, (.slice ao3 l1.length cap3)), (6, (pB b4 0)), (7, (.slice ao6 l3.length cap6)), (20, (.slice ao1 p_s.steps.length cap1)), (21, (.int .i64 (p_s.steps.length : Int))), (22, (.int .i64 i1)), (29, (.slice ao3 l1.length cap3)), (30, (.int .i64 (l1.length : Int))), (31, (.int .i64 i2)), (1000000007, (.bool false))] g' ∧ (∀ w', S' w' → St w H [rowE 80 encCell l3 ao6 cap6 xs5, .blk b4 45 [(.slice ao5 x1.strokes.length cap5), (.int .i64 x1.wait)], rowE 80 encCell l2 ao4 cap4 xs3, rowE 4 encBool l1 ao3 cap3 xs2, .blk b2 78 [(.slice ao4 l2.length cap4)], .blk b1 24 [(.int .i64 p_s.actuators), (.slice ao1 p_s.steps.length cap1)]] H w') ∧ diagram_cells1_loop2 l1 k3 m2 i2 l3 = some r) ((Int.toNat ((l1.length : Int) - 0) + 1)) ⟨0, (List.replicate (Int.toNat p_s.actuators) (Cell.mk 0 0)), (some ⟨b5, 0, none⟩), (Int.toNat p_s.actuators), xs4, rl5, (Sub.all rfl), fun w' s => s, hm⟩ ?_ ?_
     ·
      rintro g' S' ⟨_, _, _, _, _, _, _, _, hm⟩
      exact none_some hm
     rintro m2 g' S' ⟨i2, l3, ao6, cap6, xs5, rl6, hsub2, hS2, hm⟩
     refine WP.sub hsub2 (WP.weaken hS2 ?_)
     rw [diagram_cells1_loop2] at hm
     refine WP.seq (WP.region (V rfl (ov_lss rfl rfl rfl) (WL.nil (tn (WP.seq ?_)))))
     refine WP.cond rfl (fun hc5 => ?_) (fun hc5 => ?_)
     ·
      replace hm := ite_t hc5 hm
      refine WP.skip (tn (WP.seq (WP.block (WP.seq (WP.region (Vm rfl ?_))))))
      obtain ⟨x2, e4, hm⟩ := bind_some hm
      obtain ⟨h9, h10, h11, cs2, h12, h13⟩ := RL.get rl3 e4
      obtain rfl : cs2 = [(.bool x2)] := h12
      refine V rfl (ov_indexAddr_own (i := 3) underlying49 sizeOf4 rfl rfl rfl rfl h9 h10) (V rfl (ov_load_own (i := 3) isAgg4 rfl rfl rfl (own_pos h9 h10) (elem_cell h13 (off := 0) rfl)) (Va rfl (Va rfl (WL.nil (tn ?_)))))
      refine WP.region_any (S₀ := St w H [.blk b4 45 [(.slice ao5 x1.strokes.length cap5), (.int .i64 x1.wait)], rowE 80 encCell l2 ao4 cap4 xs3, rowE 4 encBool l1 ao3 cap3 xs2, .blk b2 78 [(.slice ao4 l2.length cap4)], .blk b1 24 [(.int .i64 p_s.actuators), (.slice ao1 p_s.steps.length cap1)]] H) 13 rfl (by kernel_rfl) (fun w' s => (s.sl [1, 2, 3, 4, 5])) (fun _ s => s.drew) ?_
      refine TQ' 0 rfl (ov_move rfl rfl) (TQ' 1 rfl (ov_move rfl rfl) (TQ' 2 rfl (ov_move rfl rfl) (TQ' 6 rfl (ov_move rfl rfl) ?_)))
      refine AL.any (rs := [3]) (by kernel_rfl) (by decide) ?_
      refine ALs.cons (i := 3) rfl (Runs.free rfl) rfl rfl ?_ ?_
      ·
       obtain ⟨r1, e5, hm⟩ := bind_some hm
       refine OQ.step (oq_con (r := (.int .i64 r1)) call87 rfl rfl (fun w' s => ⟨_, (diagram_index_con x2  w' H s.hold hG r1 e5)⟩)) ?_
       refine ⟨fun w' s => (s.sl [1, 2, 3, 4, 5]), ?_⟩
       obtain ⟨x3, e6, hm⟩ := bind_some hm
       obtain ⟨h14, h15, h16, cs3, h17, h18⟩ := hG.1.1.1.get e6 (by decide)
       obtain rfl : cs3 = [(.int .u8 x3)] := h17
       refine TQ' 4 rfl (ov_indexAddr_globL rfl underlying84 sizeOf5 rfl rfl rfl h14 h15) (TQ' 5 rfl (ov_load_elem (v := (.int .u8 x3)) isAgg5 rfl rfl h18) ?_)
       refine AL.any (rs := [7]) (by kernel_rfl) (by decide) ?_
       refine ALs.cons (i := 7) rfl (Runs.free rfl) rfl rfl ?_ ?_
       ·
        obtain ⟨r2, e7, hm⟩ := bind_some hm
        refine OQ.step (oq_con (r := (.int .i64 r2)) call87 rfl rfl (fun w' s => ⟨_, (diagram_index_con x2  w' H s.hold hG r2 e7)⟩)) ?_
        refine ⟨fun w' s => (s.sl [1, 2, 3, 4, 5]), ?_⟩
        obtain ⟨x4, e8, hm⟩ := bind_some hm
        obtain ⟨h19, h20, h21, cs4, h22, h23⟩ := hG.1.1.1.get e8 (by decide)
        obtain rfl : cs4 = [(.int .u8 x4)] := h22
        refine TQ' 8 rfl (ov_indexAddr_globL rfl underlying84 sizeOf5 rfl rfl rfl h19 h20) (TQ' 9 rfl (ov_load_elem (v := (.int .u8 x4)) isAgg5 rfl rfl h23) (TQ' 10 rfl (ov_build (r := (.agg #[(.int .u8 x3), (.int .u8 x4)])) rfl rfl (fun _ => by kernel_rfl)) ?_))
        refine AL.any (rs := [11]) (by kernel_rfl) (by decide) ?_
        refine ALs.cons (i := 11) rfl (Runs.free rfl) rfl rfl ?_ ?_
        ·
         obtain ⟨x5, e9, hm⟩ := bind_some hm
         obtain ⟨h24, h25, h26, cs5, h27, h28⟩ := RL.get rl6 e9
         obtain rfl : cs5 = [(.int .u8 x5.first), (.int .u8 x5.second)] := h27
         refine OQ.step (OV.quiet (ov_indexAddr_own (i := 0) underlying78 sizeOf80 rfl rfl rfl rfl h24 h25)) ?_
         refine ⟨fun w' s => (s.sl [1, 2, 3, 4, 5]), ?_⟩
         refine AL.any (rs := [12]) (by kernel_rfl) (by decide) ?_
         refine ALs.cons0 (i := 12) rfl (Runs.free rfl) rfl ?_ ?_
         ·
          have rl7 := RL.set rl6 (y := (Cell.mk x3 x4)) (off := 0) (vs := [(.int .u8 x3), (.int .u8 x4)]) e9 h28 rfl (Nat.le_of_ble_eq_true rfl)
          have e10 := at?_set (y := (Cell.mk x3 x4)) e9
          refine os_store_own (i := 0) (vs := [(.int .u8 x3), (.int .u8 x4)]) sizeOf80 rfl rfl rfl rfl (own_pos h24 h25) rfl rfl (elem_le (off := 0) h26 (Nat.le_of_ble_eq_true rfl)) rfl ?_
          rw [show l3.length = (List.set l3 (Int.toNat i2) (Cell.mk x3 x4)).length from List.length_set.symm]
          obtain ⟨h29, h30, h31, cs6, h32, h33⟩ := rl7.get e10
          obtain rfl : cs6 = [(.int .u8 x3), (.int .u8 x4)] := h32
          refine ⟨fun w' s => (s.sl [1, 2, 3, 4, 5]), ?_⟩
          refine AL.done (by kernel_rfl) ?_
          refine bn (tn (WP.region (V rfl (ov_add rfl rfl rfl) (Vm rfl (WL.nil (tn ?_))))))
          exact ⟨(IntKind.wrap .i64 (i2 + 1)), (List.set l3 (Int.toNat i2) (Cell.mk x3 x4)), ao6, cap6, (spl xs5 (Int.toNat i2 * encCell.size + 0) [(.int .u8 x3), (.int .u8 x4)]), rl7, (Sub.all rfl), fun w' s => s, hm⟩
         exact ALs.nil
        exact ALs.nil
       exact ALs.nil
      exact ALs.nil
     replace hm := ite_f hc5 hm
     refine WP.exit (then_exit (then_exit (block_here (tn ?_))))
     exact ⟨l3, ao6, cap6, xs5, rl6, (Sub.all rfl), fun w' s => s, hm⟩
    rintro g' S' ⟨l4, ao7, cap7, xs6, rl8, hsub3, hS3, hm⟩
    refine WP.sub hsub3 (WP.weaken hS3 ?_)
    replace hm := (congrFun hk3 l4).symm.trans hm
    obtain ⟨k4, hk4, hm⟩ := joinK_some hm
    refine WP.seq_join (fun g' S' => ∃ (l7 : (List Bool)) (ao10 : _) (cap10 : _) (xs9 : _) (l8 : (List Cell)) (ao11 : _) (cap11 : _) (xs10 : _), RL H encBool l7 xs9 ∧ RL H encCell l8 xs10 ∧ Sub [(1, (pB b1 0)), (3, (.slice (some ⟨b2, 0, none⟩) 1 1)), (4, (.slice ao10 l7.length cap10)), (7, (.slice ao11 l8.length cap11)), (20, (.slice ao1 p_s.steps.length cap1)), (21, (.int .i64 (p_s.steps.length : Int))), (22, (.int .i64 i1)), (1000000007, (.bool false))] g' ∧ (∀ w', S' w' → St w H [rowE 80 encCell l8 ao11 cap11 xs10, rowE 80 encCell l2 ao4 cap4 xs3, rowE 4 encBool l7 ao10 cap10 xs9, .blk b2 78 [(.slice ao4 l2.length cap4)], .blk b1 24 [(.int .i64 p_s.actuators), (.slice ao1 p_s.steps.length cap1)]] H w') ∧ k4 l7 l8 = some r) ?_ ?_
    ·
     refine WP.seq (WP.region (V rfl (ov_fieldAddr underlying45 rfl rfl rfl sizeOf43 rfl rfl) (Vl 1 isAgg43 rfl (V rfl (ov_len_slice underlying43 rfl rfl) (Vm rfl (WL.nil (tn (WP.block ?_))))))))
     refine WP.loop (fun m3 g' S' => ∃ (i3 : Int) (l5 : (List Bool)) (ao8 : _) (cap8 : _) (xs7 : _) (l6 : (List Cell)) (ao9 : _) (cap9 : _) (xs8 : _), RL H encBool l5 xs7 ∧ RL H encCell l6 xs8 ∧ Sub [(1, (pB b1 0)), (3, (.slice (some ⟨b2, 0, none⟩) 1 1)), (4, (.slice ao8 l5.length cap8)), (7, (.slice ao9 l6.length cap9)), (20, (.slice ao1 p_s.steps.length cap1)), (21, (.int .i64 (p_s.steps.length : Int))), (22, (.int .i64 i1)), (50, (.slice ao5 x1.strokes.length cap5)), (51, (.int .i64 (x1.strokes.length : Int))), (52, (.int .i64 i3)), (1000000007, (.bool false))] g' ∧ (∀ w', S' w' → St w H [rowE 80 encCell l6 ao9 cap9 xs8, rowE 80 encCell l2 ao4 cap4 xs3, rowE 4 encBool l5 ao8 cap8 xs7, .blk b2 78 [(.slice ao4 l2.length cap4)], .blk b1 24 [(.int .i64 p_s.actuators), (.slice ao1 p_s.steps.length cap1)]] H w') ∧ diagram_cells1_loop3 x1 k4 m3 i3 l5 l6 = some r) ((Int.toNat ((x1.strokes.length : Int) - 0) + 1)) ⟨0, l1, ao3, cap3, xs2, l4, ao7, cap7, xs6, rl3, rl8, (Sub.all rfl), fun w' s => (s.sl [0, 2, 3, 4, 5]), hm⟩ ?_ ?_
     ·
      rintro g' S' ⟨_, _, _, _, _, _, _, _, _, _, _, _, _, hm⟩
      exact none_some hm
     rintro m3 g' S' ⟨i3, l5, ao8, cap8, xs7, l6, ao9, cap9, xs8, rl9, rl10, hsub4, hS4, hm⟩
     refine WP.sub hsub4 (WP.weaken hS4 ?_)
     rw [diagram_cells1_loop3] at hm
     refine WP.seq (WP.region (V rfl (ov_lss rfl rfl rfl) (WL.nil (tn (WP.seq ?_)))))
     refine WP.cond rfl (fun hc6 => ?_) (fun hc6 => ?_)
     ·
      replace hm := ite_t hc6 hm
      refine WP.skip (tn (WP.seq (WP.block (WP.seq (WP.region ?_)))))
      obtain ⟨x6, e11, hm⟩ := bind_some hm
      obtain ⟨h34, h35, h36, cs7, h37, h38⟩ := h3.get e11 (by decide)
      obtain rfl : cs7 = [(.int .i64 x6.actuator), (.bool x6.out)] := h37
      refine V rfl (ov_indexAddr underlying43 sizeOf48 rfl rfl rfl h34 h35 h36) (V rfl (ov_load_elems (vs := [(.int .i64 x6.actuator), (.bool x6.out)]) isAgg48 sizeOf48 rfl rfl rfl h38 h36) ?_)
      refine ws rfl (os_alloc (cs := [(.int .i64 0), (.bool false)]) zeroValue48 rfl rfl (fun b6 => ?_))
      refine ws0 rfl (os_store (i := 0) (vs := [(.int .i64 x6.actuator), (.bool x6.out)]) (cs' := [(.int .i64 x6.actuator), (.bool x6.out)]) sizeOf48 rfl rfl rfl rfl rfl rfl rfl rfl rfl ?_)
      refine WL.nil (tn (WP.seq (WP.region (Vm rfl (V rfl (ov_fieldAddr underlying48 rfl rfl rfl sizeOf3 rfl rfl) (Vl 0 isAgg3 rfl (V rfl (ov_fieldAddr underlying48 rfl rfl rfl sizeOf4 rfl rfl) (Vl 0 isAgg4 rfl ?_))))))))
      obtain ⟨x7, e12, hm⟩ := bind_some hm
      obtain ⟨h39, h40, h41, cs8, h42, h43⟩ := RL.get rl9 e12
      obtain rfl : cs8 = [(.bool x7)] := h42
      refine V rfl (ov_indexAddr_own (i := 3) underlying49 sizeOf4 rfl rfl rfl rfl h39 h40) ?_
      have rl11 := RL.set rl9 (y := x6.out) (off := 0) (vs := [(.bool x6.out)]) e12 h43 rfl (Nat.le_of_ble_eq_true rfl)
      have e13 := at?_set (y := x6.out) e12
      refine ws0 rfl (os_store_own (i := 3) (vs := [(.bool x6.out)]) sizeOf4 rfl rfl rfl rfl (own_pos h39 h40) rfl rfl (elem_le (off := 0) h41 (Nat.le_of_ble_eq_true rfl)) rfl ?_)
      rw [show l5.length = (List.set l5 (Int.toNat x6.actuator) x6.out).length from List.length_set.symm]
      obtain ⟨h44, h45, h46, cs9, h47, h48⟩ := rl11.get e13
      obtain rfl : cs9 = [(.bool x6.out)] := h47
      refine WL.nil (tn ?_)
      refine WP.region_any (S₀ := St w H [.blk b6 48 [(.int .i64 x6.actuator), (.bool x6.out)], rowE 80 encCell l2 ao4 cap4 xs3, .row 4 (encBool).size (List.set l5 (Int.toNat x6.actuator) x6.out).length (.slice ao8 (List.set l5 (Int.toNat x6.actuator) x6.out).length cap8) (spl xs7 (Int.toNat x6.actuator * encBool.size + 0) [(.bool x6.out)]), .blk b2 78 [(.slice ao4 l2.length cap4)], .blk b1 24 [(.int .i64 p_s.actuators), (.slice ao1 p_s.steps.length cap1)]] H) 16 rfl (by kernel_rfl) (fun w' s => (s.sl [0, 2, 3, 4, 5])) (fun _ s => s.drew) ?_
      refine TQ' 0 rfl (ov_move rfl rfl) (TQ' 1 rfl (ov_fieldAddr underlying48 rfl rfl rfl sizeOf3 rfl rfl) (TQ' 2 rfl (ov_load_box (i := 0) isAgg3 rfl rfl rfl rfl) (TQ' 3 rfl (ov_fieldAddr underlying48 rfl rfl rfl sizeOf4 rfl rfl) (TQ' 4 rfl (ov_load_box (i := 0) isAgg4 rfl rfl rfl rfl) (TQ' 8 rfl (ov_fieldAddr underlying48 rfl rfl rfl sizeOf4 rfl rfl) (TQ' 9 rfl (ov_load_box (i := 0) isAgg4 rfl rfl rfl rfl) ?_))))))
      refine AL.any (rs := [5]) (by kernel_rfl) (by decide) ?_
      refine ALs.cons (i := 5) rfl (Runs.free rfl) rfl rfl ?_ ?_
      ·
       obtain ⟨r3, e14, hm⟩ := bind_some hm
       refine OQ.step (oq_con (r := (.int .i64 r3)) call87 rfl rfl (fun w' s => ⟨_, (diagram_index_con x6.out  w' H s.hold hG r3 e14)⟩)) ?_
       refine ⟨fun w' s => (s.sl [0, 2, 3, 4, 5]), ?_⟩
       obtain ⟨x8, e15, hm⟩ := bind_some hm
       obtain ⟨h49, h50, h51, cs10, h52, h53⟩ := hG.1.1.2.get e15 (by decide)
       obtain rfl : cs10 = [(.int .u8 x8)] := h52
       refine TQ' 6 rfl (ov_indexAddr_globL rfl underlying84 sizeOf5 rfl rfl rfl h49 h50) (TQ' 7 rfl (ov_load_elem (v := (.int .u8 x8)) isAgg5 rfl rfl h53) ?_)
       refine AL.any (rs := [10]) (by kernel_rfl) (by decide) ?_
       refine ALs.cons (i := 10) rfl (Runs.free rfl) rfl rfl ?_ ?_
       ·
        obtain ⟨r4, e16, hm⟩ := bind_some hm
        refine OQ.step (oq_con (r := (.int .i64 r4)) call87 rfl rfl (fun w' s => ⟨_, (diagram_index_con x6.out  w' H s.hold hG r4 e16)⟩)) ?_
        refine ⟨fun w' s => (s.sl [0, 2, 3, 4, 5]), ?_⟩
        obtain ⟨x9, e17, hm⟩ := bind_some hm
        obtain ⟨h54, h55, h56, cs11, h57, h58⟩ := hG.1.1.1.get e17 (by decide)
        obtain rfl : cs11 = [(.int .u8 x9)] := h57
        refine TQ' 11 rfl (ov_indexAddr_globL rfl underlying84 sizeOf5 rfl rfl rfl h54 h55) (TQ' 12 rfl (ov_load_elem (v := (.int .u8 x9)) isAgg5 rfl rfl h58) (TQ' 13 rfl (ov_build (r := (.agg #[(.int .u8 x8), (.int .u8 x9)])) rfl rfl (fun _ => by kernel_rfl)) ?_))
        refine AL.any (rs := [14]) (by kernel_rfl) (by decide) ?_
        refine ALs.cons (i := 14) rfl (Runs.free rfl) rfl rfl ?_ ?_
        ·
         obtain ⟨x10, e18, hm⟩ := bind_some hm
         obtain ⟨h59, h60, h61, cs12, h62, h63⟩ := RL.get rl10 e18
         obtain rfl : cs12 = [(.int .u8 x10.first), (.int .u8 x10.second)] := h62
         refine OQ.step (OV.quiet (ov_indexAddr_own (i := 1) underlying78 sizeOf80 rfl rfl rfl rfl h59 h60)) ?_
         refine ⟨fun w' s => (s.sl [0, 2, 3, 4, 5]), ?_⟩
         refine AL.any (rs := [15]) (by kernel_rfl) (by decide) ?_
         refine ALs.cons0 (i := 15) rfl (Runs.free rfl) rfl ?_ ?_
         ·
          have rl12 := RL.set rl10 (y := (Cell.mk x8 x9)) (off := 0) (vs := [(.int .u8 x8), (.int .u8 x9)]) e18 h63 rfl (Nat.le_of_ble_eq_true rfl)
          have e19 := at?_set (y := (Cell.mk x8 x9)) e18
          refine os_store_own (i := 1) (vs := [(.int .u8 x8), (.int .u8 x9)]) sizeOf80 rfl rfl rfl rfl (own_pos h59 h60) rfl rfl (elem_le (off := 0) h61 (Nat.le_of_ble_eq_true rfl)) rfl ?_
          rw [show l6.length = (List.set l6 (Int.toNat x6.actuator) (Cell.mk x8 x9)).length from List.length_set.symm]
          obtain ⟨h64, h65, h66, cs13, h67, h68⟩ := rl12.get e19
          obtain rfl : cs13 = [(.int .u8 x8), (.int .u8 x9)] := h67
          refine ⟨fun w' s => (s.sl [0, 2, 3, 4, 5]), ?_⟩
          refine AL.done (by kernel_rfl) ?_
          refine bn (tn (WP.region (V rfl (ov_add rfl rfl rfl) (Vm rfl (WL.nil (tn ?_))))))
          exact ⟨(IntKind.wrap .i64 (i3 + 1)), (List.set l5 (Int.toNat x6.actuator) x6.out), ao8, cap8, (spl xs7 (Int.toNat x6.actuator * encBool.size + 0) [(.bool x6.out)]), (List.set l6 (Int.toNat x6.actuator) (Cell.mk x8 x9)), ao9, cap9, (spl xs8 (Int.toNat x6.actuator * encCell.size + 0) [(.int .u8 x8), (.int .u8 x9)]), rl11, rl12, (Sub.all rfl), fun w' s => (s.sl [1, 2, 3, 4, 5]), hm⟩
         exact ALs.nil
        exact ALs.nil
       exact ALs.nil
      exact ALs.nil
     replace hm := ite_f hc6 hm
     refine WP.exit (then_exit (then_exit (block_here (tn ?_))))
     exact ⟨l5, ao8, cap8, xs7, l6, ao9, cap9, xs8, rl9, rl10, (Sub.all rfl), fun w' s => s, hm⟩
    rintro g' S' ⟨l7, ao10, cap10, xs9, l8, ao11, cap11, xs10, rl13, rl14, hsub5, hS5, hm⟩
    refine WP.sub hsub5 (WP.weaken hS5 ?_)
    replace hm := (congrFun (congrFun hk4 l7) l8).symm.trans hm
    refine WP.seq (WP.region (Vm rfl (V rfl (ov_len_slice underlying76 rfl rfl) (Vm rfl (WL.nil (tn (WP.block ?_)))))))
    refine WP.loop (fun m4 g' S' => ∃ (i4 : Int) (l9 : (List Cell)) (ao12 : _) (cap12 : _) (xs11 : _), RL H encCell l9 xs11 ∧ Sub [(1, (pB b1 0)), (3, (.slice (some ⟨b2, 0, none⟩) 1 1)), (4, (.slice ao10 l7.length cap10)), (7, (.slice ao11 l8.length cap11)), (20, (.slice ao1 p_s.steps.length cap1)), (21, (.int .i64 (p_s.steps.length : Int))), (22, (.int .i64 i1)), (79, (.int .i64 1)), (80, (.int .i64 i4)), (1000000007, (.bool false))] g' ∧ (∀ w', S' w' → St w H [rowE 80 encCell l8 ao11 cap11 xs10, rowE 80 encCell l9 ao12 cap12 xs11, rowE 4 encBool l7 ao10 cap10 xs9, .blk b2 78 [(.slice ao12 l9.length cap12)], .blk b1 24 [(.int .i64 p_s.actuators), (.slice ao1 p_s.steps.length cap1)]] H w') ∧ diagram_cells1_loop4 k2 l8 l7 m4 i4 l9 = some r) ((Int.toNat (1 - 0) + 1)) ⟨0, l2, ao4, cap4, xs3, rl4, (Sub.all rfl), fun w' s => s, hm⟩ ?_ ?_
    ·
     rintro g' S' ⟨_, _, _, _, _, _, _, _, hm⟩
     exact none_some hm
    rintro m4 g' S' ⟨i4, l9, ao12, cap12, xs11, rl15, hsub6, hS6, hm⟩
    refine WP.sub hsub6 (WP.weaken hS6 ?_)
    rw [diagram_cells1_loop4] at hm
    refine WP.seq (WP.region (V rfl (ov_lss rfl rfl rfl) (WL.nil (tn (WP.seq ?_)))))
    refine WP.cond rfl (fun hc7 => ?_) (fun hc7 => ?_)
    ·
     replace hm := ite_t hc7 hm
     refine WP.skip (tn (WP.seq (WP.block (WP.seq (WP.region (Vm rfl (Va rfl (WL.nil (tn ?_)))))))))
     refine WP.region_any (S₀ := St w H [rowE 80 encCell l8 ao11 cap11 xs10, rowE 4 encBool l7 ao10 cap10 xs9, .blk b1 24 [(.int .i64 p_s.actuators), (.slice ao1 p_s.steps.length cap1)]] H) 14 rfl (by kernel_rfl) (fun w' s => (s.sl [0, 2, 4])) (fun _ s => s.drew) ?_
     refine TQ' 0 rfl (ov_move rfl rfl) (TQ' 1 rfl (ov_move rfl rfl) (TQ' 2 rfl (ov_move rfl rfl) (TQ' 3 rfl (ov_move rfl rfl) ?_)))
     rcases Bool.eq_false_or_eq_true (i4 == 0) with hc8 | hc8
     ·
      replace hm := ite_t hc8 hm
      refine TQ' 4 rfl (ov_indexAddr_bsl (j := 0) underlying76 sizeOf78 rfl rfl rfl (eq_of_beq hc8) rfl) (TQ' 6 rfl (ov_move rfl rfl) (TQ' 7 rfl (ov_move rfl rfl) ?_))
      obtain ⟨x11, e20, hm⟩ := bind_some hm
      obtain ⟨h69, h70, h71, cs14, h72, h73⟩ := RL.get rl14 e20
      obtain rfl : cs14 = [(.int .u8 x11.first), (.int .u8 x11.second)] := h72
      refine TQ' 8 rfl (ov_indexAddr_own (i := 0) underlying78 sizeOf80 rfl rfl rfl rfl h69 h70) (TQ' 9 rfl (ov_load_owns (i := 0) (vs := [(.int .u8 x11.first), (.int .u8 x11.second)]) isAgg80 sizeOf80 rfl rfl rfl (own_pos h69 h70) rfl (fun j u hu => elem_cell h73 hu)) ?_)
      refine AL.any (rs := [5, 10]) (by kernel_rfl) (by decide) ?_
      refine ALs.cons (i := 5) rfl (Runs.free rfl) rfl rfl ?_ ?_
      ·
       refine OQ.step (OV.quiet (ov_load_box (i := 3) isAgg78 rfl rfl rfl rfl)) ?_
       refine ⟨fun w' s => (s.sl [0, 2, 4]), ?_⟩
       refine AL.any (rs := [10]) (by kernel_rfl) (by decide) ?_
       refine ALs.cons (i := 10) rfl (Runs.free rfl) rfl rfl ?_ ?_
       ·
        have rl16 : RL H encCell ([x11] : List Cell) [(.int .u8 x11.first), (.int .u8 x11.second)] := RL.cons (cs := [(.int .u8 x11.first), (.int .u8 x11.second)]) (xs := []) rfl (RL.nil _ _)
        refine os_buildSlice (cs := [(.int .u8 x11.first), (.int .u8 x11.second)]) (E := 80) (sz := 2) rfl rfl (fun _ => by kernel_rfl) rfl (by decide) (fun b7 => ?_)
        refine ⟨fun w' s => (s.sl [1, 3, 5]), ?_⟩
        refine AL.any (rs := [11]) (by kernel_rfl) (by decide) ?_
        refine ALs.cons (i := 11) rfl (Runs.free rfl) rfl rfl ?_ ?_
        ·
         obtain ⟨l10, e21, hm⟩ := bind_some hm
         refine os_app (i := 2) (j := 0) (En := encCell) (xs := xs11) (ys := [(.int .u8 x11.first), (.int .u8 x11.second)]) underlying78 (by kernel_rfl : (prog.info? 80).map (fun i => (i.zero, i.size, i.bytes)) = some (some (.agg #[(.int .u8 0), (.int .u8 0)]), (encCell).size, 2)) rfl (by decide) rfl rfl rfl rfl rfl rfl rl15 rl16 e21 (fun ao13 cap13 rl17 => ?_)
         refine ⟨fun w' s => (s.sl [1, 3, 5]), ?_⟩
         refine TQ' 12 rfl (ov_indexAddr_bsl (j := 0) underlying76 sizeOf78 rfl rfl rfl (eq_of_beq hc8) rfl) ?_
         refine AL.any (rs := [13]) (by kernel_rfl) (by decide) ?_
         refine ALs.cons0 (i := 13) rfl (Runs.free rfl) rfl ?_ ?_
         ·
          refine os_store (i := 4) (vs := [(.slice ao13 (l9 ++ ([x11] : List Cell)).length cap13)]) (cs' := [(.slice ao13 (l9 ++ ([x11] : List Cell)).length cap13)]) sizeOf78 rfl rfl rfl rfl rfl rfl rfl rfl rfl ?_
          refine ⟨fun w' s => (s.sl [1, 3, 5]), ?_⟩
          refine AL.done (by kernel_rfl) ?_
          refine bn (tn (WP.region (V rfl (ov_add rfl rfl rfl) (Vm rfl (WL.nil (tn ?_))))))
          exact ⟨(IntKind.wrap .i64 (i4 + 1)), (l9 ++ ([x11] : List Cell)), ao13, cap13, (xs11 ++ [(.int .u8 x11.first), (.int .u8 x11.second)]), rl17, (Sub.all rfl), fun w' s => (s.sl [1, 2, 3, 4, 5]), hm⟩
         exact ALs.nil
        exact ALs.nil
       exact ALs.nil
      refine ALs.cons (i := 10) rfl (Runs.free rfl) rfl rfl ?_ ?_
      ·
       have rl16 : RL H encCell ([x11] : List Cell) [(.int .u8 x11.first), (.int .u8 x11.second)] := RL.cons (cs := [(.int .u8 x11.first), (.int .u8 x11.second)]) (xs := []) rfl (RL.nil _ _)
       refine os_buildSlice (cs := [(.int .u8 x11.first), (.int .u8 x11.second)]) (E := 80) (sz := 2) rfl rfl (fun _ => by kernel_rfl) rfl (by decide) (fun b7 => ?_)
       refine ⟨fun w' s => (s.sl [1, 3, 5]), ?_⟩
       refine AL.any (rs := [5]) (by kernel_rfl) (by decide) ?_
       refine ALs.cons (i := 5) rfl (Runs.free rfl) rfl rfl ?_ ?_
       ·
        refine OQ.step (OV.quiet (ov_load_box (i := 4) isAgg78 rfl rfl rfl rfl)) ?_
        refine ⟨fun w' s => (s.sl [1, 3, 5]), ?_⟩
        refine AL.any (rs := [11]) (by kernel_rfl) (by decide) ?_
        refine ALs.cons (i := 11) rfl (Runs.free rfl) rfl rfl ?_ ?_
        ·
         obtain ⟨l10, e21, hm⟩ := bind_some hm
         refine os_app (i := 2) (j := 0) (En := encCell) (xs := xs11) (ys := [(.int .u8 x11.first), (.int .u8 x11.second)]) underlying78 (by kernel_rfl : (prog.info? 80).map (fun i => (i.zero, i.size, i.bytes)) = some (some (.agg #[(.int .u8 0), (.int .u8 0)]), (encCell).size, 2)) rfl (by decide) rfl rfl rfl rfl rfl rfl rl15 rl16 e21 (fun ao13 cap13 rl17 => ?_)
         refine ⟨fun w' s => (s.sl [1, 3, 5]), ?_⟩
         refine TQ' 12 rfl (ov_indexAddr_bsl (j := 0) underlying76 sizeOf78 rfl rfl rfl (eq_of_beq hc8) rfl) ?_
         refine AL.any (rs := [13]) (by kernel_rfl) (by decide) ?_
         refine ALs.cons0 (i := 13) rfl (Runs.free rfl) rfl ?_ ?_
         ·
          refine os_store (i := 4) (vs := [(.slice ao13 (l9 ++ ([x11] : List Cell)).length cap13)]) (cs' := [(.slice ao13 (l9 ++ ([x11] : List Cell)).length cap13)]) sizeOf78 rfl rfl rfl rfl rfl rfl rfl rfl rfl ?_
          refine ⟨fun w' s => (s.sl [1, 3, 5]), ?_⟩
          refine AL.done (by kernel_rfl) ?_
          refine bn (tn (WP.region (V rfl (ov_add rfl rfl rfl) (Vm rfl (WL.nil (tn ?_))))))
          exact ⟨(IntKind.wrap .i64 (i4 + 1)), (l9 ++ ([x11] : List Cell)), ao13, cap13, (xs11 ++ [(.int .u8 x11.first), (.int .u8 x11.second)]), rl17, (Sub.all rfl), fun w' s => (s.sl [1, 2, 3, 4, 5]), hm⟩
         exact ALs.nil
        exact ALs.nil
       exact ALs.nil
      exact ALs.nil
     replace hm := ite_f hc8 hm
     exact (none_some hm).elim
    replace hm := ite_f hc7 hm
    refine WP.exit (then_exit (then_exit (block_here (bn (tn ?_)))))
    exact ⟨l7, ao10, cap10, xs9, l9, ao12, cap12, xs11, rl13, rl15, (Sub.all rfl), fun w' s => (s.sl [1, 2, 3, 4]), hm⟩
   rintro g' S' ⟨l11, ao14, cap14, xs12, l12, ao15, cap15, xs13, rl18, rl19, hsub7, hS7, hm⟩
   refine WP.sub hsub7 (WP.weaken hS7 ?_)
   replace hm := (congrFun (congrFun hk2 l11) l12).symm.trans hm
   refine WP.region (V rfl (ov_add rfl rfl rfl) (Vm rfl (WL.nil (tn ?_))))
   exact ⟨(IntKind.wrap .i64 (i1 + 1)), l11, ao14, cap14, xs12, l12, ao15, cap15, xs13, rl18, rl19, (Sub.all rfl), fun w' s => s, hm⟩
  replace hm := ite_f hc3 hm
  refine WP.exit (then_exit (then_exit (block_here (tn ?_))))
  exact ⟨l2, ao4, cap4, xs3, rl4, (Sub.all rfl), fun w' s => (s.sl [0, 2]), hm⟩
 rintro g' S' ⟨l13, ao16, cap16, xs14, rl20, hsub8, hS8, hm⟩
 refine WP.sub hsub8 (WP.weaken hS8 ?_)
 replace hm := (congrFun hk1 l13).symm.trans hm
 refine WP.seq (WP.region (Vm rfl ?_))
 refine WL.held rl20 (fun H1 hc9 hle1 h74 => ?_)
 have rl21 : RL H1 (encSl encCell) ([l13] : List (List Cell)) [(.slice ao16 l13.length cap16)] := RL.cons (cs := [(.slice ao16 l13.length cap16)]) (xs := []) ⟨ao16, cap16, rfl, h74, hc9⟩ (RL.nil _ _)
 refine WL.weaken (fun _ s => s.blk_rowN (N := 1) (sz := 1) rfl (by decide)) ?_
 refine Va rfl (WL.nil (tn (WP.ret ?_)))
 obtain rfl := Option.some.inj hm
 refine retQ_ret results43 (Res.tmp rfl Res.nil) rfl (fun w' s => ⟨s.below, ?_⟩)
 obtain ⟨h75, hc10⟩ := s.ret_row (i := 0) rfl rl21
 exact ⟨(some ⟨b2, 0, none⟩), 1, rfl, h75, hc10⟩
end Go.Proofs.YtbckcjjffbgidaaGreatDoor.W
