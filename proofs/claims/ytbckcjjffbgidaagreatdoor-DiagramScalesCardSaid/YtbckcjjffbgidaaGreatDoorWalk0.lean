/- The walks. Written by our own program gen.py; Lean checks it. -/
import Derived.Test.YtbckcjjffbgidaaGreatDoorPlain
import Derived.Test.YtbckcjjffbgidaaGreatDoorEqs
import Derived.Test.YtbckcjjffbgidaaGreatDoorProg
import Derived.Test.YtbckcjjffbgidaaGreatDoorExt
import Derived.Test.YtbckcjjffbgidaaGreatDoorBuild
import Derived.Test.YtbckcjjffbgidaaGreatDoorClone
set_option linter.unusedVariables false
set_option maxRecDepth 100000
set_option maxHeartbeats 4000000
namespace Go.Proofs.YtbckcjjffbgidaaGreatDoor.W
open Go Go.RowKit Go.Proofs.Tryz
theorem slices_IndexFunc_stringstring_diagram_given_1_con (p_s : (List (List UInt8))) (ao1 : Option Addr) (cap1 : Nat) (w : World) (H : Heap) (hH : Le H (hp w)) (h1 : SL H encStr ao1 p_s) (hc1 : p_s.length ≤ cap1) (hG : Glob H) (r : Int) (hm : slices_IndexFunc_stringstring_diagram_given_1 p_s = some r) :
  Con prog 126 [(.slice ao1 p_s.length cap1), (.func (.func 103) #[] #[])] w H (fun v _ => v = (.int .i64 r)) := by
 unfold slices_IndexFunc_stringstring_diagram_given_1 at hm
 refine con_of hH func126 rfl 19 ntmps126 rfl ?_
 refine WP.seq (WP.region (Va rfl (WL.nil (tn ?_))))
 obtain ⟨k1, hk1, hm⟩ := joinK_some hm
 refine WP.seq_join (fun g' S' => Sub [(1000000007, (.bool false))] g' ∧ (∀ w', S' w' → St w H [] H w') ∧ k1 = some r) ?_ ?_
 ·
  refine WP.seq (WP.region (Vm rfl (V rfl (ov_len_slice underlying27 rfl rfl) (Vm rfl (WL.nil (tn (WP.block ?_)))))))
  refine WP.loop (fun m1 g' S' => ∃ (i1 : Int), Sub [(0, (.slice ao1 p_s.length cap1)), (1, (.func (.func 103) #[] #[])), (7, (.int .i64 (p_s.length : Int))), (8, (.int .i64 i1)), (1000000007, (.bool false))] g' ∧ (∀ w', S' w' → St w H [] H w') ∧ slices_IndexFunc_stringstring_diagram_given_1_loop1 p_s k1 m1 i1 = some r) ((Int.toNat ((p_s.length : Int) - 0) + 1)) ⟨0, (Sub.all rfl), fun w' s => s, hm⟩ ?_ ?_
  ·
   rintro g' S' ⟨_, _, _, hm⟩
   exact none_some hm
  rintro m1 g' S' ⟨i1, hsub1, hS1, hm⟩
  refine WP.sub hsub1 (WP.weaken hS1 ?_)
  rw [slices_IndexFunc_stringstring_diagram_given_1_loop1] at hm
  refine WP.seq (WP.region (V rfl (ov_lss rfl rfl rfl) (WL.nil (tn (WP.seq ?_)))))
  refine WP.cond rfl (fun hc2 => ?_) (fun hc2 => ?_)
  ·
   replace hm := ite_t hc2 hm
   refine WP.skip (tn (WP.seq (WP.block (WP.seq (WP.region (Vm rfl (Va rfl (WL.nil (tn (WP.seq (WP.region (Vm rfl (Vm rfl ?_)))))))))))))
   refine Vm rfl ?_
   obtain ⟨x1, e1, hm⟩ := bind_some hm
   obtain ⟨h2, h3, h4, cs1, h5, h6⟩ := h1.get e1 (by decide)
   obtain rfl : cs1 = [(mkS x1)] := h5
   refine V rfl (ov_indexAddr underlying27 sizeOf9 rfl rfl rfl h2 h3 h4) (V rfl (ov_load_elem (v := (mkS x1)) isAgg9 rfl rfl h6) ?_)
   refine ws rfl (os_inline (cap := []) (vs := [(mkS x1)]) call103 rfl rfl rfl func103 rfl 6 ntmps103 rfl (fun w' s => ?_))
   refine WP.seq (WP.region (Va rfl (WL.nil (tn (WP.seq (WP.region (Vm rfl (V rfl (ov_len_string underlying9 rfl rfl) (V rfl (ov_gtr rfl rfl rfl) (Va rfl (WL.nil (tn (WP.ret ?_)))))))))))))
   refine retQ_ret (v := (.bool (decide ((x1.length : Int) > 4096)))) results103 (Res.tmp rfl Res.nil) rfl (fun w' s => ⟨_, ?_, s⟩)
   refine WL.nil (tn ?_)
   refine WP.cond rfl (fun hc3 => ?_) (fun hc3 => ?_)
   ·
    replace hm := ite_t hc3 hm
    refine WP.seq (WP.region (Vm rfl (Va rfl (WL.nil (tn (WP.ret (block_ret (then_ret (then_ret (block_ret (then_ret ?_)))))))))))
    obtain rfl := Option.some.inj hm
    refine retQ_ret results126 (Res.tmp rfl Res.nil) rfl (fun w' s => ⟨s.below, ?_⟩)
    exact rfl
   replace hm := ite_f hc3 hm
   refine WP.skip (bn (tn (WP.region (V rfl (ov_add rfl rfl rfl) (Vm rfl (WL.nil (tn ?_)))))))
   exact ⟨(IntKind.wrap .i64 (i1 + 1)), (Sub.all rfl), fun w' s => s, hm⟩
  replace hm := ite_f hc2 hm
  refine WP.exit (then_exit (then_exit (block_here (tn ?_))))
  exact ⟨(Sub.all rfl), fun w' s => s, hm⟩
 rintro g' S' ⟨hsub2, hS2, hm⟩
 refine WP.sub hsub2 (WP.weaken hS2 ?_)
 replace hm := hk1.symm.trans hm
 refine WP.seq (WP.region (Va rfl (WL.nil (tn (WP.ret ?_)))))
 obtain rfl := Option.some.inj hm
 refine retQ_ret results126 (Res.tmp rfl Res.nil) rfl (fun w' s => ⟨s.below, ?_⟩)
 exact rfl
theorem slices_ContainsFunc_stringstring_diagram_given_1_con (p_s : (List (List UInt8))) (ao1 : Option Addr) (cap1 : Nat) (w : World) (H : Heap) (hH : Le H (hp w)) (h1 : SL H encStr ao1 p_s) (hc1 : p_s.length ≤ cap1) (hG : Glob H) (r : Bool) (hm : slices_ContainsFunc_stringstring_diagram_given_1 p_s = some r) :
  Con prog 102 [(.slice ao1 p_s.length cap1), (.func (.func 103) #[] #[])] w H (fun v _ => v = (.bool r)) := by
 unfold slices_ContainsFunc_stringstring_diagram_given_1 at hm
 refine con_of hH func102 rfl 9 ntmps102 rfl ?_
 refine WP.seq (WP.region (Va rfl (WL.nil (tn (WP.seq (WP.region (Vm rfl (Vm rfl ?_))))))))
 obtain ⟨r1, e1, hm⟩ := bind_some hm
 refine wo rfl (oq_con (r := (.int .i64 r1)) call126 rfl rfl (fun w' s => ⟨_, (slices_IndexFunc_stringstring_diagram_given_1_con p_s ao1 cap1  w' H s.hold h1 hc1 hG r1 e1)⟩)) ?_
 refine V rfl (ov_geq rfl rfl rfl) (Va rfl (WL.nil (tn (WP.ret ?_))))
 obtain rfl := Option.some.inj hm
 refine retQ_ret results102 (Res.tmp rfl Res.nil) rfl (fun w' s => ⟨s.below, ?_⟩)
 exact rfl
theorem slices_IndexFunc_api_Stepapi_Step_diagram_draw_1_con (p_s : (List Step)) (ao1 : Option Addr) (cap1 : Nat) (w : World) (H : Heap) (hH : Le H (hp w)) (h1 : SL H encStep ao1 p_s) (hc1 : p_s.length ≤ cap1) (hG : Glob H) (r : Int) (hm : slices_IndexFunc_api_Stepapi_Step_diagram_draw_1 p_s = some r) :
  Con prog 115 [(.slice ao1 p_s.length cap1), (.func (.func 81) #[] #[])] w H (fun v _ => v = (.int .i64 r)) := by
 unfold slices_IndexFunc_api_Stepapi_Step_diagram_draw_1 at hm
 refine con_of hH func115 rfl 19 ntmps115 rfl ?_
 refine WP.seq (WP.region (Va rfl (WL.nil (tn ?_))))
 obtain ⟨k1, hk1, hm⟩ := joinK_some hm
 refine WP.seq_join (fun g' S' => Sub [(1000000007, (.bool false))] g' ∧ (∀ w', S' w' → St w H [] H w') ∧ k1 = some r) ?_ ?_
 ·
  refine WP.seq (WP.region (Vm rfl (V rfl (ov_len_slice underlying22 rfl rfl) (Vm rfl (WL.nil (tn (WP.block ?_)))))))
  refine WP.loop (fun m1 g' S' => ∃ (i1 : Int), Sub [(0, (.slice ao1 p_s.length cap1)), (1, (.func (.func 81) #[] #[])), (7, (.int .i64 (p_s.length : Int))), (8, (.int .i64 i1)), (1000000007, (.bool false))] g' ∧ (∀ w', S' w' → St w H [] H w') ∧ slices_IndexFunc_api_Stepapi_Step_diagram_draw_1_loop1 p_s k1 m1 i1 = some r) ((Int.toNat ((p_s.length : Int) - 0) + 1)) ⟨0, (Sub.all rfl), fun w' s => s, hm⟩ ?_ ?_
  ·
   rintro g' S' ⟨_, _, _, hm⟩
   exact none_some hm
  rintro m1 g' S' ⟨i1, hsub1, hS1, hm⟩
  refine WP.sub hsub1 (WP.weaken hS1 ?_)
  rw [slices_IndexFunc_api_Stepapi_Step_diagram_draw_1_loop1] at hm
  refine WP.seq (WP.region (V rfl (ov_lss rfl rfl rfl) (WL.nil (tn (WP.seq ?_)))))
  refine WP.cond rfl (fun hc2 => ?_) (fun hc2 => ?_)
  ·
   replace hm := ite_t hc2 hm
   refine WP.skip (tn (WP.seq (WP.block (WP.seq (WP.region (Vm rfl (Va rfl (WL.nil (tn (WP.seq (WP.region (Vm rfl (Vm rfl ?_)))))))))))))
   refine Vm rfl ?_
   obtain ⟨x1, e1, hm⟩ := bind_some hm
   obtain ⟨h3, h4, h5, cs1, h6, h7⟩ := h1.get e1 (by decide)
   obtain ⟨ao2, cap2, rfl, h2, hc3⟩ := h6
   refine V rfl (ov_indexAddr underlying22 sizeOf45 rfl rfl rfl h3 h4 h5) (V rfl (ov_load_elems (vs := [(.slice ao2 x1.strokes.length cap2), (.int .i64 x1.wait)]) isAgg45 sizeOf45 rfl rfl rfl h7 h5) ?_)
   refine ws rfl (os_inline (cap := []) (vs := [(.agg #[(.slice ao2 x1.strokes.length cap2), (.int .i64 x1.wait)])]) call81 rfl rfl rfl func81 rfl 6 ntmps81 rfl (fun w' s => ?_))
   refine WP.seq (WP.region ?_)
   refine ws rfl (os_box (cs := [(.slice ao2 x1.strokes.length cap2), (.int .i64 x1.wait)]) rfl rfl rfl (fun b1 => ?_))
   refine Va rfl (WL.nil (tn (WP.seq (WP.region (V rfl (ov_fieldAddr underlying45 rfl rfl rfl sizeOf3 rfl rfl) (Vl 0 isAgg3 rfl (V rfl (ov_neq rfl rfl rfl) (Va rfl (WL.nil (tn (WP.ret ?_)))))))))))
   refine retQ_ret (v := (.bool (x1.wait != 0))) results81 (Res.tmp rfl Res.nil) rfl (fun w' s => ⟨_, ?_, s⟩)
   refine WL.nil (tn ?_)
   refine WP.cond rfl (fun hc4 => ?_) (fun hc4 => ?_)
   ·
    replace hm := ite_t hc4 hm
    refine WP.seq (WP.region (Vm rfl (Va rfl (WL.nil (tn (WP.ret (block_ret (then_ret (then_ret (block_ret (then_ret ?_)))))))))))
    obtain rfl := Option.some.inj hm
    refine retQ_ret results115 (Res.tmp rfl Res.nil) rfl (fun w' s => ⟨s.below, ?_⟩)
    exact rfl
   replace hm := ite_f hc4 hm
   refine WP.skip (bn (tn (WP.region (V rfl (ov_add rfl rfl rfl) (Vm rfl (WL.nil (tn ?_)))))))
   exact ⟨(IntKind.wrap .i64 (i1 + 1)), (Sub.all rfl), fun w' s => (s.select [] (by decide) rfl), hm⟩
  replace hm := ite_f hc2 hm
  refine WP.exit (then_exit (then_exit (block_here (tn ?_))))
  exact ⟨(Sub.all rfl), fun w' s => s, hm⟩
 rintro g' S' ⟨hsub2, hS2, hm⟩
 refine WP.sub hsub2 (WP.weaken hS2 ?_)
 replace hm := hk1.symm.trans hm
 refine WP.seq (WP.region (Va rfl (WL.nil (tn (WP.ret ?_)))))
 obtain rfl := Option.some.inj hm
 refine retQ_ret results115 (Res.tmp rfl Res.nil) rfl (fun w' s => ⟨s.below, ?_⟩)
 exact rfl
theorem slices_ContainsFunc_api_Stepapi_Step_diagram_draw_1_con (p_s : (List Step)) (ao1 : Option Addr) (cap1 : Nat) (w : World) (H : Heap) (hH : Le H (hp w)) (h1 : SL H encStep ao1 p_s) (hc1 : p_s.length ≤ cap1) (hG : Glob H) (r : Bool) (hm : slices_ContainsFunc_api_Stepapi_Step_diagram_draw_1 p_s = some r) :
  Con prog 80 [(.slice ao1 p_s.length cap1), (.func (.func 81) #[] #[])] w H (fun v _ => v = (.bool r)) := by
 unfold slices_ContainsFunc_api_Stepapi_Step_diagram_draw_1 at hm
 refine con_of hH func80 rfl 9 ntmps80 rfl ?_
 refine WP.seq (WP.region (Va rfl (WL.nil (tn (WP.seq (WP.region (Vm rfl (Vm rfl ?_))))))))
 obtain ⟨r1, e1, hm⟩ := bind_some hm
 refine wo rfl (oq_con (r := (.int .i64 r1)) call115 rfl rfl (fun w' s => ⟨_, (slices_IndexFunc_api_Stepapi_Step_diagram_draw_1_con p_s ao1 cap1  w' H s.hold h1 hc1 hG r1 e1)⟩)) ?_
 refine V rfl (ov_geq rfl rfl rfl) (Va rfl (WL.nil (tn (WP.ret ?_))))
 obtain rfl := Option.some.inj hm
 refine retQ_ret results80 (Res.tmp rfl Res.nil) rfl (fun w' s => ⟨s.below, ?_⟩)
 exact rfl
theorem sequence_ends_behind_con (p_x : Ends6) (p_s : Step) (ao1 : Option Addr) (cap1 : Nat) (w : World) (H : Heap) (hH : Le H (hp w)) (h1 : SL H encStroke ao1 p_s.strokes) (hc1 : p_s.strokes.length ≤ cap1) (hG : Glob H) (r : Ends6) (hm : sequence_ends_behind p_x p_s = some r) :
  Con prog 78 [(.agg #[(.bool p_x.a0), (.bool p_x.a1), (.bool p_x.a2), (.bool p_x.a3), (.bool p_x.a4), (.bool p_x.a5)]), (.agg #[(.slice ao1 p_s.strokes.length cap1), (.int .i64 p_s.wait)])] w H (fun v _ => v = (.agg #[(.bool r.a0), (.bool r.a1), (.bool r.a2), (.bool r.a3), (.bool r.a4), (.bool r.a5)])) := by
 unfold sequence_ends_behind at hm
 refine con_of hH func78 rfl 21 ntmps78 rfl ?_
 refine WP.seq (WP.region ?_)
 refine ws rfl (os_box (cs := [(.bool p_x.a0), (.bool p_x.a1), (.bool p_x.a2), (.bool p_x.a3), (.bool p_x.a4), (.bool p_x.a5)]) rfl rfl rfl (fun b1 => ?_))
 refine ws rfl (os_box (cs := [(.slice ao1 p_s.strokes.length cap1), (.int .i64 p_s.wait)]) rfl rfl rfl (fun b2 => ?_))
 refine ws rfl (os_alloc (cs := [(.bool false), (.bool false), (.bool false), (.bool false), (.bool false), (.bool false)]) zeroValue101 rfl rfl (fun b3 => ?_))
 refine WL.nil (tn ?_)
 obtain ⟨k1, hk1, hm⟩ := joinK_some hm
 refine WP.seq_join (fun g' S' => ∃ (c7 : Bool) (c8 : Bool) (c9 : Bool) (c10 : Bool) (c11 : Bool) (c12 : Bool), Sub [(2, (pB b1 0)), (4, (pB b3 0)), (1000000007, (.bool false))] g' ∧ (∀ w', S' w' → St w H [.blk b3 101 [(.bool false), (.bool false), (.bool false), (.bool false), (.bool false), (.bool false)], .blk b1 101 [(.bool c7), (.bool c8), (.bool c9), (.bool c10), (.bool c11), (.bool c12)]] H w') ∧ k1 c7 c8 c9 c10 c11 c12 = some r) ?_ ?_
 ·
  refine WP.seq (WP.region (V rfl (ov_fieldAddr underlying45 rfl rfl rfl sizeOf43 rfl rfl) (Vl 1 isAgg43 rfl (V rfl (ov_len_slice underlying43 rfl rfl) (Vm rfl (WL.nil (tn (WP.block ?_))))))))
  refine WP.loop (fun m1 g' S' => ∃ (i1 : Int) (c1 : Bool) (c2 : Bool) (c3 : Bool) (c4 : Bool) (c5 : Bool) (c6 : Bool), Sub [(2, (pB b1 0)), (4, (pB b3 0)), (8, (.slice ao1 p_s.strokes.length cap1)), (9, (.int .i64 (p_s.strokes.length : Int))), (10, (.int .i64 i1)), (1000000007, (.bool false))] g' ∧ (∀ w', S' w' → St w H [.blk b3 101 [(.bool false), (.bool false), (.bool false), (.bool false), (.bool false), (.bool false)], .blk b1 101 [(.bool c1), (.bool c2), (.bool c3), (.bool c4), (.bool c5), (.bool c6)]] H w') ∧ sequence_ends_behind_loop1 p_s k1 m1 i1 c1 c2 c3 c4 c5 c6 = some r) ((Int.toNat ((p_s.strokes.length : Int) - 0) + 1)) ⟨0, p_x.a0, p_x.a1, p_x.a2, p_x.a3, p_x.a4, p_x.a5, (Sub.all rfl), fun w' s => (s.select [0, 2] (by decide) rfl), hm⟩ ?_ ?_
  ·
   rintro g' S' ⟨_, _, _, _, _, _, _, _, _, hm⟩
   exact none_some hm
  rintro m1 g' S' ⟨i1, c1, c2, c3, c4, c5, c6, hsub1, hS1, hm⟩
  refine WP.sub hsub1 (WP.weaken hS1 ?_)
  rw [sequence_ends_behind_loop1] at hm
  refine WP.seq (WP.region (V rfl (ov_lss rfl rfl rfl) (WL.nil (tn (WP.seq ?_)))))
  refine WP.cond rfl (fun hc2 => ?_) (fun hc2 => ?_)
  ·
   replace hm := ite_t hc2 hm
   refine WP.skip (tn (WP.seq (WP.block (WP.seq (WP.region ?_)))))
   obtain ⟨x1, e1, hm⟩ := bind_some hm
   obtain ⟨h2, h3, h4, cs1, h5, h6⟩ := h1.get e1 (by decide)
   obtain rfl : cs1 = [(.int .i64 x1.actuator), (.bool x1.out)] := h5
   refine V rfl (ov_indexAddr underlying43 sizeOf48 rfl rfl rfl h2 h3 h4) (V rfl (ov_load_elems (vs := [(.int .i64 x1.actuator), (.bool x1.out)]) isAgg48 sizeOf48 rfl rfl rfl h6 h4) ?_)
   refine ws rfl (os_alloc (cs := [(.int .i64 0), (.bool false)]) zeroValue48 rfl rfl (fun b4 => ?_))
   refine ws0 rfl (os_store (i := 0) (vs := [(.int .i64 x1.actuator), (.bool x1.out)]) (cs' := [(.int .i64 x1.actuator), (.bool x1.out)]) sizeOf48 rfl rfl rfl rfl rfl rfl rfl rfl rfl ?_)
   refine WL.nil (tn (WP.region (V rfl (ov_fieldAddr underlying48 rfl rfl rfl sizeOf3 rfl rfl) (Vl 0 isAgg3 rfl (V rfl (ov_fieldAddr underlying48 rfl rfl rfl sizeOf4 rfl rfl) (Vl 0 isAgg4 rfl ?_))))))
   rcases Bool.eq_false_or_eq_true (x1.actuator == 0) with hc3 | hc3
   ·
    replace hm := ite_t hc3 hm
    refine V rfl (ov_indexAddr_at (j := 0) underlying101 sizeOf4 rfl rfl rfl (eq_of_beq hc3) rfl) ?_
    refine ws0 rfl (os_store (i := 2) (vs := [(.bool x1.out)]) (cs' := [(.bool x1.out), (.bool c2), (.bool c3), (.bool c4), (.bool c5), (.bool c6)]) sizeOf4 rfl rfl rfl rfl rfl rfl rfl rfl rfl ?_)
    refine WL.nil (bn (tn (WP.region (V rfl (ov_add rfl rfl rfl) (Vm rfl (WL.nil (tn ?_)))))))
    exact ⟨(IntKind.wrap .i64 (i1 + 1)), x1.out, c2, c3, c4, c5, c6, (Sub.all rfl), fun w' s => (s.select [1, 2] (by decide) rfl), hm⟩
   replace hm := ite_f hc3 hm
   rcases Bool.eq_false_or_eq_true (x1.actuator == 1) with hc4 | hc4
   ·
    replace hm := ite_t hc4 hm
    refine V rfl (ov_indexAddr_at (j := 1) underlying101 sizeOf4 rfl rfl rfl (eq_of_beq hc4) rfl) ?_
    refine ws0 rfl (os_store (i := 2) (vs := [(.bool x1.out)]) (cs' := [(.bool c1), (.bool x1.out), (.bool c3), (.bool c4), (.bool c5), (.bool c6)]) sizeOf4 rfl rfl rfl rfl rfl rfl rfl rfl rfl ?_)
    refine WL.nil (bn (tn (WP.region (V rfl (ov_add rfl rfl rfl) (Vm rfl (WL.nil (tn ?_)))))))
    exact ⟨(IntKind.wrap .i64 (i1 + 1)), c1, x1.out, c3, c4, c5, c6, (Sub.all rfl), fun w' s => (s.select [1, 2] (by decide) rfl), hm⟩
   replace hm := ite_f hc4 hm
   rcases Bool.eq_false_or_eq_true (x1.actuator == 2) with hc5 | hc5
   ·
    replace hm := ite_t hc5 hm
    refine V rfl (ov_indexAddr_at (j := 2) underlying101 sizeOf4 rfl rfl rfl (eq_of_beq hc5) rfl) ?_
    refine ws0 rfl (os_store (i := 2) (vs := [(.bool x1.out)]) (cs' := [(.bool c1), (.bool c2), (.bool x1.out), (.bool c4), (.bool c5), (.bool c6)]) sizeOf4 rfl rfl rfl rfl rfl rfl rfl rfl rfl ?_)
    refine WL.nil (bn (tn (WP.region (V rfl (ov_add rfl rfl rfl) (Vm rfl (WL.nil (tn ?_)))))))
    exact ⟨(IntKind.wrap .i64 (i1 + 1)), c1, c2, x1.out, c4, c5, c6, (Sub.all rfl), fun w' s => (s.select [1, 2] (by decide) rfl), hm⟩
   replace hm := ite_f hc5 hm
   rcases Bool.eq_false_or_eq_true (x1.actuator == 3) with hc6 | hc6
   ·
    replace hm := ite_t hc6 hm
    refine V rfl (ov_indexAddr_at (j := 3) underlying101 sizeOf4 rfl rfl rfl (eq_of_beq hc6) rfl) ?_
    refine ws0 rfl (os_store (i := 2) (vs := [(.bool x1.out)]) (cs' := [(.bool c1), (.bool c2), (.bool c3), (.bool x1.out), (.bool c5), (.bool c6)]) sizeOf4 rfl rfl rfl rfl rfl rfl rfl rfl rfl ?_)
    refine WL.nil (bn (tn (WP.region (V rfl (ov_add rfl rfl rfl) (Vm rfl (WL.nil (tn ?_)))))))
    exact ⟨(IntKind.wrap .i64 (i1 + 1)), c1, c2, c3, x1.out, c5, c6, (Sub.all rfl), fun w' s => (s.select [1, 2] (by decide) rfl), hm⟩
   replace hm := ite_f hc6 hm
   rcases Bool.eq_false_or_eq_true (x1.actuator == 4) with hc7 | hc7
   ·
    replace hm := ite_t hc7 hm
    refine V rfl (ov_indexAddr_at (j := 4) underlying101 sizeOf4 rfl rfl rfl (eq_of_beq hc7) rfl) ?_
    refine ws0 rfl (os_store (i := 2) (vs := [(.bool x1.out)]) (cs' := [(.bool c1), (.bool c2), (.bool c3), (.bool c4), (.bool x1.out), (.bool c6)]) sizeOf4 rfl rfl rfl rfl rfl rfl rfl rfl rfl ?_)
    refine WL.nil (bn (tn (WP.region (V rfl (ov_add rfl rfl rfl) (Vm rfl (WL.nil (tn ?_)))))))
    exact ⟨(IntKind.wrap .i64 (i1 + 1)), c1, c2, c3, c4, x1.out, c6, (Sub.all rfl), fun w' s => (s.select [1, 2] (by decide) rfl), hm⟩
   replace hm := ite_f hc7 hm
   rcases Bool.eq_false_or_eq_true (x1.actuator == 5) with hc8 | hc8
   ·
    replace hm := ite_t hc8 hm
    refine V rfl (ov_indexAddr_at (j := 5) underlying101 sizeOf4 rfl rfl rfl (eq_of_beq hc8) rfl) ?_
    refine ws0 rfl (os_store (i := 2) (vs := [(.bool x1.out)]) (cs' := [(.bool c1), (.bool c2), (.bool c3), (.bool c4), (.bool c5), (.bool x1.out)]) sizeOf4 rfl rfl rfl rfl rfl rfl rfl rfl rfl ?_)
    refine WL.nil (bn (tn (WP.region (V rfl (ov_add rfl rfl rfl) (Vm rfl (WL.nil (tn ?_)))))))
    exact ⟨(IntKind.wrap .i64 (i1 + 1)), c1, c2, c3, c4, c5, x1.out, (Sub.all rfl), fun w' s => (s.select [1, 2] (by decide) rfl), hm⟩
   replace hm := ite_f hc8 hm
   exact (none_some hm).elim
  replace hm := ite_f hc2 hm
  refine WP.exit (then_exit (then_exit (block_here (tn ?_))))
  exact ⟨c1, c2, c3, c4, c5, c6, (Sub.all rfl), fun w' s => s, hm⟩
 rintro g' S' ⟨c7, c8, c9, c10, c11, c12, hsub2, hS2, hm⟩
 refine WP.sub hsub2 (WP.weaken hS2 ?_)
 replace hm := (congrFun (congrFun (congrFun (congrFun (congrFun (congrFun hk1 c7) c8) c9) c10) c11) c12).symm.trans hm
 refine WP.seq (WP.region (V rfl (ov_load_whole (i := 1) isAgg101 sizeOf101 rfl rfl rfl rfl) ?_))
 refine ws0 rfl (os_store (i := 0) (vs := [(.bool c7), (.bool c8), (.bool c9), (.bool c10), (.bool c11), (.bool c12)]) (cs' := [(.bool c7), (.bool c8), (.bool c9), (.bool c10), (.bool c11), (.bool c12)]) sizeOf101 rfl rfl rfl rfl rfl rfl rfl rfl rfl ?_)
 refine WL.nil (tn (WP.ret ?_))
 obtain rfl := Option.some.inj hm
 refine retQ_ret results78 (Res.cell rfl (box_loads (i := 0) isAgg101 sizeOf101 rfl rfl) Res.nil) rfl (fun w' s => ⟨s.below, ?_⟩)
 exact rfl
theorem ref13_SameStrokes_con (p_a : (List Stroke)) (p_b : (List Stroke)) (ao1 : Option Addr) (cap1 : Nat) (ao2 : Option Addr) (cap2 : Nat) (w : World) (H : Heap) (hH : Le H (hp w)) (h1 : SL H encStroke ao1 p_a) (hc1 : p_a.length ≤ cap1) (h2 : SL H encStroke ao2 p_b) (hc2 : p_b.length ≤ cap2) (hG : Glob H) (r : Bool) (hm : ref13_SameStrokes p_a p_b = some r) :
  Con prog 132 [(.slice ao1 p_a.length cap1), (.slice ao2 p_b.length cap2)] w H (fun v _ => v = (.bool r)) := by
 unfold ref13_SameStrokes at hm
 refine con_of hH func132 rfl 26 ntmps132 rfl ?_
 refine WP.seq (WP.region (Va rfl (WL.nil (tn (WP.seq (WP.seq (WP.region (Vm rfl (V rfl (ov_len_slice underlying43 rfl rfl) (Vm rfl (V rfl (ov_len_slice underlying43 rfl rfl) (V rfl (ov_neq rfl rfl rfl) (WL.nil ?_)))))))))))))
 refine tn ?_
 refine WP.cond rfl (fun hc3 => ?_) (fun hc3 => ?_)
 ·
  replace hm := ite_t hc3 hm
  refine WP.seq (WP.region (Va rfl (WL.nil (tn (WP.ret (then_ret ?_))))))
  obtain rfl := Option.some.inj hm
  refine retQ_ret results132 (Res.tmp rfl Res.nil) rfl (fun w' s => ⟨s.below, ?_⟩)
  exact rfl
 replace hm := ite_f hc3 hm
 refine WP.skip (tn ?_)
 obtain ⟨k1, hk1, hm⟩ := joinK_some hm
 refine WP.seq_join (fun g' S' => Sub [(1000000007, (.bool false))] g' ∧ (∀ w', S' w' → St w H [] H w') ∧ k1 = some r) ?_ ?_
 ·
  refine WP.seq (WP.region (Va rfl (WL.nil (tn (WP.block ?_)))))
  refine WP.loop (fun m1 g' S' => ∃ (i1 : Int), Sub [(0, (.slice ao1 p_a.length cap1)), (1, (.slice ao2 p_b.length cap2)), (5, (.int .i64 i1)), (1000000007, (.bool false))] g' ∧ (∀ w', S' w' → St w H [] H w') ∧ ref13_SameStrokes_loop1 p_a p_b k1 m1 i1 = some r) ((Int.toNat ((p_a.length : Int) - 0) + 1)) ⟨0, (Sub.all rfl), fun w' s => s, hm⟩ ?_ ?_
  ·
   rintro g' S' ⟨_, _, _, hm⟩
   exact none_some hm
  rintro m1 g' S' ⟨i1, hsub1, hS1, hm⟩
  refine WP.sub hsub1 (WP.weaken hS1 ?_)
  rw [ref13_SameStrokes_loop1] at hm
  refine WP.seq (WP.seq (WP.region (Vm rfl (Vm rfl (V rfl (ov_len_slice underlying43 rfl rfl) (V rfl (ov_lss rfl rfl rfl) (WL.nil (tn ?_))))))))
  refine WP.cond rfl (fun hc4 => ?_) (fun hc4 => ?_)
  ·
   replace hm := ite_t hc4 hm
   refine WP.skip (tn (WP.seq (WP.block (WP.seq ?_))))
   refine WP.region_draws (by kernel_rfl) (by kernel_rfl) (fun _ s => s.drew) ?_
   refine qf rfl (ov_move rfl rfl) ?_
   refine qf rfl (ov_move rfl rfl) ?_
   obtain ⟨x1, e1, hm⟩ := bind_some hm
   obtain ⟨h3, h4, h5, cs1, h6, h7⟩ := h1.get e1 (by decide)
   obtain rfl : cs1 = [(.int .i64 x1.actuator), (.bool x1.out)] := h6
   refine qf rfl (ov_indexAddr underlying43 sizeOf48 rfl rfl rfl h3 h4 h5) ?_
   refine qf rfl (ov_load_elems (vs := [(.int .i64 x1.actuator), (.bool x1.out)]) isAgg48 sizeOf48 rfl rfl rfl h7 h5) ?_
   refine qf rfl (ov_move rfl rfl) ?_
   refine qf rfl (ov_move rfl rfl) ?_
   obtain ⟨x2, e2, hm⟩ := bind_some hm
   obtain ⟨h8, h9, h10, cs2, h11, h12⟩ := h2.get e2 (by decide)
   obtain rfl : cs2 = [(.int .i64 x2.actuator), (.bool x2.out)] := h11
   refine qf rfl (ov_indexAddr underlying43 sizeOf48 rfl rfl rfl h8 h9 h10) ?_
   refine qf rfl (ov_load_elems (vs := [(.int .i64 x2.actuator), (.bool x2.out)]) isAgg48 sizeOf48 rfl rfl rfl h12 h10) ?_
   refine qf rfl (neq_struct48 (a := x1) (b := x2) rfl rfl rfl) ?_
   refine QL.nil ?_
   refine tn ?_
   refine WP.cond rfl (fun hc5 => ?_) (fun hc5 => ?_)
   ·
    replace hm := ite_t hc5 hm
    refine WP.seq (WP.region (Va rfl (WL.nil (tn (WP.ret (block_ret (then_ret (then_ret (block_ret (then_ret ?_))))))))))
    obtain rfl := Option.some.inj hm
    refine retQ_ret results132 (Res.tmp rfl Res.nil) rfl (fun w' s => ⟨s.below, ?_⟩)
    exact rfl
   replace hm := ite_f hc5 hm
   refine WP.skip (bn (tn (WP.region (Vm rfl (V rfl (ov_add rfl rfl rfl) (Va rfl (WL.nil (tn ?_))))))))
   exact ⟨(IntKind.wrap .i64 (i1 + 1)), (Sub.all rfl), fun w' s => s, hm⟩
  replace hm := ite_f hc4 hm
  refine WP.exit (then_exit (then_exit (block_here (tn ?_))))
  exact ⟨(Sub.all rfl), fun w' s => s, hm⟩
 rintro g' S' ⟨hsub2, hS2, hm⟩
 refine WP.sub hsub2 (WP.weaken hS2 ?_)
 replace hm := hk1.symm.trans hm
 refine WP.seq (WP.region (Va rfl (WL.nil (tn (WP.ret ?_)))))
 obtain rfl := Option.some.inj hm
 refine retQ_ret results132 (Res.tmp rfl Res.nil) rfl (fun w' s => ⟨s.below, ?_⟩)
 exact rfl
theorem ref13_Same_con (p_a : Step) (p_b : Step) (ao1 : Option Addr) (cap1 : Nat) (ao2 : Option Addr) (cap2 : Nat) (w : World) (H : Heap) (hH : Le H (hp w)) (h1 : SL H encStroke ao1 p_a.strokes) (hc1 : p_a.strokes.length ≤ cap1) (h2 : SL H encStroke ao2 p_b.strokes) (hc2 : p_b.strokes.length ≤ cap2) (hG : Glob H) (r : Bool) (hm : ref13_Same p_a p_b = some r) :
  Con prog 110 [(.agg #[(.slice ao1 p_a.strokes.length cap1), (.int .i64 p_a.wait)]), (.agg #[(.slice ao2 p_b.strokes.length cap2), (.int .i64 p_b.wait)])] w H (fun v _ => v = (.bool r)) := by
 unfold ref13_Same at hm
 refine con_of hH func110 rfl 17 ntmps110 rfl ?_
 refine WP.seq (WP.region ?_)
 refine ws rfl (os_box (cs := [(.slice ao1 p_a.strokes.length cap1), (.int .i64 p_a.wait)]) rfl rfl rfl (fun b1 => ?_))
 refine ws rfl (os_box (cs := [(.slice ao2 p_b.strokes.length cap2), (.int .i64 p_b.wait)]) rfl rfl rfl (fun b2 => ?_))
 refine Va rfl (WL.nil (tn (WP.seq (WP.region (V rfl (ov_fieldAddr underlying45 rfl rfl rfl sizeOf3 rfl rfl) (Vl 1 isAgg3 rfl (V rfl (ov_fieldAddr underlying45 rfl rfl rfl sizeOf3 rfl rfl) (Vl 0 isAgg3 rfl (V rfl (ov_eql rfl rfl rfl) (Vm rfl ?_))))))))))
 obtain ⟨c1, e1, hm⟩ := bind_some hm
 refine WL.cut_bool 6 16 (x := c1) ?_ ?_
 ·
  rcases Bool.eq_false_or_eq_true (p_a.wait == p_b.wait) with hc3 | hc3
  ·
   replace hm := ite_t hc3 e1
   refine wy hc3 rfl (ov_fieldAddr underlying45 rfl rfl rfl sizeOf43 rfl rfl) ?_
   refine wy hc3 rfl (ov_load_box (i := 1) isAgg43 rfl rfl rfl rfl) ?_
   refine wy hc3 rfl (ov_fieldAddr underlying45 rfl rfl rfl sizeOf43 rfl rfl) ?_
   refine wy hc3 rfl (ov_load_box (i := 0) isAgg43 rfl rfl rfl rfl) ?_
   obtain ⟨r1, e2, hm⟩ := bind_some hm
   refine WL.quiet (Runs.yes rfl rfl rfl hc3) rfl rfl (oq_con (r := (.bool r1)) call132 rfl rfl (fun w' s => ⟨_, (ref13_SameStrokes_con p_a.strokes p_b.strokes ao1 cap1 ao2 cap2  w' H s.hold h1 hc1 h2 hc2 hG r1 e2)⟩)) ?_
   refine V rfl (ov_pick_true rfl (guard_eq rfl hc3) rfl) ?_
   exact WL.nil ⟨Sub.cons' rfl (congrArg Value.bool (Option.some.inj hm)) (Sub.dropn 6 rfl), fun _ s => s⟩
  replace hm := ite_f hc3 e1
  refine Vi rfl (Idle.no rfl rfl rfl hc3) (Vi rfl (Idle.no rfl rfl rfl hc3) (Vi rfl (Idle.no rfl rfl rfl hc3) (Vi rfl (Idle.no rfl rfl rfl hc3) (Vi rfl (Idle.no rfl rfl rfl hc3) (V rfl (ov_pick_false rfl (guard_eq rfl hc3) rfl) ?_)))))
  exact WL.nil ⟨Sub.cons' rfl (congrArg Value.bool (Option.some.inj hm)) (Sub.dropn 6 rfl), fun _ s => s⟩
 refine Va rfl (WL.nil (tn (WP.ret ?_)))
 obtain rfl := Option.some.inj hm
 refine retQ_ret results110 (Res.tmp rfl Res.nil) rfl (fun w' s => ⟨s.below, ?_⟩)
 exact rfl
theorem ref13_SameSteps_con (p_a : (List Step)) (p_b : (List Step)) (ao1 : Option Addr) (cap1 : Nat) (ao2 : Option Addr) (cap2 : Nat) (w : World) (H : Heap) (hH : Le H (hp w)) (h1 : SL H encStep ao1 p_a) (hc1 : p_a.length ≤ cap1) (h2 : SL H encStep ao2 p_b) (hc2 : p_b.length ≤ cap2) (hG : Glob H) (r : Bool) (hm : ref13_SameSteps p_a p_b = some r) :
  Con prog 74 [(.slice ao1 p_a.length cap1), (.slice ao2 p_b.length cap2)] w H (fun v _ => v = (.bool r)) := by
 unfold ref13_SameSteps at hm
 refine con_of hH func74 rfl 27 ntmps74 rfl ?_
 refine WP.seq (WP.region (Va rfl (WL.nil (tn (WP.seq (WP.seq (WP.region (Vm rfl (V rfl (ov_len_slice underlying22 rfl rfl) (Vm rfl (V rfl (ov_len_slice underlying22 rfl rfl) (V rfl (ov_neq rfl rfl rfl) (WL.nil ?_)))))))))))))
 refine tn ?_
 refine WP.cond rfl (fun hc3 => ?_) (fun hc3 => ?_)
 ·
  replace hm := ite_t hc3 hm
  refine WP.seq (WP.region (Va rfl (WL.nil (tn (WP.ret (then_ret ?_))))))
  obtain rfl := Option.some.inj hm
  refine retQ_ret results74 (Res.tmp rfl Res.nil) rfl (fun w' s => ⟨s.below, ?_⟩)
  exact rfl
 replace hm := ite_f hc3 hm
 refine WP.skip (tn ?_)
 obtain ⟨k1, hk1, hm⟩ := joinK_some hm
 refine WP.seq_join (fun g' S' => Sub [(1000000007, (.bool false))] g' ∧ (∀ w', S' w' → St w H [] H w') ∧ k1 = some r) ?_ ?_
 ·
  refine WP.seq (WP.region (Va rfl (WL.nil (tn (WP.block ?_)))))
  refine WP.loop (fun m1 g' S' => ∃ (i1 : Int), Sub [(0, (.slice ao1 p_a.length cap1)), (1, (.slice ao2 p_b.length cap2)), (5, (.int .i64 i1)), (1000000007, (.bool false))] g' ∧ (∀ w', S' w' → St w H [] H w') ∧ ref13_SameSteps_loop1 p_a p_b k1 m1 i1 = some r) ((Int.toNat ((p_a.length : Int) - 0) + 1)) ⟨0, (Sub.all rfl), fun w' s => s, hm⟩ ?_ ?_
  ·
   rintro g' S' ⟨_, _, _, hm⟩
   exact none_some hm
  rintro m1 g' S' ⟨i1, hsub1, hS1, hm⟩
  refine WP.sub hsub1 (WP.weaken hS1 ?_)
  rw [ref13_SameSteps_loop1] at hm
  refine WP.seq (WP.seq (WP.region (Vm rfl (Vm rfl (V rfl (ov_len_slice underlying22 rfl rfl) (V rfl (ov_lss rfl rfl rfl) (WL.nil (tn ?_))))))))
  refine WP.cond rfl (fun hc4 => ?_) (fun hc4 => ?_)
  ·
   replace hm := ite_t hc4 hm
   refine WP.skip (tn (WP.seq (WP.block (WP.seq ?_))))
   refine WP.region_draws (by kernel_rfl) (by kernel_rfl) (fun _ s => s.drew) ?_
   refine qf rfl (ov_move rfl rfl) ?_
   refine qf rfl (ov_move rfl rfl) ?_
   obtain ⟨x1, e1, hm⟩ := bind_some hm
   obtain ⟨h4, h5, h6, cs1, h7, h8⟩ := h1.get e1 (by decide)
   obtain ⟨ao3, cap3, rfl, h3, hc5⟩ := h7
   refine qf rfl (ov_indexAddr underlying22 sizeOf45 rfl rfl rfl h4 h5 h6) ?_
   refine qf rfl (ov_load_elems (vs := [(.slice ao3 x1.strokes.length cap3), (.int .i64 x1.wait)]) isAgg45 sizeOf45 rfl rfl rfl h8 h6) ?_
   refine qf rfl (ov_move rfl rfl) ?_
   refine qf rfl (ov_move rfl rfl) ?_
   obtain ⟨x2, e2, hm⟩ := bind_some hm
   obtain ⟨h10, h11, h12, cs2, h13, h14⟩ := h2.get e2 (by decide)
   obtain ⟨ao4, cap4, rfl, h9, hc6⟩ := h13
   refine qf rfl (ov_indexAddr underlying22 sizeOf45 rfl rfl rfl h10 h11 h12) ?_
   refine qf rfl (ov_load_elems (vs := [(.slice ao4 x2.strokes.length cap4), (.int .i64 x2.wait)]) isAgg45 sizeOf45 rfl rfl rfl h14 h12) ?_
   obtain ⟨r1, e3, hm⟩ := bind_some hm
   refine QL.quiet (Runs.free rfl) rfl rfl (oq_con (r := (.bool r1)) call110 rfl rfl (fun w' s => ⟨_, (ref13_Same_con x1 x2 ao3 cap3 ao4 cap4  w' H s.hold h3 hc5 h9 hc6 hG r1 e3)⟩)) ?_
   refine qf rfl (ov_not rfl rfl) ?_
   refine QL.nil ?_
   refine tn ?_
   refine WP.cond rfl (fun hc7 => ?_) (fun hc7 => ?_)
   ·
    replace hm := ite_t hc7 hm
    refine WP.seq (WP.region (Va rfl (WL.nil (tn (WP.ret (block_ret (then_ret (then_ret (block_ret (then_ret ?_))))))))))
    obtain rfl := Option.some.inj hm
    refine retQ_ret results74 (Res.tmp rfl Res.nil) rfl (fun w' s => ⟨s.below, ?_⟩)
    exact rfl
   replace hm := ite_f hc7 hm
   refine WP.skip (bn (tn (WP.region (Vm rfl (V rfl (ov_add rfl rfl rfl) (Va rfl (WL.nil (tn ?_))))))))
   exact ⟨(IntKind.wrap .i64 (i1 + 1)), (Sub.all rfl), fun w' s => s, hm⟩
  replace hm := ite_f hc4 hm
  refine WP.exit (then_exit (then_exit (block_here (tn ?_))))
  exact ⟨(Sub.all rfl), fun w' s => s, hm⟩
 rintro g' S' ⟨hsub2, hS2, hm⟩
 refine WP.sub hsub2 (WP.weaken hS2 ?_)
 replace hm := hk1.symm.trans hm
 refine WP.seq (WP.region (Va rfl (WL.nil (tn (WP.ret ?_)))))
 obtain rfl := Option.some.inj hm
 refine retQ_ret results74 (Res.tmp rfl Res.nil) rfl (fun w' s => ⟨s.below, ?_⟩)
 exact rfl
theorem stroke_known_con (p_n : Int) (w : World) (H : Heap) (hH : Le H (hp w)) (hG : Glob H) (r : Bool) (hm : stroke_known p_n = some r) :
  Con prog 135 [(.int .i64 p_n)] w H (fun v _ => v = (.bool r)) := by
 unfold stroke_known at hm
 refine con_of hH func135 rfl 9 ntmps135 rfl ?_
 refine WP.seq (WP.region (Va rfl (WL.nil (tn (WP.seq (WP.region (Vm rfl (V rfl (ov_geq rfl rfl rfl) (Vm rfl ?_)))))))))
 refine WL.cut_bool 3 8 (x := ((decide (p_n ≥ 0)) && (decide (p_n < 6)))) ?_ ?_
 ·
  rcases Bool.eq_false_or_eq_true (decide (p_n ≥ 0)) with hc1 | hc1
  ·
   refine wy hc1 rfl (ov_move rfl rfl) ?_
   refine wy hc1 rfl (ov_lss rfl rfl rfl) ?_
   refine V rfl (ov_pick_true rfl (guard_eq rfl hc1) rfl) ?_
   exact WL.nil ⟨Sub.cons' rfl (congrArg Value.bool (andT hc1)) (Sub.dropn 3 rfl), fun _ s => s⟩
  refine Vi rfl (Idle.no rfl rfl rfl hc1) (Vi rfl (Idle.no rfl rfl rfl hc1) (V rfl (ov_pick_false rfl (guard_eq rfl hc1) rfl) ?_))
  exact WL.nil ⟨Sub.cons' rfl (congrArg Value.bool (andF hc1)) (Sub.dropn 3 rfl), fun _ s => s⟩
 refine Va rfl (WL.nil (tn (WP.ret ?_)))
 obtain rfl := Option.some.inj hm
 refine retQ_ret results135 (Res.tmp rfl Res.nil) rfl (fun w' s => ⟨s.below, ?_⟩)
 exact rfl
theorem stroke_CheckStep_con (p_x : Step) (ao1 : Option Addr) (cap1 : Nat) (w : World) (H : Heap) (hH : Le H (hp w)) (h1 : SL H encStroke ao1 p_x.strokes) (hc1 : p_x.strokes.length ≤ cap1) (hG : Glob H) (r : Int) (hm : stroke_CheckStep p_x = some r) :
  Con prog 113 [(.agg #[(.slice ao1 p_x.strokes.length cap1), (.int .i64 p_x.wait)])] w H (fun v _ => v = (.int .i64 r)) := by
 unfold stroke_CheckStep at hm
 refine con_of hH func113 rfl 49 ntmps113 rfl ?_
 refine WP.seq (WP.region ?_)
 refine ws rfl (os_box (cs := [(.slice ao1 p_x.strokes.length cap1), (.int .i64 p_x.wait)]) rfl rfl rfl (fun b1 => ?_))
 refine Va rfl (WL.nil (tn (WP.seq (WP.seq (WP.region (V rfl (ov_fieldAddr underlying45 rfl rfl rfl sizeOf43 rfl rfl) (Vl 0 isAgg43 rfl (V rfl (ov_len_slice underlying43 rfl rfl) (Va rfl (WL.nil (tn (WP.block (WP.seq ?_)))))))))))))
 refine WP.region (Vm rfl (V rfl (ov_eql rfl rfl rfl) (Va rfl (WL.nil (tn ?_)))))
 refine WP.cond rfl (fun hc2 => ?_) (fun hc2 => ?_)
 ·
  replace hm := ite_t hc2 hm
  refine WP.seq (WP.region (Va rfl (WL.nil (tn (WP.ret (block_ret (then_ret ?_)))))))
  obtain rfl := Option.some.inj hm
  refine retQ_ret results113 (Res.tmp rfl Res.nil) rfl (fun w' s => ⟨s.below, ?_⟩)
  exact rfl
 replace hm := ite_f hc2 hm
 refine WP.seq (WP.region (Vm rfl (V rfl (ov_gtr rfl rfl rfl) (Va rfl (WL.nil (tn ?_))))))
 refine WP.cond rfl (fun hc3 => ?_) (fun hc3 => ?_)
 ·
  replace hm := ite_t hc3 hm
  refine WP.seq (WP.region (Va rfl (WL.nil (tn (WP.ret (block_ret (then_ret ?_)))))))
  obtain rfl := Option.some.inj hm
  refine retQ_ret results113 (Res.tmp rfl Res.nil) rfl (fun w' s => ⟨s.below, ?_⟩)
  exact rfl
 replace hm := ite_f hc3 hm
 refine WP.skip (bn (tn (WP.seq (WP.region (Va rfl (WL.nil (tn ?_)))))))
 obtain ⟨k1, hk1, hm⟩ := joinK_some hm
 refine WP.seq_join (fun g' S' => Sub [(1, (pB b1 0)), (1000000007, (.bool false))] g' ∧ (∀ w', S' w' → St w H [.blk b1 45 [(.slice ao1 p_x.strokes.length cap1), (.int .i64 p_x.wait)]] H w') ∧ k1 = some r) ?_ ?_
 ·
  refine WP.seq (WP.region (V rfl (ov_fieldAddr underlying45 rfl rfl rfl sizeOf43 rfl rfl) (Vl 0 isAgg43 rfl (V rfl (ov_len_slice underlying43 rfl rfl) (Vm rfl (WL.nil (tn (WP.block ?_))))))))
  refine WP.loop (fun m1 g' S' => ∃ (i1 : Int) (i2 : Int), Sub [(1, (pB b1 0)), (4, (.int .i64 i1)), (17, (.slice ao1 p_x.strokes.length cap1)), (18, (.int .i64 (p_x.strokes.length : Int))), (19, (.int .i64 i2)), (1000000007, (.bool false))] g' ∧ (∀ w', S' w' → St w H [.blk b1 45 [(.slice ao1 p_x.strokes.length cap1), (.int .i64 p_x.wait)]] H w') ∧ stroke_CheckStep_loop1 p_x k1 m1 i1 i2 = some r) ((Int.toNat ((p_x.strokes.length : Int) - 0) + 1)) ⟨(-1), 0, (Sub.all rfl), fun w' s => s, hm⟩ ?_ ?_
  ·
   rintro g' S' ⟨_, _, _, _, hm⟩
   exact none_some hm
  rintro m1 g' S' ⟨i1, i2, hsub1, hS1, hm⟩
  refine WP.sub hsub1 (WP.weaken hS1 ?_)
  rw [stroke_CheckStep_loop1] at hm
  refine WP.seq (WP.region (V rfl (ov_lss rfl rfl rfl) (WL.nil (tn (WP.seq ?_)))))
  refine WP.cond rfl (fun hc4 => ?_) (fun hc4 => ?_)
  ·
   replace hm := ite_t hc4 hm
   refine WP.skip (tn (WP.seq (WP.block (WP.seq (WP.region ?_)))))
   obtain ⟨x1, e1, hm⟩ := bind_some hm
   obtain ⟨h2, h3, h4, cs1, h5, h6⟩ := h1.get e1 (by decide)
   obtain rfl : cs1 = [(.int .i64 x1.actuator), (.bool x1.out)] := h5
   refine V rfl (ov_indexAddr underlying43 sizeOf48 rfl rfl rfl h2 h3 h4) (V rfl (ov_load_elems (vs := [(.int .i64 x1.actuator), (.bool x1.out)]) isAgg48 sizeOf48 rfl rfl rfl h6 h4) ?_)
   refine ws rfl (os_alloc (cs := [(.int .i64 0), (.bool false)]) zeroValue48 rfl rfl (fun b2 => ?_))
   refine ws0 rfl (os_store (i := 0) (vs := [(.int .i64 x1.actuator), (.bool x1.out)]) (cs' := [(.int .i64 x1.actuator), (.bool x1.out)]) sizeOf48 rfl rfl rfl rfl rfl rfl rfl rfl rfl ?_)
   refine WL.nil (tn (WP.seq (WP.block (WP.seq (WP.region (V rfl (ov_fieldAddr underlying48 rfl rfl rfl sizeOf3 rfl rfl) (Vl 0 isAgg3 rfl ?_)))))))
   obtain ⟨r1, e2, hm⟩ := bind_some hm
   refine wo rfl (oq_con (r := (.bool r1)) call135 rfl rfl (fun w' s => ⟨_, (stroke_known_con x1.actuator  w' H s.hold hG r1 e2)⟩)) ?_
   refine V rfl (ov_not rfl rfl) (Va rfl (WL.nil (tn ?_)))
   refine WP.cond rfl (fun hc5 => ?_) (fun hc5 => ?_)
   ·
    replace hm := ite_t hc5 hm
    refine WP.seq (WP.region (Va rfl (WL.nil (tn (WP.ret (block_ret (then_ret (block_ret (then_ret (then_ret (block_ret (then_ret ?_))))))))))))
    obtain rfl := Option.some.inj hm
    refine retQ_ret results113 (Res.tmp rfl Res.nil) rfl (fun w' s => ⟨s.below, ?_⟩)
    exact rfl
   replace hm := ite_f hc5 hm
   refine WP.seq (WP.region (V rfl (ov_fieldAddr underlying48 rfl rfl rfl sizeOf3 rfl rfl) (Vl 0 isAgg3 rfl (Vm rfl (V rfl (ov_eql rfl rfl rfl) (Va rfl (WL.nil (tn ?_))))))))
   refine WP.cond rfl (fun hc6 => ?_) (fun hc6 => ?_)
   ·
    replace hm := ite_t hc6 hm
    refine WP.seq (WP.region (Va rfl (WL.nil (tn (WP.ret (block_ret (then_ret (block_ret (then_ret (then_ret (block_ret (then_ret ?_))))))))))))
    obtain rfl := Option.some.inj hm
    refine retQ_ret results113 (Res.tmp rfl Res.nil) rfl (fun w' s => ⟨s.below, ?_⟩)
    exact rfl
   replace hm := ite_f hc6 hm
   refine WP.seq (WP.region (V rfl (ov_fieldAddr underlying48 rfl rfl rfl sizeOf3 rfl rfl) (Vl 0 isAgg3 rfl (Vm rfl (V rfl (ov_lss rfl rfl rfl) (Va rfl (WL.nil (tn ?_))))))))
   refine WP.cond rfl (fun hc7 => ?_) (fun hc7 => ?_)
   ·
    replace hm := ite_t hc7 hm
    refine WP.seq (WP.region (Va rfl (WL.nil (tn (WP.ret (block_ret (then_ret (block_ret (then_ret (then_ret (block_ret (then_ret ?_))))))))))))
    obtain rfl := Option.some.inj hm
    refine retQ_ret results113 (Res.tmp rfl Res.nil) rfl (fun w' s => ⟨s.below, ?_⟩)
    exact rfl
   replace hm := ite_f hc7 hm
   refine WP.skip (bn (tn (WP.region (V rfl (ov_fieldAddr underlying48 rfl rfl rfl sizeOf3 rfl rfl) (Vl 0 isAgg3 rfl (Va rfl (WL.nil (bn (tn (WP.region (V rfl (ov_add rfl rfl rfl) (Vm rfl (WL.nil ?_)))))))))))))
   refine tn ?_
   exact ⟨x1.actuator, (IntKind.wrap .i64 (i2 + 1)), (Sub.all rfl), fun w' s => (s.select [1] (by decide) rfl), hm⟩
  replace hm := ite_f hc4 hm
  refine WP.exit (then_exit (then_exit (block_here (tn ?_))))
  exact ⟨(Sub.all rfl), fun w' s => s, hm⟩
 rintro g' S' ⟨hsub2, hS2, hm⟩
 refine WP.sub hsub2 (WP.weaken hS2 ?_)
 replace hm := hk1.symm.trans hm
 refine WP.seq (WP.seq (WP.region (V rfl (ov_fieldAddr underlying45 rfl rfl rfl sizeOf3 rfl rfl) (Vl 0 isAgg3 rfl (V rfl (ov_lss rfl rfl rfl) (Vm rfl ?_))))))
 refine WL.cut_bool 4 48 (x := ((decide (p_x.wait < 0)) || (decide (p_x.wait > 1000000)))) ?_ ?_
 ·
  rcases Bool.eq_false_or_eq_true (decide (p_x.wait < 0)) with hc8 | hc8
  ·
   refine Vi rfl (Idle.no rfl rfl rfl hc8) (Vi rfl (Idle.no rfl rfl rfl hc8) (Vi rfl (Idle.no rfl rfl rfl hc8) (V rfl (ov_pick_true rfl (guard_eq rfl hc8) rfl) ?_)))
   exact WL.nil ⟨Sub.cons' rfl (congrArg Value.bool (orT hc8)) (Sub.dropn 4 rfl), fun _ s => s⟩
  refine wy hc8 rfl (ov_fieldAddr underlying45 rfl rfl rfl sizeOf3 rfl rfl) ?_
  refine wy hc8 rfl (ov_load_box (i := 0) isAgg3 rfl rfl rfl rfl) ?_
  refine wy hc8 rfl (ov_gtr rfl rfl rfl) ?_
  refine V rfl (ov_pick_false rfl (guard_eq rfl hc8) rfl) ?_
  exact WL.nil ⟨Sub.cons' rfl (congrArg Value.bool (orF hc8)) (Sub.dropn 4 rfl), fun _ s => s⟩
 refine WL.nil (tn ?_)
 refine WP.cond rfl (fun hc9 => ?_) (fun hc9 => ?_)
 ·
  replace hm := ite_t hc9 hm
  refine WP.seq (WP.region (Va rfl (WL.nil (tn (WP.ret (then_ret ?_))))))
  obtain rfl := Option.some.inj hm
  refine retQ_ret results113 (Res.tmp rfl Res.nil) rfl (fun w' s => ⟨s.below, ?_⟩)
  exact rfl
 replace hm := ite_f hc9 hm
 refine WP.skip (tn (WP.seq (WP.region (Va rfl (WL.nil (tn (WP.ret ?_)))))))
 obtain rfl := Option.some.inj hm
 refine retQ_ret results113 (Res.tmp rfl Res.nil) rfl (fun w' s => ⟨s.below, ?_⟩)
 exact rfl
theorem ref13_Actuator_con (p_n : Int) (w : World) (H : Heap) (hH : Le H (hp w)) (hG : Glob H) (r : Bool) (hm : ref13_Actuator p_n = some r) :
  Con prog 133 [(.int .i64 p_n)] w H (fun v _ => v = (.bool r)) := by
 unfold ref13_Actuator at hm
 refine con_of hH func133 rfl 9 ntmps133 rfl ?_
 refine WP.seq (WP.region (Va rfl (WL.nil (tn (WP.seq (WP.region (Vm rfl (V rfl (ov_geq rfl rfl rfl) (Vm rfl ?_)))))))))
 refine WL.cut_bool 3 8 (x := ((decide (p_n ≥ 0)) && (decide (p_n < 6)))) ?_ ?_
 ·
  rcases Bool.eq_false_or_eq_true (decide (p_n ≥ 0)) with hc1 | hc1
  ·
   refine wy hc1 rfl (ov_move rfl rfl) ?_
   refine wy hc1 rfl (ov_lss rfl rfl rfl) ?_
   refine V rfl (ov_pick_true rfl (guard_eq rfl hc1) rfl) ?_
   exact WL.nil ⟨Sub.cons' rfl (congrArg Value.bool (andT hc1)) (Sub.dropn 3 rfl), fun _ s => s⟩
  refine Vi rfl (Idle.no rfl rfl rfl hc1) (Vi rfl (Idle.no rfl rfl rfl hc1) (V rfl (ov_pick_false rfl (guard_eq rfl hc1) rfl) ?_))
  exact WL.nil ⟨Sub.cons' rfl (congrArg Value.bool (andF hc1)) (Sub.dropn 3 rfl), fun _ s => s⟩
 refine Va rfl (WL.nil (tn (WP.ret ?_)))
 obtain rfl := Option.some.inj hm
 refine retQ_ret results133 (Res.tmp rfl Res.nil) rfl (fun w' s => ⟨s.below, ?_⟩)
 exact rfl
theorem ref03_Time_con (p_n : Int) (w : World) (H : Heap) (hH : Le H (hp w)) (hG : Glob H) (r : Bool) (hm : ref03_Time p_n = some r) :
  Con prog 134 [(.int .i64 p_n)] w H (fun v _ => v = (.bool r)) := by
 unfold ref03_Time at hm
 refine con_of hH func134 rfl 9 ntmps134 rfl ?_
 refine WP.seq (WP.region (Va rfl (WL.nil (tn (WP.seq (WP.region (Vm rfl (V rfl (ov_geq rfl rfl rfl) (Vm rfl ?_)))))))))
 refine WL.cut_bool 3 8 (x := ((decide (p_n ≥ 0)) && (decide (p_n ≤ 1000000)))) ?_ ?_
 ·
  rcases Bool.eq_false_or_eq_true (decide (p_n ≥ 0)) with hc1 | hc1
  ·
   refine wy hc1 rfl (ov_move rfl rfl) ?_
   refine wy hc1 rfl (ov_leq rfl rfl rfl) ?_
   refine V rfl (ov_pick_true rfl (guard_eq rfl hc1) rfl) ?_
   exact WL.nil ⟨Sub.cons' rfl (congrArg Value.bool (andT hc1)) (Sub.dropn 3 rfl), fun _ s => s⟩
  refine Vi rfl (Idle.no rfl rfl rfl hc1) (Vi rfl (Idle.no rfl rfl rfl hc1) (V rfl (ov_pick_false rfl (guard_eq rfl hc1) rfl) ?_))
  exact WL.nil ⟨Sub.cons' rfl (congrArg Value.bool (andF hc1)) (Sub.dropn 3 rfl), fun _ s => s⟩
 refine Va rfl (WL.nil (tn (WP.ret ?_)))
 obtain rfl := Option.some.inj hm
 refine retQ_ret results134 (Res.tmp rfl Res.nil) rfl (fun w' s => ⟨s.below, ?_⟩)
 exact rfl
theorem ref13_CheckStep_con (p_x : Step) (ao1 : Option Addr) (cap1 : Nat) (w : World) (H : Heap) (hH : Le H (hp w)) (h1 : SL H encStroke ao1 p_x.strokes) (hc1 : p_x.strokes.length ≤ cap1) (hG : Glob H) (r : Int) (hm : ref13_CheckStep p_x = some r) :
  Con prog 111 [(.agg #[(.slice ao1 p_x.strokes.length cap1), (.int .i64 p_x.wait)])] w H (fun v _ => v = (.int .i64 r)) := by
 unfold ref13_CheckStep at hm
 refine con_of hH func111 rfl 67 ntmps111 rfl ?_
 refine WP.seq (WP.region ?_)
 refine ws rfl (os_box (cs := [(.slice ao1 p_x.strokes.length cap1), (.int .i64 p_x.wait)]) rfl rfl rfl (fun b1 => ?_))
 refine Va rfl (WL.nil (tn (WP.seq (WP.seq (WP.region (V rfl (ov_fieldAddr underlying45 rfl rfl rfl sizeOf43 rfl rfl) (Vl 0 isAgg43 rfl (V rfl (ov_len_slice underlying43 rfl rfl) (V rfl (ov_eql rfl rfl rfl) (WL.nil (tn ?_)))))))))))
 refine WP.cond rfl (fun hc2 => ?_) (fun hc2 => ?_)
 ·
  replace hm := ite_t hc2 hm
  refine WP.seq (WP.region (Va rfl (WL.nil (tn (WP.ret (then_ret ?_))))))
  obtain rfl := Option.some.inj hm
  refine retQ_ret results111 (Res.tmp rfl Res.nil) rfl (fun w' s => ⟨s.below, ?_⟩)
  exact rfl
 replace hm := ite_f hc2 hm
 refine WP.skip (tn (WP.seq (WP.seq (WP.region (V rfl (ov_fieldAddr underlying45 rfl rfl rfl sizeOf43 rfl rfl) (Vl 0 isAgg43 rfl (V rfl (ov_len_slice underlying43 rfl rfl) (V rfl (ov_gtr rfl rfl rfl) (WL.nil (tn ?_))))))))))
 refine WP.cond rfl (fun hc3 => ?_) (fun hc3 => ?_)
 ·
  replace hm := ite_t hc3 hm
  refine WP.seq (WP.region (Va rfl (WL.nil (tn (WP.ret (then_ret ?_))))))
  obtain rfl := Option.some.inj hm
  refine retQ_ret results111 (Res.tmp rfl Res.nil) rfl (fun w' s => ⟨s.below, ?_⟩)
  exact rfl
 replace hm := ite_f hc3 hm
 refine WP.skip (tn ?_)
 obtain ⟨k1, hk1, hm⟩ := joinK_some hm
 refine WP.seq_join (fun g' S' => Sub [(1, (pB b1 0)), (1000000007, (.bool false))] g' ∧ (∀ w', S' w' → St w H [.blk b1 45 [(.slice ao1 p_x.strokes.length cap1), (.int .i64 p_x.wait)]] H w') ∧ k1 = some r) ?_ ?_
 ·
  refine WP.seq (WP.region (Va rfl (WL.nil (tn (WP.block ?_)))))
  refine WP.loop (fun m1 g' S' => ∃ (i1 : Int), Sub [(1, (pB b1 0)), (3, (.int .i64 i1)), (1000000007, (.bool false))] g' ∧ (∀ w', S' w' → St w H [.blk b1 45 [(.slice ao1 p_x.strokes.length cap1), (.int .i64 p_x.wait)]] H w') ∧ ref13_CheckStep_loop1 p_x k1 m1 i1 = some r) ((Int.toNat ((p_x.strokes.length : Int) - 0) + 1)) ⟨0, (Sub.all rfl), fun w' s => s, hm⟩ ?_ ?_
  ·
   rintro g' S' ⟨_, _, _, hm⟩
   exact none_some hm
  rintro m1 g' S' ⟨i1, hsub1, hS1, hm⟩
  refine WP.sub hsub1 (WP.weaken hS1 ?_)
  rw [ref13_CheckStep_loop1] at hm
  refine WP.seq (WP.seq (WP.region (Vm rfl (V rfl (ov_fieldAddr underlying45 rfl rfl rfl sizeOf43 rfl rfl) (Vl 0 isAgg43 rfl (V rfl (ov_len_slice underlying43 rfl rfl) (V rfl (ov_lss rfl rfl rfl) (WL.nil (tn ?_)))))))))
  refine WP.cond rfl (fun hc4 => ?_) (fun hc4 => ?_)
  ·
   replace hm := ite_t hc4 hm
   refine WP.skip (tn (WP.seq (WP.block (WP.seq (WP.seq (WP.region (V rfl (ov_fieldAddr underlying45 rfl rfl rfl sizeOf43 rfl rfl) (Vl 0 isAgg43 rfl (Vm rfl ?_)))))))))
   obtain ⟨x1, e1, hm⟩ := bind_some hm
   obtain ⟨h2, h3, h4, cs1, h5, h6⟩ := h1.get e1 (by decide)
   obtain rfl : cs1 = [(.int .i64 x1.actuator), (.bool x1.out)] := h5
   refine V rfl (ov_indexAddr underlying43 sizeOf48 rfl rfl rfl h2 h3 h4) (V rfl (ov_fieldAddrE underlying48 rfl rfl rfl sizeOf3 rfl rfl) ?_)
   refine V rfl (ov_load_elem (v := (.int .i64 x1.actuator)) isAgg3 rfl rfl (h6.one (off := 0) rfl)) ?_
   obtain ⟨r1, e2, hm⟩ := bind_some hm
   refine wo rfl (oq_con (r := (.bool r1)) call133 rfl rfl (fun w' s => ⟨_, (ref13_Actuator_con x1.actuator  w' H s.hold hG r1 e2)⟩)) ?_
   refine V rfl (ov_not rfl rfl) (WL.nil (tn ?_))
   refine WP.cond rfl (fun hc5 => ?_) (fun hc5 => ?_)
   ·
    replace hm := ite_t hc5 hm
    refine WP.seq (WP.region (Va rfl (WL.nil (tn (WP.ret (then_ret (block_ret (then_ret (then_ret (block_ret (then_ret ?_)))))))))))
    obtain rfl := Option.some.inj hm
    refine retQ_ret results111 (Res.tmp rfl Res.nil) rfl (fun w' s => ⟨s.below, ?_⟩)
    exact rfl
   replace hm := ite_f hc5 hm
   refine WP.skip (tn (WP.seq (WP.seq ?_)))
   refine WP.region_draws (by kernel_rfl) (by kernel_rfl) (fun _ s => s.drew) ?_
   refine qf rfl (ov_move rfl rfl) ?_
   refine qf rfl (ov_gtr rfl rfl rfl) ?_
   refine qf rfl (ov_move rfl rfl) ?_
   obtain ⟨c1, e3, hm⟩ := bind_some hm
   refine QL.part_bool 15 44 (x := c1) ?_ ?_
   ·
    rcases Bool.eq_false_or_eq_true (decide (i1 > 0)) with hc6 | hc6
    ·
     replace hm := ite_t hc6 e3
     refine qy hc6 rfl (ov_fieldAddr underlying45 rfl rfl rfl sizeOf43 rfl rfl) ?_
     refine qy hc6 rfl (ov_load_box (i := 0) isAgg43 rfl rfl rfl rfl) ?_
     refine qy hc6 rfl (ov_move rfl rfl) ?_
     obtain ⟨x2, e4, hm⟩ := bind_some hm
     obtain ⟨h7, h8, h9, cs2, h10, h11⟩ := h1.get e4 (by decide)
     obtain rfl : cs2 = [(.int .i64 x2.actuator), (.bool x2.out)] := h10
     refine qy hc6 rfl (ov_indexAddr underlying43 sizeOf48 rfl rfl rfl h7 h8 h9) ?_
     refine qy hc6 rfl (ov_fieldAddrE underlying48 rfl rfl rfl sizeOf3 rfl rfl) ?_
     refine qy hc6 rfl (ov_load_elem (v := (.int .i64 x2.actuator)) isAgg3 rfl rfl (h11.one (off := 0) rfl)) ?_
     refine qy hc6 rfl (ov_fieldAddr underlying45 rfl rfl rfl sizeOf43 rfl rfl) ?_
     refine qy hc6 rfl (ov_load_box (i := 0) isAgg43 rfl rfl rfl rfl) ?_
     refine qy hc6 rfl (ov_move rfl rfl) ?_
     refine qy hc6 rfl (ov_sub rfl rfl rfl) ?_
     obtain ⟨x3, e5, hm⟩ := bind_some hm
     obtain ⟨h12, h13, h14, cs3, h15, h16⟩ := h1.get e5 (by decide)
     obtain rfl : cs3 = [(.int .i64 x3.actuator), (.bool x3.out)] := h15
     refine qy hc6 rfl (ov_indexAddr underlying43 sizeOf48 rfl rfl rfl h12 h13 h14) ?_
     refine qy hc6 rfl (ov_fieldAddrE underlying48 rfl rfl rfl sizeOf3 rfl rfl) ?_
     refine qy hc6 rfl (ov_load_elem (v := (.int .i64 x3.actuator)) isAgg3 rfl rfl (h16.one (off := 0) rfl)) ?_
     refine qy hc6 rfl (ov_eql rfl rfl rfl) ?_
     refine qf rfl (ov_pick_true rfl (guard_eq rfl hc6) rfl) ?_
     exact QL.nil (Sub.cons' rfl (congrArg Value.bool (Option.some.inj hm)) (Sub.dropn 15 rfl))
    replace hm := ite_f hc6 e3
    refine QL.idle (Idle.no rfl rfl rfl hc6) rfl rfl ?_
    refine QL.idle (Idle.no rfl rfl rfl hc6) rfl rfl ?_
    refine QL.idle (Idle.no rfl rfl rfl hc6) rfl rfl ?_
    refine QL.idle (Idle.no rfl rfl rfl hc6) rfl rfl ?_
    refine QL.idle (Idle.no rfl rfl rfl hc6) rfl rfl ?_
    refine QL.idle (Idle.no rfl rfl rfl hc6) rfl rfl ?_
    refine QL.idle (Idle.no rfl rfl rfl hc6) rfl rfl ?_
    refine QL.idle (Idle.no rfl rfl rfl hc6) rfl rfl ?_
    refine QL.idle (Idle.no rfl rfl rfl hc6) rfl rfl ?_
    refine QL.idle (Idle.no rfl rfl rfl hc6) rfl rfl ?_
    refine QL.idle (Idle.no rfl rfl rfl hc6) rfl rfl ?_
    refine QL.idle (Idle.no rfl rfl rfl hc6) rfl rfl ?_
    refine QL.idle (Idle.no rfl rfl rfl hc6) rfl rfl ?_
    refine QL.idle (Idle.no rfl rfl rfl hc6) rfl rfl ?_
    refine qf rfl (ov_pick_false rfl (guard_eq rfl hc6) rfl) ?_
    exact QL.nil (Sub.cons' rfl (congrArg Value.bool (Option.some.inj hm)) (Sub.dropn 15 rfl))
   refine QL.nil ?_
   refine tn ?_
   refine WP.cond rfl (fun hc7 => ?_) (fun hc7 => ?_)
   ·
    replace hm := ite_t hc7 hm
    refine WP.seq (WP.region (Va rfl (WL.nil (tn (WP.ret (then_ret (block_ret (then_ret (then_ret (block_ret (then_ret ?_)))))))))))
    obtain rfl := Option.some.inj hm
    refine retQ_ret results111 (Res.tmp rfl Res.nil) rfl (fun w' s => ⟨s.below, ?_⟩)
    exact rfl
   replace hm := ite_f hc7 hm
   refine WP.skip (tn (WP.seq ?_))
   refine WP.region_draws (by kernel_rfl) (by kernel_rfl) (fun _ s => s.drew) ?_
   refine qf rfl (ov_move rfl rfl) ?_
   refine qf rfl (ov_gtr rfl rfl rfl) ?_
   refine qf rfl (ov_move rfl rfl) ?_
   obtain ⟨c2, e6, hm⟩ := bind_some hm
   refine QL.part_bool 15 62 (x := c2) ?_ ?_
   ·
    rcases Bool.eq_false_or_eq_true (decide (i1 > 0)) with hc8 | hc8
    ·
     replace hm := ite_t hc8 e6
     refine qy hc8 rfl (ov_fieldAddr underlying45 rfl rfl rfl sizeOf43 rfl rfl) ?_
     refine qy hc8 rfl (ov_load_box (i := 0) isAgg43 rfl rfl rfl rfl) ?_
     refine qy hc8 rfl (ov_move rfl rfl) ?_
     obtain ⟨x4, e7, hm⟩ := bind_some hm
     obtain ⟨h17, h18, h19, cs4, h20, h21⟩ := h1.get e7 (by decide)
     obtain rfl : cs4 = [(.int .i64 x4.actuator), (.bool x4.out)] := h20
     refine qy hc8 rfl (ov_indexAddr underlying43 sizeOf48 rfl rfl rfl h17 h18 h19) ?_
     refine qy hc8 rfl (ov_fieldAddrE underlying48 rfl rfl rfl sizeOf3 rfl rfl) ?_
     refine qy hc8 rfl (ov_load_elem (v := (.int .i64 x4.actuator)) isAgg3 rfl rfl (h21.one (off := 0) rfl)) ?_
     refine qy hc8 rfl (ov_fieldAddr underlying45 rfl rfl rfl sizeOf43 rfl rfl) ?_
     refine qy hc8 rfl (ov_load_box (i := 0) isAgg43 rfl rfl rfl rfl) ?_
     refine qy hc8 rfl (ov_move rfl rfl) ?_
     refine qy hc8 rfl (ov_sub rfl rfl rfl) ?_
     obtain ⟨x5, e8, hm⟩ := bind_some hm
     obtain ⟨h22, h23, h24, cs5, h25, h26⟩ := h1.get e8 (by decide)
     obtain rfl : cs5 = [(.int .i64 x5.actuator), (.bool x5.out)] := h25
     refine qy hc8 rfl (ov_indexAddr underlying43 sizeOf48 rfl rfl rfl h22 h23 h24) ?_
     refine qy hc8 rfl (ov_fieldAddrE underlying48 rfl rfl rfl sizeOf3 rfl rfl) ?_
     refine qy hc8 rfl (ov_load_elem (v := (.int .i64 x5.actuator)) isAgg3 rfl rfl (h26.one (off := 0) rfl)) ?_
     refine qy hc8 rfl (ov_lss rfl rfl rfl) ?_
     refine qf rfl (ov_pick_true rfl (guard_eq rfl hc8) rfl) ?_
     exact QL.nil (Sub.cons' rfl (congrArg Value.bool (Option.some.inj hm)) (Sub.dropn 15 rfl))
    replace hm := ite_f hc8 e6
    refine QL.idle (Idle.no rfl rfl rfl hc8) rfl rfl ?_
    refine QL.idle (Idle.no rfl rfl rfl hc8) rfl rfl ?_
    refine QL.idle (Idle.no rfl rfl rfl hc8) rfl rfl ?_
    refine QL.idle (Idle.no rfl rfl rfl hc8) rfl rfl ?_
    refine QL.idle (Idle.no rfl rfl rfl hc8) rfl rfl ?_
    refine QL.idle (Idle.no rfl rfl rfl hc8) rfl rfl ?_
    refine QL.idle (Idle.no rfl rfl rfl hc8) rfl rfl ?_
    refine QL.idle (Idle.no rfl rfl rfl hc8) rfl rfl ?_
    refine QL.idle (Idle.no rfl rfl rfl hc8) rfl rfl ?_
    refine QL.idle (Idle.no rfl rfl rfl hc8) rfl rfl ?_
    refine QL.idle (Idle.no rfl rfl rfl hc8) rfl rfl ?_
    refine QL.idle (Idle.no rfl rfl rfl hc8) rfl rfl ?_
    refine QL.idle (Idle.no rfl rfl rfl hc8) rfl rfl ?_
    refine QL.idle (Idle.no rfl rfl rfl hc8) rfl rfl ?_
    refine qf rfl (ov_pick_false rfl (guard_eq rfl hc8) rfl) ?_
    exact QL.nil (Sub.cons' rfl (congrArg Value.bool (Option.some.inj hm)) (Sub.dropn 15 rfl))
   refine QL.nil ?_
   refine tn ?_
   refine WP.cond rfl (fun hc9 => ?_) (fun hc9 => ?_)
   ·
    replace hm := ite_t hc9 hm
    refine WP.seq (WP.region (Va rfl (WL.nil (tn (WP.ret (block_ret (then_ret (then_ret (block_ret (then_ret ?_))))))))))
    obtain rfl := Option.some.inj hm
    refine retQ_ret results111 (Res.tmp rfl Res.nil) rfl (fun w' s => ⟨s.below, ?_⟩)
    exact rfl
   replace hm := ite_f hc9 hm
   refine WP.skip (bn (tn (WP.region (Vm rfl (V rfl (ov_add rfl rfl rfl) (Va rfl (WL.nil (tn ?_))))))))
   exact ⟨(IntKind.wrap .i64 (i1 + 1)), (Sub.all rfl), fun w' s => s, hm⟩
  replace hm := ite_f hc4 hm
  refine WP.exit (then_exit (then_exit (block_here (tn ?_))))
  exact ⟨(Sub.all rfl), fun w' s => s, hm⟩
 rintro g' S' ⟨hsub2, hS2, hm⟩
 refine WP.sub hsub2 (WP.weaken hS2 ?_)
 replace hm := hk1.symm.trans hm
 refine WP.seq (WP.seq (WP.region (V rfl (ov_fieldAddr underlying45 rfl rfl rfl sizeOf3 rfl rfl) (Vl 0 isAgg3 rfl ?_))))
 obtain ⟨r2, e9, hm⟩ := bind_some hm
 refine wo rfl (oq_con (r := (.bool r2)) call134 rfl rfl (fun w' s => ⟨_, (ref03_Time_con p_x.wait  w' H s.hold hG r2 e9)⟩)) ?_
 refine V rfl (ov_not rfl rfl) (WL.nil (tn ?_))
 refine WP.cond rfl (fun hc10 => ?_) (fun hc10 => ?_)
 ·
  replace hm := ite_t hc10 hm
  refine WP.seq (WP.region (Va rfl (WL.nil (tn (WP.ret (then_ret ?_))))))
  obtain rfl := Option.some.inj hm
  refine retQ_ret results111 (Res.tmp rfl Res.nil) rfl (fun w' s => ⟨s.below, ?_⟩)
  exact rfl
 replace hm := ite_f hc10 hm
 refine WP.skip (tn (WP.seq (WP.region (Va rfl (WL.nil (tn (WP.ret ?_)))))))
 obtain rfl := Option.some.inj hm
 refine retQ_ret results111 (Res.tmp rfl Res.nil) rfl (fun w' s => ⟨s.below, ?_⟩)
 exact rfl
end Go.Proofs.YtbckcjjffbgidaaGreatDoor.W
