import Derived.Test.YtkgijoddkibapaaGreatDoorPlain
import Derived.Test.YtkgijoddkibapaaGreatDoorEqs
import Derived.Test.YtkgijoddkibapaaGreatDoorProg
import Derived.Test.YtkgijoddkibapaaGreatDoorExt
import Derived.Test.YtkgijoddkibapaaGreatDoorBuild
import Derived.Test.YtkgijoddkibapaaGreatDoorClone
import Derived.Test.YtkgijoddkibapaaGreatDoorWalk3
import Derived.Test.YtkgijoddkibapaaGreatDoorWalk4
set_option linter.unusedVariables false
set_option maxRecDepth 100000
set_option maxHeartbeats 4000000
namespace Go.Proofs.YtkgijoddkibapaaGreatDoor.W
open Go Go.RowKit Go.Proofs.Tryz
theorem program_preorder_1_1_body_con {σ : Type} (step : σ → (Int × Node) → Option (Bool × σ)) {w0 : World} {H0 : Heap} {y : Value} {T T' : σ → Heap → List Ent → Prop} (hY : Yields prog w0 H0 y encSeqNode step T T') (self : Node → Int → σ → Option (Bool × σ)) (hself : ∀ (p_n : Node) (p_depth : Int) (z : σ) (ao1 : Option Addr) (cap1 : Nat) (ao2 : Option Addr) (cap2 : Nat) (bc1 : Nat) (bc2 : Nat) (fr tl : List Ent) (H : Heap) (h1 : SL H encStroke ao1 p_n.step.strokes) (hc1 : p_n.step.strokes.length ≤ cap1) (h2 : SL H encNode ao2 p_n.nodes) (hc2 : p_n.nodes.length ≤ cap2) (hb1 : RowAt H (some ⟨bc1, 0, none⟩) 0 [y]) (hb2 : RowAt H (some ⟨bc2, 0, none⟩) 0 [(.func (.func 101) #[] #[(pB bc1 0), (pB bc2 0)])]) (hT : TH hY z H tl) (hG : Glob H) (r : (Bool × σ)) (hm : self p_n p_depth z = some r), BCon prog 101 [(.agg #[(.int .i64 p_n.kind), (.slice ao1 p_n.step.strokes.length cap1), (.int .i64 p_n.step.wait), (.int .i64 p_n.count), (mkS p_n.name), (.slice ao2 p_n.nodes.length cap2)]), (.int .i64 p_depth), (pB bc1 0), (pB bc2 0)] w0 H0 (fr ++ tl) H (fun v H' ms' => v = .bool r.1 ∧ IterR hY fr r H' ms')) (p_n : Node) (p_depth : Int) (z : σ) (ao1 : Option Addr) (cap1 : Nat) (ao2 : Option Addr) (cap2 : Nat) (bc1 : Nat) (bc2 : Nat) (fr tl : List Ent) (H : Heap) (h1 : SL H encStroke ao1 p_n.step.strokes) (hc1 : p_n.step.strokes.length ≤ cap1) (h2 : SL H encNode ao2 p_n.nodes) (hc2 : p_n.nodes.length ≤ cap2) (hb1 : RowAt H (some ⟨bc1, 0, none⟩) 0 [y]) (hb2 : RowAt H (some ⟨bc2, 0, none⟩) 0 [(.func (.func 101) #[] #[(pB bc1 0), (pB bc2 0)])]) (hT : TH hY z H tl) (hG : Glob H) (r : (Bool × σ)) (hm : program_preorder_1_1_body step self p_n p_depth z = some r) :
  BCon prog 101 [(.agg #[(.int .i64 p_n.kind), (.slice ao1 p_n.step.strokes.length cap1), (.int .i64 p_n.step.wait), (.int .i64 p_n.count), (mkS p_n.name), (.slice ao2 p_n.nodes.length cap2)]), (.int .i64 p_depth), (pB bc1 0), (pB bc2 0)] w0 H0 (fr ++ tl) H (fun v H' ms' => v = .bool r.1 ∧ IterR hY fr r H' ms') := by
 unfold program_preorder_1_1_body at hm
 refine bcon_of func101 rfl 32 ntmps101 rfl ?_
 refine WP.seq (WP.region ?_)
 refine ws rfl (os_box (cs := [(.int .i64 p_n.kind), (.slice ao1 p_n.step.strokes.length cap1), (.int .i64 p_n.step.wait), (.int .i64 p_n.count), (mkS p_n.name), (.slice ao2 p_n.nodes.length cap2)]) rfl rfl rfl (fun b1 => ?_))
 refine Va rfl (WL.nil (tn (WP.seq (WP.seq (WP.region (V rfl (ov_load_elem (v := y) isAgg175 rfl rfl hb1) (Vm rfl (V rfl (ov_load_whole (i := 0) isAgg62 sizeOf62 rfl rfl rfl rfl) ?_))))))))
 obtain ⟨r1, e1, hm⟩ := bind_some hm
 refine WL.yields2 (r := r1) (.blk b1 62 [(.int .i64 p_n.kind), (.slice ao1 p_n.step.strokes.length cap1), (.int .i64 p_n.step.wait), (.int .i64 p_n.count), (mkS p_n.name), (.slice ao2 p_n.nodes.length cap2)] :: fr) (Runs.free rfl) rfl rfl rfl rfl rfl hY e1 ⟨ao1, cap1, ao2, cap2, rfl, h1, hc1, h2, hc2⟩ hT ?_ ?_
 ·
  intro hc3 H1 tl1 hle1 hT1
  replace hm := ite_t hc3 hm
  replace h2 := h2.mono hle1
  replace hb1 := hb1.mono hle1
  replace hb2 := hb2.mono hle1
  replace hG := hG.mono hle1
  refine WL.weaken (S₁ := St w0 H0 (.blk b1 62 [(.int .i64 p_n.kind), (.slice ao1 p_n.step.strokes.length cap1), (.int .i64 p_n.step.wait), (.int .i64 p_n.count), (mkS p_n.name), (.slice ao2 p_n.nodes.length cap2)] :: (fr ++ tl1)) H1) (fun _ s => s) ?_
  refine V rfl (ov_not rfl rfl) (WL.nil (tn (WP.cond_false rfl (WP.skip (tn ?_)))))
  obtain ⟨k1, hk1, hm⟩ := joinK_some hm
  refine WP.seq_join (fun g' S' => ∃ (z2 : σ) (tl5 : List Ent) (H5 : Heap), TH hY z2 H5 tl5 ∧ Le H1 H5 ∧ Sub [(1000000007, (.bool false))] g' ∧ (∀ w', S' w' → St w0 H0 ((fr ++ tl5)) H5 w') ∧ k1 z2 = some r) ?_ ?_
  ·
   refine WP.seq (WP.region (V rfl (ov_fieldAddr underlying62 rfl rfl rfl sizeOf60 rfl rfl) (Vl 0 isAgg60 rfl (V rfl (ov_len_slice underlying60 rfl rfl) (Vm rfl (WL.nil (tn (WP.block ?_))))))))
   refine WP.loop (fun m1 g' S' => ∃ (z1 : σ) (tl2 : List Ent) (H2 : Heap) (i1 : Int), TH hY z1 H2 tl2 ∧ Le H1 H2 ∧ Sub [(1, (.int .i64 p_depth)), (3, (pE (some ⟨bc2, 0, none⟩) 0)), (15, (.slice ao2 p_n.nodes.length cap2)), (16, (.int .i64 (p_n.nodes.length : Int))), (17, (.int .i64 i1)), (1000000007, (.bool false))] g' ∧ (∀ w', S' w' → St w0 H0 ((fr ++ tl2)) H2 w') ∧ program_preorder_1_1_loop1 p_n p_depth self k1 m1 z1 i1 = some r) ((p_n.nodes.length + 1)) ⟨r1.2, tl1, H1, 0, hT1, (Le.refl _), (Sub.all rfl), fun w' s => (s.selectT 1 [] (by decide) rfl rfl), hm⟩ ?_ ?_
   ·
    rintro g' S' ⟨_, _, _, _, _, _, _, _, hm⟩
    exact none_some hm
   rintro m1 g' S' ⟨z1, tl2, H2, i1, hT2, hle2, hsub1, hS1, hm⟩
   refine WP.sub hsub1 (WP.weaken hS1 ?_)
   rw [program_preorder_1_1_loop1] at hm
   replace hb2 := hb2.mono hle2
   replace h2 := h2.mono hle2
   replace hG := hG.mono hle2
   replace hb1 := hb1.mono hle2
   refine WP.seq (WP.region (V rfl (ov_lss rfl rfl rfl) (WL.nil (tn (WP.seq ?_)))))
   refine WP.cond rfl (fun hc4 => ?_) (fun hc4 => ?_)
   ·
    replace hm := ite_t hc4 hm
    refine WP.skip (tn (WP.seq (WP.block (WP.seq (WP.region ?_)))))
    obtain ⟨x1, e2, hm⟩ := bind_some hm
    obtain ⟨h5, h6, h7, cs1, h8, h9⟩ := h2.get e2 (by decide)
    obtain ⟨ao3, cap3, ao4, cap4, rfl, h3, hc5, h4, hc6⟩ := (encNode_open h8)
    refine V rfl (ov_indexAddr underlying60 sizeOf62 rfl rfl rfl h5 h6 h7) (V rfl (ov_load_elems (vs := [(.int .i64 x1.kind), (.slice ao3 x1.step.strokes.length cap3), (.int .i64 x1.step.wait), (.int .i64 x1.count), (mkS x1.name), (.slice ao4 x1.nodes.length cap4)]) isAgg62 sizeOf62 rfl rfl rfl h9 h7) ?_)
    refine ws rfl (os_alloc (cs := [(.int .i64 0), (.slice none 0 0), (.int .i64 0), (.int .i64 0), (mkS []), (.slice none 0 0)]) zeroValue62 rfl rfl (fun b2 => ?_))
    refine ws0 rfl (os_store (i := 0) (vs := [(.int .i64 x1.kind), (.slice ao3 x1.step.strokes.length cap3), (.int .i64 x1.step.wait), (.int .i64 x1.count), (mkS x1.name), (.slice ao4 x1.nodes.length cap4)]) (cs' := [(.int .i64 x1.kind), (.slice ao3 x1.step.strokes.length cap3), (.int .i64 x1.step.wait), (.int .i64 x1.count), (mkS x1.name), (.slice ao4 x1.nodes.length cap4)]) sizeOf62 rfl rfl rfl rfl rfl rfl rfl rfl rfl ?_)
    refine WL.nil (tn (WP.seq (WP.region (Vm rfl (V rfl (ov_leq rfl rfl rfl) (Vm rfl ?_))))))
    rcases Bool.eq_false_or_eq_true (decide (p_depth ≤ 16)) with hc7 | hc7
    ·
     replace hm := ite_t hc7 hm
     refine wy hc7 rfl (ov_load_elem (v := (.func (.func 101) #[] #[(pB bc1 0), (pB bc2 0)])) isAgg176 rfl rfl hb2) ?_
     refine wy hc7 rfl (ov_load_whole (i := 0) isAgg62 sizeOf62 rfl rfl rfl rfl) ?_
     refine wy hc7 rfl (ov_move rfl rfl) ?_
     refine wy hc7 rfl (ov_add rfl rfl rfl) ?_
     obtain ⟨r2, e3, hm⟩ := bind_some hm
     refine WL.step (Runs.yes rfl rfl rfl hc7) rfl rfl (os_icall (r := r2) (ms := tl2) (.blk b2 62 [(.int .i64 x1.kind), (.slice ao3 x1.step.strokes.length cap3), (.int .i64 x1.step.wait), (.int .i64 x1.count), (mkS x1.name), (.slice ao4 x1.nodes.length cap4)] :: fr) call101 rfl (cap := [(pB bc1 0), (pB bc2 0)]) rfl rfl (hself x1 (IntKind.wrap .i64 (p_depth + 1)) z1 ao3 cap3 ao4 cap4 bc1 bc2 (.blk b2 62 [(.int .i64 x1.kind), (.slice ao3 x1.step.strokes.length cap3), (.int .i64 x1.step.wait), (.int .i64 x1.count), (mkS x1.name), (.slice ao4 x1.nodes.length cap4)] :: fr) tl2 H2 h3 hc5 h4 hc6 hb1 hb2 hT2 hG r2 e3) ?_ ?_)
     ·
      intro hc8 H3 tl3 hle3 hT3
      replace hm := ite_t hc8 hm
      refine WL.weaken (S₁ := St w0 H0 (.blk b2 62 [(.int .i64 x1.kind), (.slice ao3 x1.step.strokes.length cap3), (.int .i64 x1.step.wait), (.int .i64 x1.count), (mkS x1.name), (.slice ao4 x1.nodes.length cap4)] :: (fr ++ tl3)) H3) (fun _ s => s) ?_
      refine wy hc7 rfl (ov_not rfl rfl) ?_
      refine V rfl (ov_pick_true rfl (guard_eq rfl hc7) rfl) (WL.nil (tn (WP.cond_false rfl (WP.skip (bn (tn (WP.region (V rfl (ov_add rfl rfl rfl) (Vm rfl (WL.nil (tn ?_)))))))))))
      exact ⟨r2.2, tl3, H3, (IntKind.wrap .i64 (i1 + 1)), hT3, (hle2.trans hle3), (Sub.all rfl), fun w' s => (s.selectT 1 [] (by decide) rfl rfl), hm⟩
     intro hc9 H4 tl4 hle4 hT4
     replace hm := ite_f hc9 hm
     refine WL.weaken (S₁ := St w0 H0 (.blk b2 62 [(.int .i64 x1.kind), (.slice ao3 x1.step.strokes.length cap3), (.int .i64 x1.step.wait), (.int .i64 x1.count), (mkS x1.name), (.slice ao4 x1.nodes.length cap4)] :: (fr ++ tl4)) H4) (fun _ s => s) ?_
     refine wy hc7 rfl (ov_not rfl rfl) ?_
     refine V rfl (ov_pick_true rfl (guard_eq rfl hc7) rfl) (WL.nil (tn (WP.cond_true rfl (WP.seq (WP.region (Va rfl (WL.nil (tn (WP.ret (block_ret (then_ret (then_ret (block_ret ?_)))))))))))))
     refine then_ret ?_
     obtain rfl := Option.some.inj hm
     refine retQ_ret results101 (Res.tmp rfl Res.nil) rfl (fun w' s => ⟨H4, _, ((hle1.trans hle2).trans hle4), ⟨rfl, tl4, rfl, hT4⟩, (s.selectT 1 [] (by decide) rfl rfl)⟩)
    replace hm := ite_f hc7 hm
    refine Vi rfl (Idle.no rfl rfl rfl hc7) (Vi rfl (Idle.no rfl rfl rfl hc7) (Vi rfl (Idle.no rfl rfl rfl hc7) (Vi rfl (Idle.no rfl rfl rfl hc7) (Vi rfl (Idle.no rfl rfl rfl hc7) (Vi rfl (Idle.no rfl rfl rfl hc7) (V rfl (ov_pick_false rfl (guard_eq rfl hc7) rfl) (WL.nil (tn (WP.cond_false rfl (WP.skip (bn (tn (WP.region ?_)))))))))))))
    refine V rfl (ov_add rfl rfl rfl) (Vm rfl (WL.nil (tn ?_)))
    exact ⟨z1, tl2, H2, (IntKind.wrap .i64 (i1 + 1)), hT2, hle2, (Sub.all rfl), fun w' s => (s.selectT 1 [] (by decide) rfl rfl), hm⟩
   replace hm := ite_f hc4 hm
   refine WP.exit (then_exit (then_exit (block_here (tn ?_))))
   exact ⟨z1, tl2, H2, hT2, hle2, (Sub.all rfl), fun w' s => s, hm⟩
  rintro g' S' ⟨z2, tl5, H5, hT5, hle5, hsub2, hS2, hm⟩
  refine WP.sub hsub2 (WP.weaken hS2 ?_)
  replace hm := (congrFun hk1 z2).symm.trans hm
  refine WP.seq (WP.region (Va rfl (WL.nil (tn (WP.ret ?_)))))
  obtain rfl := Option.some.inj hm
  refine retQ_ret results101 (Res.tmp rfl Res.nil) rfl (fun w' s => ⟨H5, _, (hle1.trans hle5), ⟨rfl, tl5, rfl, hT5⟩, s⟩)
 intro hc10 H6 tl6 hle6 hT6
 replace hm := ite_f hc10 hm
 refine WL.weaken (S₁ := St w0 H0 (.blk b1 62 [(.int .i64 p_n.kind), (.slice ao1 p_n.step.strokes.length cap1), (.int .i64 p_n.step.wait), (.int .i64 p_n.count), (mkS p_n.name), (.slice ao2 p_n.nodes.length cap2)] :: (fr ++ tl6)) H6) (fun _ s => s) ?_
 refine V rfl (ov_not rfl rfl) (WL.nil (tn (WP.cond_true rfl (WP.seq (WP.region (Va rfl (WL.nil (tn (WP.ret (then_ret ?_))))))))))
 obtain rfl := Option.some.inj hm
 refine retQ_ret results101 (Res.tmp rfl Res.nil) rfl (fun w' s => ⟨H6, _, hle6, ⟨rfl, tl6, rfl, hT6⟩, (s.selectT 1 [] (by decide) rfl rfl)⟩)
theorem program_preorder_1_1_con {σ : Type} (step : σ → (Int × Node) → Option (Bool × σ)) {w0 : World} {H0 : Heap} {y : Value} {T T' : σ → Heap → List Ent → Prop} (hY : Yields prog w0 H0 y encSeqNode step T T') (n : Nat) : ∀ (p_n : Node) (p_depth : Int) (z : σ) (ao1 : Option Addr) (cap1 : Nat) (ao2 : Option Addr) (cap2 : Nat) (bc1 : Nat) (bc2 : Nat) (fr tl : List Ent) (H : Heap) (h1 : SL H encStroke ao1 p_n.step.strokes) (hc1 : p_n.step.strokes.length ≤ cap1) (h2 : SL H encNode ao2 p_n.nodes) (hc2 : p_n.nodes.length ≤ cap2) (hb1 : RowAt H (some ⟨bc1, 0, none⟩) 0 [y]) (hb2 : RowAt H (some ⟨bc2, 0, none⟩) 0 [(.func (.func 101) #[] #[(pB bc1 0), (pB bc2 0)])]) (hT : TH hY z H tl) (hG : Glob H) (r : (Bool × σ)) (hm : program_preorder_1_1 step n p_n p_depth z = some r),
  BCon prog 101 [(.agg #[(.int .i64 p_n.kind), (.slice ao1 p_n.step.strokes.length cap1), (.int .i64 p_n.step.wait), (.int .i64 p_n.count), (mkS p_n.name), (.slice ao2 p_n.nodes.length cap2)]), (.int .i64 p_depth), (pB bc1 0), (pB bc2 0)] w0 H0 (fr ++ tl) H (fun v H' ms' => v = .bool r.1 ∧ IterR hY fr r H' ms') := by
 induction n with
 | zero => intro p_n p_depth z ao1 cap1 ao2 cap2 bc1 bc2 fr tl H h1 hc1 h2 hc2 hb1 hb2 hT hG r hm; exact (none_some hm).elim
 | succ n ih => intro p_n p_depth z ao1 cap1 ao2 cap2 bc1 bc2 fr tl H h1 hc1 h2 hc2 hb1 hb2 hT hG r hm; exact program_preorder_1_1_body_con step hY (program_preorder_1_1 step n) ih p_n p_depth z ao1 cap1 ao2 cap2 bc1 bc2 fr tl H h1 hc1 h2 hc2 hb1 hb2 hT hG r hm
theorem program_preorder_1_con {σ : Type} (step : σ → (Int × Node) → Option (Bool × σ)) {w0 : World} {H0 : Heap} {y : Value} {T T' : σ → Heap → List Ent → Prop} (hY : Yields prog w0 H0 y encSeqNode step T T') (p_n : Node) (z : σ) (bc1 : Nat) (ao1 : Option Addr) (cap1 : Nat) (ao2 : Option Addr) (cap2 : Nat) (fr tl : List Ent) (H : Heap) (h1 : SL H encStroke ao1 p_n.step.strokes) (hc1 : p_n.step.strokes.length ≤ cap1) (h2 : SL H encNode ao2 p_n.nodes) (hc2 : p_n.nodes.length ≤ cap2) (hb1 : RowAt H (some ⟨bc1, 0, none⟩) 0 [(.int .i64 p_n.kind), (.slice ao1 p_n.step.strokes.length cap1), (.int .i64 p_n.step.wait), (.int .i64 p_n.count), (mkS p_n.name), (.slice ao2 p_n.nodes.length cap2)]) (hT : TH hY z H tl) (hG : Glob H) (r : (Bool × σ)) (hm : program_preorder_1 step p_n z = some r) :
  BCon prog 100 [y, (pB bc1 0)] w0 H0 (fr ++ tl) H (fun v H' ms' => v = .tuple #[] ∧ IterR hY fr r H' ms') := by
 unfold program_preorder_1 at hm
 refine bcon_of func100 rfl 8 ntmps100 rfl ?_
 refine WP.seq (WP.region ?_)
 refine ws rfl (os_box (cs := [y]) rfl rfl hY.cells (fun b1 => ?_))
 refine WL.nil (tn (WP.seq (WP.region ?_)))
 refine ws rfl (os_alloc (cs := [.nilFunc]) zeroValue176 rfl rfl (fun b2 => ?_))
 refine WL.nil (tn (WP.seq (WP.region (V rfl (ov_makeFunc' (first := []) rfl rfl rfl) ?_))))
 refine ws0 rfl (os_store (i := 0) (vs := [(.func (.func 101) #[] #[(pB b1 0), (pB b2 0)])]) (cs' := [(.func (.func 101) #[] #[(pB b1 0), (pB b2 0)])]) sizeOf176 rfl rfl rfl rfl rfl rfl rfl rfl rfl ?_)
 refine WL.nil (tn (WP.region (Vl 0 isAgg176 rfl (V rfl (ov_load_elems (vs := [(.int .i64 p_n.kind), (.slice ao1 p_n.step.strokes.length cap1), (.int .i64 p_n.step.wait), (.int .i64 p_n.count), (mkS p_n.name), (.slice ao2 p_n.nodes.length cap2)]) isAgg62 sizeOf62 rfl rfl rfl hb1 ⟨_, rfl⟩) ?_))))
 refine WL.weaken (fun _ s => s.selectT 2 [1, 0] (by decide) rfl rfl) ?_
 refine WL.box_held (fun H1 hle1 hc3 => ?_)
 have hb2 : RowAt H1 (some ⟨b1, 0, none⟩) 0 [y] := rowAt_box hc3
 replace h1 := h1.mono hle1
 replace h2 := h2.mono hle1
 replace hG := hG.mono hle1
 replace hT := hT.mono hle1
 refine WL.box_held (fun H2 hle2 hc4 => ?_)
 have hb3 : RowAt H2 (some ⟨b2, 0, none⟩) 0 [(.func (.func 101) #[] #[(pB b1 0), (pB b2 0)])] := rowAt_box hc4
 replace hb2 := hb2.mono hle2
 replace h1 := h1.mono hle2
 replace h2 := h2.mono hle2
 replace hG := hG.mono hle2
 replace hT := hT.mono hle2
 obtain ⟨r1, e1, hm⟩ := bind_some hm
 refine ws rfl (os_icall (r := r1) (ms := tl) (fr) call101 rfl (cap := [(pB b1 0), (pB b2 0)]) rfl rfl (program_preorder_1_1_con step hY 600 p_n 1 z ao1 cap1 ao2 cap2 b1 b2 (fr) tl H2 h1 hc1 h2 hc2 hb2 hb3 hT hG r1 e1) ?_ ?_)
 ·
  intro hc5 H3 tl1 hle3 hT1
  replace hm := ite_t hc5 hm
  refine WL.weaken (S₁ := St w0 H0 ((fr ++ tl1)) H3) (fun _ s => s) ?_
  refine WL.nil ?_
  obtain rfl := Option.some.inj hm
  refine retQ_end results100 Res.nil rfl (fun w' s => ⟨H3, _, ((hle1.trans hle2).trans hle3), ⟨rfl, tl1, rfl, hT1⟩, s⟩)
 intro hc6 H4 tl2 hle4 hT2
 replace hm := ite_f hc6 hm
 refine WL.weaken (S₁ := St w0 H0 ((fr ++ tl2)) H4) (fun _ s => s) ?_
 refine WL.nil ?_
 obtain rfl := Option.some.inj hm
 refine retQ_end results100 Res.nil rfl (fun w' s => ⟨H4, _, ((hle1.trans hle2).trans hle4), ⟨rfl, tl2, rfl, hT2⟩, s⟩)
theorem program_light_con (p_n : Node) (ao1 : Option Addr) (cap1 : Nat) (ao2 : Option Addr) (cap2 : Nat) (w : World) (H : Heap) (hH : Le H (hp w)) (h1 : SL H encStroke ao1 p_n.step.strokes) (hc1 : p_n.step.strokes.length ≤ cap1) (h2 : SL H encNode ao2 p_n.nodes) (hc2 : p_n.nodes.length ≤ cap2) (hG : Glob H) (r : Bool) (hm : program_light p_n = some r) :
  Con prog 69 [(.agg #[(.int .i64 p_n.kind), (.slice ao1 p_n.step.strokes.length cap1), (.int .i64 p_n.step.wait), (.int .i64 p_n.count), (mkS p_n.name), (.slice ao2 p_n.nodes.length cap2)])] w H (fun v _ => v = (.bool r)) := by
 unfold program_light at hm
 refine con_of hH func69 rfl 17 ntmps69 rfl ?_
 refine WP.seq (WP.region ?_)
 refine ws rfl (os_box (cs := [(.int .i64 p_n.kind), (.slice ao1 p_n.step.strokes.length cap1), (.int .i64 p_n.step.wait), (.int .i64 p_n.count), (mkS p_n.name), (.slice ao2 p_n.nodes.length cap2)]) rfl rfl rfl (fun b1 => ?_))
 refine ws rfl (os_alloc (cs := [(.bool false)]) zeroValue4 rfl rfl (fun b2 => ?_))
 refine WL.nil (tn (WP.seq (WP.region ?_)))
 refine ws rfl (os_alloc (cs := [(.int .i64 0)]) zeroValue3 rfl rfl (fun b3 => ?_))
 refine ws0 rfl (os_store (i := 0) (vs := [(.int .i64 0)]) (cs' := [(.int .i64 0)]) sizeOf3 rfl rfl rfl rfl rfl rfl rfl rfl rfl ?_)
 refine WL.nil (tn (WP.seq (WP.seq (WP.region (V rfl (ov_load_whole (i := 2) isAgg62 sizeOf62 rfl rfl rfl rfl) ?_)))))
 refine ws rfl (os_inline (cap := []) (vs := [(.agg #[(.int .i64 p_n.kind), (.slice ao1 p_n.step.strokes.length cap1), (.int .i64 p_n.step.wait), (.int .i64 p_n.count), (mkS p_n.name), (.slice ao2 p_n.nodes.length cap2)])]) call70 rfl rfl rfl func70 rfl 4 ntmps70 rfl (fun w' s => ?_))
 refine WP.seq (WP.region ?_)
 refine ws rfl (os_box (cs := [(.int .i64 p_n.kind), (.slice ao1 p_n.step.strokes.length cap1), (.int .i64 p_n.step.wait), (.int .i64 p_n.count), (mkS p_n.name), (.slice ao2 p_n.nodes.length cap2)]) rfl rfl rfl (fun b4 => ?_))
 refine Va rfl (WL.nil (tn (WP.seq (WP.region (V rfl (ov_makeFunc' (first := []) rfl rfl rfl) (Va rfl (WL.nil (tn (WP.ret ?_)))))))))
 refine retQ_ret (v := (.func (.func 100) #[] #[(pB b4 0)])) results70 (Res.tmp rfl Res.nil) rfl (fun w' s => ⟨_, ?_, s⟩)
 refine WL.nil (tn (WP.block ?_))
 refine WP.box_held (fun H1 hle1 hc3 => ?_)
 have hb1 : RowAt H1 (some ⟨b4, 0, none⟩) 0 [(.int .i64 p_n.kind), (.slice ao1 p_n.step.strokes.length cap1), (.int .i64 p_n.step.wait), (.int .i64 p_n.count), (mkS p_n.name), (.slice ao2 p_n.nodes.length cap2)] := rowAt_box hc3
 replace h1 := h1.mono hle1
 replace h2 := h2.mono hle1
 replace hG := hG.mono hle1
 obtain ⟨r1, e1, hm⟩ := bind_some hm
 refine WP.rangeC rfl (fun l1 D1 R1 hr1 w2 hs2 => ?_)
 have hY1 : Yields prog w H (.func (.yield l1) #[] #[]) encSeqNode (program_light_rng1) (fun (q1 : Int) (H2 : Heap) (ms : List Ent) => Le H1 H2 ∧ ms = [.obj l1 (R1 .ready none), .obj D1 (.deferred (some [])), .blk b3 3 [(.int .i64 q1)], .blk b2 4 [(.bool false)], .blk b1 62 [(.int .i64 p_n.kind), (.slice ao1 p_n.step.strokes.length cap1), (.int .i64 p_n.step.wait), (.int .i64 p_n.count), (mkS p_n.name), (.slice ao2 p_n.nodes.length cap2)]]) (fun (q1 : Int) (H2 : Heap) (ms : List Ent) => Le H1 H2 ∧ ms = [.obj l1 (R1 .done (some .ret)), .obj D1 (.deferred (some [])), .blk b3 3 [(.int .i64 q1)], .blk b2 4 [(.bool false)], .blk b1 62 [(.int .i64 p_n.kind), (.slice ao1 p_n.step.strokes.length cap1), (.int .i64 p_n.step.wait), (.int .i64 p_n.count), (mkS p_n.name), (.slice ao2 p_n.nodes.length cap2)]]) := by
  refine ⟨?_, ?_, _, rfl, ?_⟩
  ·
   rintro q1 Ha Hb msx k ⟨h0, rfl⟩; exact ⟨h0.trans k, rfl⟩
  ·
   rintro q1 Ha Hb msx k ⟨h0, rfl⟩; exact ⟨h0.trans k, rfl⟩
  ·
   rintro q1 xx1 bq1 q2 vs H2 ms fr1 hm ⟨ao3, cap3, ao4, cap4, rfl, h3, hc4, h4, hc5⟩ ⟨hle2, rfl⟩ w1 hs1
   unfold program_light_rng1 at hm
   replace h1 := h1.mono hle2
   replace h2 := h2.mono hle2
   replace hG := hG.mono hle2
   replace hb1 := hb1.mono hle2
   refine yields_call (i := 0) (vs := [(.int .i64 xx1.1), (.agg #[(.int .i64 xx1.2.kind), (.slice ao3 xx1.2.step.strokes.length cap3), (.int .i64 xx1.2.step.wait), (.int .i64 xx1.2.count), (mkS xx1.2.name), (.slice ao4 xx1.2.nodes.length cap4)])]) (b := bq1) (q := q2) (T := (fun (q1 : Int) (H2 : Heap) (ms : List Ent) => Le H1 H2 ∧ ms = [.obj l1 (R1 .ready none), .obj D1 (.deferred (some [])), .blk b3 3 [(.int .i64 q1)], .blk b2 4 [(.bool false)], .blk b1 62 [(.int .i64 p_n.kind), (.slice ao1 p_n.step.strokes.length cap1), (.int .i64 p_n.step.wait), (.int .i64 p_n.count), (mkS p_n.name), (.slice ao2 p_n.nodes.length cap2)]])) (T' := (fun (q1 : Int) (H2 : Heap) (ms : List Ent) => Le H1 H2 ∧ ms = [.obj l1 (R1 .done (some .ret)), .obj D1 (.deferred (some [])), .blk b3 3 [(.int .i64 q1)], .blk b2 4 [(.bool false)], .blk b1 62 [(.int .i64 p_n.kind), (.slice ao1 p_n.step.strokes.length cap1), (.int .i64 p_n.step.wait), (.int .i64 p_n.count), (mkS p_n.name), (.slice ao2 p_n.nodes.length cap2)]])) hr1 hs1 rfl rfl rfl ?_
   refine WP.weaken (S₁ := St w H (.obj l1 (R1 .ready none) :: .obj D1 (.deferred (some [])) :: .blk b3 3 [(.int .i64 q1)] :: .blk b2 4 [(.bool false)] :: .blk b1 62 [(.int .i64 p_n.kind), (.slice ao1 p_n.step.strokes.length cap1), (.int .i64 p_n.step.wait), (.int .i64 p_n.count), (mkS p_n.name), (.slice ao2 p_n.nodes.length cap2)] :: fr1) H2) (fun _ s => s) ?_
   refine WP.region (Va rfl (WL.nil (tn ?_)))
   refine begin_of (i := 0) rfl ?_
   refine WP.block (WP.seq (WP.region (Vl 2 isAgg3 rfl (V rfl (ov_add rfl rfl rfl) ?_))))
   refine ws0 rfl (os_store (i := 2) (vs := [(.int .i64 (IntKind.wrap .i64 (q1 + 1)))]) (cs' := [(.int .i64 (IntKind.wrap .i64 (q1 + 1)))]) sizeOf3 rfl rfl rfl rfl rfl rfl rfl rfl rfl ?_)
   refine WL.nil (tn (WP.seq (WP.region (Vl 2 isAgg3 rfl (V rfl (ov_gtr rfl rfl rfl) (Vm rfl ?_))))))
   refine WL.cut_bool 3 16 (x := ((decide ((IntKind.wrap .i64 (q1 + 1)) > 256)) || (decide (xx1.1 > 16)))) ?_ ?_
   ·
    rcases Bool.eq_false_or_eq_true (decide ((IntKind.wrap .i64 (q1 + 1)) > 256)) with hc6 | hc6
    ·
     refine Vi rfl (Idle.no rfl rfl rfl hc6) (Vi rfl (Idle.no rfl rfl rfl hc6) (V rfl (ov_pick_true rfl (guard_eq rfl hc6) rfl) ?_))
     exact WL.nil ⟨Sub.cons' rfl (congrArg Value.bool (orT hc6)) (Sub.dropn 3 rfl), fun _ s => s⟩
    ·
     refine wy hc6 rfl (ov_move rfl rfl) ?_
     refine wy hc6 rfl (ov_gtr rfl rfl rfl) ?_
     refine V rfl (ov_pick_false rfl (guard_eq rfl hc6) rfl) ?_
     exact WL.nil ⟨Sub.cons' rfl (congrArg Value.bool (orF hc6)) (Sub.dropn 3 rfl), fun _ s => s⟩
   refine WL.nil (tn ?_)
   refine WP.cond rfl (fun hc7 => ?_) (fun hc7 => ?_)
   ·
    replace hm := ite_t hc7 hm
    refine WP.seq (WP.region ?_)
    refine ws0 rfl (os_store (i := 3) (vs := [(.bool false)]) (cs' := [(.bool false)]) sizeOf4 rfl rfl rfl rfl rfl rfl rfl rfl rfl ?_)
    refine WL.nil (tn (WP.ret (block_ret ?_)))
    refine round_ret (i := 0) rfl ?_
    obtain ⟨rfl, rfl⟩ := Prod.mk.inj (Option.some.inj hm)
    exact ⟨rfl, H2, [.obj l1 (R1 .done (some .ret)), .obj D1 (.deferred (some [])), .blk b3 3 [(.int .i64 (IntKind.wrap .i64 (q1 + 1)))], .blk b2 4 [(.bool false)], .blk b1 62 [(.int .i64 p_n.kind), (.slice ao1 p_n.step.strokes.length cap1), (.int .i64 p_n.step.wait), (.int .i64 p_n.count), (mkS p_n.name), (.slice ao2 p_n.nodes.length cap2)]], (Le.refl _), condF ⟨(hle2.trans (Le.refl _)), rfl⟩, fun w' s => s⟩
   ·
    replace hm := ite_f hc7 hm
    refine WP.skip (bn ?_)
    refine round_normal (i := 0) rfl ?_
    obtain ⟨rfl, rfl⟩ := Prod.mk.inj (Option.some.inj hm)
    exact ⟨rfl, H2, [.obj l1 (R1 .ready none), .obj D1 (.deferred (some [])), .blk b3 3 [(.int .i64 (IntKind.wrap .i64 (q1 + 1)))], .blk b2 4 [(.bool false)], .blk b1 62 [(.int .i64 p_n.kind), (.slice ao1 p_n.step.strokes.length cap1), (.int .i64 p_n.step.wait), (.int .i64 p_n.count), (mkS p_n.name), (.slice ao2 p_n.nodes.length cap2)]], (Le.refl _), condT ⟨(hle2.trans (Le.refl _)), rfl⟩, fun w' s => s⟩
 have hT1 : TH hY1 0 H1 [.obj l1 (R1 .ready none), .obj D1 (.deferred (some [])), .blk b3 3 [(.int .i64 0)], .blk b2 4 [(.bool false)], .blk b1 62 [(.int .i64 p_n.kind), (.slice ao1 p_n.step.strokes.length cap1), (.int .i64 p_n.step.wait), (.int .i64 p_n.count), (mkS p_n.name), (.slice ao2 p_n.nodes.length cap2)]] := ⟨Le.refl _, rfl⟩
 refine ⟨100, [(pB b4 0)], rfl, call100, ?_⟩
 refine Calls.mono ((program_preorder_1_con (program_light_rng1) hY1 p_n 0 b4 ao1 cap1 ao2 cap2 [] [.obj l1 (R1 .ready none), .obj D1 (.deferred (some [])), .blk b3 3 [(.int .i64 0)], .blk b2 4 [(.bool false)], .blk b1 62 [(.int .i64 p_n.kind), (.slice ao1 p_n.step.strokes.length cap1), (.int .i64 p_n.step.wait), (.int .i64 p_n.count), (mkS p_n.name), (.slice ao2 p_n.nodes.length cap2)]] H1 h1 hc1 h2 hc2 hb1 hT1 hG r1 e1) w2 hs2) ?_
 rintro e w3 ⟨rv1, H3, ms1, rfl, hle3, ⟨rfl, tl1, rfl, hT2⟩, hs3⟩
 refine ⟨_, rfl, ?_⟩
 rcases Bool.eq_false_or_eq_true r1.1 with hc8 | hc8
 ·
  replace hm := ite_t hc8 hm
  obtain ⟨hle4, rfl⟩ := cond_t hc8 hT2
  refine ⟨St w H [.obj l1 (R1 .ready none), .obj D1 (.deferred (some [])), .blk b3 3 [(.int .i64 r1.2)], .blk b2 4 [(.bool false)], .blk b1 62 [(.int .i64 p_n.kind), (.slice ao1 p_n.step.strokes.length cap1), (.int .i64 p_n.step.wait), (.int .i64 p_n.count), (mkS p_n.name), (.slice ao2 p_n.nodes.length cap2)]] H3, ?_, hs3⟩
  refine after_normal ?_
  refine bn (tn (WP.seq (WP.region ?_)))
  refine ws0 rfl (os_store (i := 2) (vs := [(.bool true)]) (cs' := [(.bool true)]) sizeOf4 rfl rfl rfl rfl rfl rfl rfl rfl rfl ?_)
  refine WL.nil (tn (WP.ret ?_))
  obtain rfl := Option.some.inj hm
  refine retQ_retM (i := 0) rfl results69 (Res.cell rfl (box_load (i := 1) isAgg4 rfl) Res.nil) rfl (fun w' s => ⟨s.below, ?_⟩)
  exact rfl
 replace hm := ite_f hc8 hm
 obtain ⟨hle5, rfl⟩ := cond_f hc8 hT2
 refine ⟨St w H [.obj l1 (R1 .done (some .ret)), .obj D1 (.deferred (some [])), .blk b3 3 [(.int .i64 r1.2)], .blk b2 4 [(.bool false)], .blk b1 62 [(.int .i64 p_n.kind), (.slice ao1 p_n.step.strokes.length cap1), (.int .i64 p_n.step.wait), (.int .i64 p_n.count), (mkS p_n.name), (.slice ao2 p_n.nodes.length cap2)]] H3, ?_, hs3⟩
 refine after_ret ?_
 refine block_ret (then_ret ?_)
 obtain rfl := Option.some.inj hm
 refine retQ_retM (i := 0) rfl results69 (Res.cell rfl (box_load (i := 1) isAgg4 rfl) Res.nil) rfl (fun w' s => ⟨s.below, ?_⟩)
 exact rfl
theorem program_alone_con (p_n : Node) (ao1 : Option Addr) (cap1 : Nat) (ao2 : Option Addr) (cap2 : Nat) (w : World) (H : Heap) (hH : Le H (hp w)) (h1 : SL H encStroke ao1 p_n.step.strokes) (hc1 : p_n.step.strokes.length ≤ cap1) (h2 : SL H encNode ao2 p_n.nodes) (hc2 : p_n.nodes.length ≤ cap2) (hG : Glob H) (r : Int) (hm : program_alone p_n = some r) :
  Con prog 71 [(.agg #[(.int .i64 p_n.kind), (.slice ao1 p_n.step.strokes.length cap1), (.int .i64 p_n.step.wait), (.int .i64 p_n.count), (mkS p_n.name), (.slice ao2 p_n.nodes.length cap2)])] w H (fun v _ => v = (.int .i64 r)) := by
 unfold program_alone at hm
 refine con_of hH func71 rfl 94 ntmps71 rfl ?_
 refine WP.seq (WP.region ?_)
 refine ws rfl (os_box (cs := [(.int .i64 p_n.kind), (.slice ao1 p_n.step.strokes.length cap1), (.int .i64 p_n.step.wait), (.int .i64 p_n.count), (mkS p_n.name), (.slice ao2 p_n.nodes.length cap2)]) rfl rfl rfl (fun b1 => ?_))
 refine Va rfl (WL.nil (tn (WP.seq (WP.region (V rfl (ov_fieldAddr underlying62 rfl rfl rfl sizeOf55 rfl rfl) (V rfl (ov_fieldAddr underlying55 rfl rfl rfl sizeOf53 rfl rfl) (Vl 0 isAgg53 rfl (V rfl (ov_len_slice underlying53 rfl rfl) (V rfl (ov_gtr rfl rfl rfl) (Vm rfl ?_))))))))))
 refine WL.cut_bool 5 14 (x := ((decide ((p_n.step.strokes.length : Int) > 0)) || (p_n.step.wait != 0))) ?_ ?_
 ·
  rcases Bool.eq_false_or_eq_true (decide ((p_n.step.strokes.length : Int) > 0)) with hc3 | hc3
  ·
   refine Vi rfl (Idle.no rfl rfl rfl hc3) (Vi rfl (Idle.no rfl rfl rfl hc3) (Vi rfl (Idle.no rfl rfl rfl hc3) (Vi rfl (Idle.no rfl rfl rfl hc3) (V rfl (ov_pick_true rfl (guard_eq rfl hc3) rfl) ?_))))
   exact WL.nil ⟨Sub.cons' rfl (congrArg Value.bool (orT hc3)) (Sub.dropn 5 rfl), fun _ s => s⟩
  refine wy hc3 rfl (ov_fieldAddr underlying62 rfl rfl rfl sizeOf55 rfl rfl) ?_
  refine wy hc3 rfl (ov_fieldAddr underlying55 rfl rfl rfl sizeOf3 rfl rfl) ?_
  refine wy hc3 rfl (ov_load_box (i := 0) isAgg3 rfl rfl rfl rfl) ?_
  refine wy hc3 rfl (ov_neq rfl rfl rfl) ?_
  refine V rfl (ov_pick_false rfl (guard_eq rfl hc3) rfl) ?_
  exact WL.nil ⟨Sub.cons' rfl (congrArg Value.bool (orF hc3)) (Sub.dropn 5 rfl), fun _ s => s⟩
 refine Va rfl (WL.nil (tn ?_))
 obtain ⟨k1, hk1, hm⟩ := joinK_some hm
 refine WP.seq_join (fun g' S' => Sub [(1000000007, (.bool false))] g' ∧ (∀ w', S' w' → St w H [] H w') ∧ k1 = some r) ?_ ?_
 ·
  refine WP.seq (WP.region (V rfl (ov_fieldAddr underlying62 rfl rfl rfl sizeOf3 rfl rfl) (Vl 0 isAgg3 rfl (WL.nil (tn (WP.block (WP.seq (WP.region (V rfl (ov_eql rfl rfl rfl) (Va rfl (WL.nil (tn ?_))))))))))))
  refine WP.cond rfl (fun hc4 => ?_) (fun hc4 => ?_)
  ·
   replace hm := ite_t hc4 hm
   refine WP.seq (WP.seq (WP.region (V rfl (ov_fieldAddr underlying62 rfl rfl rfl sizeOf60 rfl rfl) (Vl 0 isAgg60 rfl (V rfl (ov_len_slice underlying60 rfl rfl) (V rfl (ov_gtr rfl rfl rfl) (Vm rfl ?_)))))))
   refine WL.cut_bool 4 27 (x := ((decide ((p_n.nodes.length : Int) > 0)) || (p_n.count != 0))) ?_ ?_
   ·
    rcases Bool.eq_false_or_eq_true (decide ((p_n.nodes.length : Int) > 0)) with hc5 | hc5
    ·
     refine Vi rfl (Idle.no rfl rfl rfl hc5) (Vi rfl (Idle.no rfl rfl rfl hc5) (Vi rfl (Idle.no rfl rfl rfl hc5) (V rfl (ov_pick_true rfl (guard_eq rfl hc5) rfl) ?_)))
     exact WL.nil ⟨Sub.cons' rfl (congrArg Value.bool (orT hc5)) (Sub.dropn 4 rfl), fun _ s => s⟩
    refine wy hc5 rfl (ov_fieldAddr underlying62 rfl rfl rfl sizeOf3 rfl rfl) ?_
    refine wy hc5 rfl (ov_load_box (i := 0) isAgg3 rfl rfl rfl rfl) ?_
    refine wy hc5 rfl (ov_neq rfl rfl rfl) ?_
    refine V rfl (ov_pick_false rfl (guard_eq rfl hc5) rfl) ?_
    exact WL.nil ⟨Sub.cons' rfl (congrArg Value.bool (orF hc5)) (Sub.dropn 4 rfl), fun _ s => s⟩
   refine Vm rfl ?_
   refine WL.cut_bool 4 32 (x := (((decide ((p_n.nodes.length : Int) > 0)) || (p_n.count != 0)) || (!(p_n.name == [])))) ?_ ?_
   ·
    rcases Bool.eq_false_or_eq_true ((decide ((p_n.nodes.length : Int) > 0)) || (p_n.count != 0)) with hc6 | hc6
    ·
     refine Vi rfl (Idle.no rfl rfl rfl hc6) (Vi rfl (Idle.no rfl rfl rfl hc6) (Vi rfl (Idle.no rfl rfl rfl hc6) (V rfl (ov_pick_true rfl (guard_eq rfl hc6) rfl) ?_)))
     exact WL.nil ⟨Sub.cons' rfl (congrArg Value.bool (orT hc6)) (Sub.dropn 4 rfl), fun _ s => s⟩
    refine wy hc6 rfl (ov_fieldAddr underlying62 rfl rfl rfl sizeOf9 rfl rfl) ?_
    refine wy hc6 rfl (ov_load_box (i := 0) isAgg9 rfl rfl rfl rfl) ?_
    refine wy hc6 rfl (ov_sneq rfl rfl rfl) ?_
    refine V rfl (ov_pick_false rfl (guard_eq rfl hc6) rfl) ?_
    exact WL.nil ⟨Sub.cons' rfl (congrArg Value.bool (orF hc6)) (Sub.dropn 4 rfl), fun _ s => s⟩
   refine WL.nil (tn ?_)
   refine WP.cond rfl (fun hc7 => ?_) (fun hc7 => ?_)
   ·
    replace hm := ite_t hc7 hm
    refine WP.seq (WP.region (Va rfl (WL.nil (tn (WP.ret (then_ret (block_ret (then_ret ?_))))))))
    obtain rfl := Option.some.inj hm
    refine retQ_ret results71 (Res.tmp rfl Res.nil) rfl (fun w' s => ⟨s.below, ?_⟩)
    exact rfl
   replace hm := ite_f hc7 hm
   refine WP.skip (tn (WP.seq (WP.region (V rfl (ov_fieldAddr underlying62 rfl rfl rfl sizeOf55 rfl rfl) (V rfl (ov_load_boxes (i := 0) (vs := [(.slice ao1 p_n.step.strokes.length cap1), (.int .i64 p_n.step.wait)]) isAgg55 sizeOf55 rfl rfl rfl rfl (part_of rfl)) ?_)))))
   obtain ⟨r1, e1, hm⟩ := bind_some hm
   refine wo rfl (oq_con (r := (.int .i64 r1)) call83 rfl rfl (fun w' s => ⟨_, (stroke_CheckStep_con p_n.step ao1 cap1  w' H s.hold h1 hc1 hG r1 e1)⟩)) ?_
   refine Va rfl (WL.nil (tn (WP.ret (block_ret (then_ret ?_)))))
   obtain rfl := Option.some.inj hm
   refine retQ_ret results71 (Res.tmp rfl Res.nil) rfl (fun w' s => ⟨s.below, ?_⟩)
   exact rfl
  replace hm := ite_f hc4 hm
  refine WP.seq (WP.region (V rfl (ov_eql rfl rfl rfl) (Va rfl (WL.nil (tn ?_)))))
  refine WP.cond rfl (fun hc8 => ?_) (fun hc8 => ?_)
  ·
   replace hm := ite_t hc8 hm
   refine WP.seq (WP.region (V rfl (ov_fieldAddr underlying62 rfl rfl rfl sizeOf60 rfl rfl) (Vl 0 isAgg60 rfl (V rfl (ov_len_slice underlying60 rfl rfl) (V rfl (ov_eql rfl rfl rfl) (Vm rfl ?_))))))
   refine WL.cut_bool 2 44 (x := (((p_n.nodes.length : Int) == 0) || ((decide ((p_n.step.strokes.length : Int) > 0)) || (p_n.step.wait != 0)))) ?_ ?_
   ·
    rcases Bool.eq_false_or_eq_true ((p_n.nodes.length : Int) == 0) with hc9 | hc9
    ·
     refine Vi rfl (Idle.no rfl rfl rfl hc9) (V rfl (ov_pick_true rfl (guard_eq rfl hc9) rfl) ?_)
     exact WL.nil ⟨Sub.cons' rfl (congrArg Value.bool (orT hc9)) (Sub.dropn 2 rfl), fun _ s => s⟩
    refine wy hc9 rfl (ov_move rfl rfl) ?_
    refine V rfl (ov_pick_false rfl (guard_eq rfl hc9) rfl) ?_
    exact WL.nil ⟨Sub.cons' rfl (congrArg Value.bool (orF hc9)) (Sub.dropn 2 rfl), fun _ s => s⟩
   refine Vm rfl ?_
   refine WL.cut_bool 4 49 (x := ((((p_n.nodes.length : Int) == 0) || ((decide ((p_n.step.strokes.length : Int) > 0)) || (p_n.step.wait != 0))) || (p_n.count != 0))) ?_ ?_
   ·
    rcases Bool.eq_false_or_eq_true (((p_n.nodes.length : Int) == 0) || ((decide ((p_n.step.strokes.length : Int) > 0)) || (p_n.step.wait != 0))) with hc10 | hc10
    ·
     refine Vi rfl (Idle.no rfl rfl rfl hc10) (Vi rfl (Idle.no rfl rfl rfl hc10) (Vi rfl (Idle.no rfl rfl rfl hc10) (V rfl (ov_pick_true rfl (guard_eq rfl hc10) rfl) ?_)))
     exact WL.nil ⟨Sub.cons' rfl (congrArg Value.bool (orT hc10)) (Sub.dropn 4 rfl), fun _ s => s⟩
    refine wy hc10 rfl (ov_fieldAddr underlying62 rfl rfl rfl sizeOf3 rfl rfl) ?_
    refine wy hc10 rfl (ov_load_box (i := 0) isAgg3 rfl rfl rfl rfl) ?_
    refine wy hc10 rfl (ov_neq rfl rfl rfl) ?_
    refine V rfl (ov_pick_false rfl (guard_eq rfl hc10) rfl) ?_
    exact WL.nil ⟨Sub.cons' rfl (congrArg Value.bool (orF hc10)) (Sub.dropn 4 rfl), fun _ s => s⟩
   refine Vm rfl ?_
   refine WL.cut_bool 4 54 (x := (((((p_n.nodes.length : Int) == 0) || ((decide ((p_n.step.strokes.length : Int) > 0)) || (p_n.step.wait != 0))) || (p_n.count != 0)) || (!(p_n.name == [])))) ?_ ?_
   ·
    rcases Bool.eq_false_or_eq_true ((((p_n.nodes.length : Int) == 0) || ((decide ((p_n.step.strokes.length : Int) > 0)) || (p_n.step.wait != 0))) || (p_n.count != 0)) with hc11 | hc11
    ·
     refine Vi rfl (Idle.no rfl rfl rfl hc11) (Vi rfl (Idle.no rfl rfl rfl hc11) (Vi rfl (Idle.no rfl rfl rfl hc11) (V rfl (ov_pick_true rfl (guard_eq rfl hc11) rfl) ?_)))
     exact WL.nil ⟨Sub.cons' rfl (congrArg Value.bool (orT hc11)) (Sub.dropn 4 rfl), fun _ s => s⟩
    refine wy hc11 rfl (ov_fieldAddr underlying62 rfl rfl rfl sizeOf9 rfl rfl) ?_
    refine wy hc11 rfl (ov_load_box (i := 0) isAgg9 rfl rfl rfl rfl) ?_
    refine wy hc11 rfl (ov_sneq rfl rfl rfl) ?_
    refine V rfl (ov_pick_false rfl (guard_eq rfl hc11) rfl) ?_
    exact WL.nil ⟨Sub.cons' rfl (congrArg Value.bool (orF hc11)) (Sub.dropn 4 rfl), fun _ s => s⟩
   refine WL.nil (tn ?_)
   refine WP.cond rfl (fun hc12 => ?_) (fun hc12 => ?_)
   ·
    replace hm := ite_t hc12 hm
    refine WP.seq (WP.region (Va rfl (WL.nil (tn (WP.ret (block_ret (then_ret ?_)))))))
    obtain rfl := Option.some.inj hm
    refine retQ_ret results71 (Res.tmp rfl Res.nil) rfl (fun w' s => ⟨s.below, ?_⟩)
    exact rfl
   replace hm := ite_f hc12 hm
   refine WP.skip (bn (tn ?_))
   exact ⟨(Sub.all rfl), fun w' s => (s.select [] (by decide) rfl), hm⟩
  replace hm := ite_f hc8 hm
  refine WP.seq (WP.region (V rfl (ov_eql rfl rfl rfl) (Va rfl (WL.nil (tn ?_)))))
  refine WP.cond rfl (fun hc13 => ?_) (fun hc13 => ?_)
  ·
   replace hm := ite_t hc13 hm
   refine WP.seq (WP.seq (WP.region (V rfl (ov_fieldAddr underlying62 rfl rfl rfl sizeOf60 rfl rfl) (Vl 0 isAgg60 rfl (V rfl (ov_len_slice underlying60 rfl rfl) (V rfl (ov_neq rfl rfl rfl) (Vm rfl ?_)))))))
   refine WL.cut_bool 2 63 (x := (((p_n.nodes.length : Int) != 1) || ((decide ((p_n.step.strokes.length : Int) > 0)) || (p_n.step.wait != 0)))) ?_ ?_
   ·
    rcases Bool.eq_false_or_eq_true ((p_n.nodes.length : Int) != 1) with hc14 | hc14
    ·
     refine Vi rfl (Idle.no rfl rfl rfl hc14) (V rfl (ov_pick_true rfl (guard_eq rfl hc14) rfl) ?_)
     exact WL.nil ⟨Sub.cons' rfl (congrArg Value.bool (orT hc14)) (Sub.dropn 2 rfl), fun _ s => s⟩
    refine wy hc14 rfl (ov_move rfl rfl) ?_
    refine V rfl (ov_pick_false rfl (guard_eq rfl hc14) rfl) ?_
    exact WL.nil ⟨Sub.cons' rfl (congrArg Value.bool (orF hc14)) (Sub.dropn 2 rfl), fun _ s => s⟩
   refine Vm rfl ?_
   refine WL.cut_bool 4 68 (x := ((((p_n.nodes.length : Int) != 1) || ((decide ((p_n.step.strokes.length : Int) > 0)) || (p_n.step.wait != 0))) || (!(p_n.name == [])))) ?_ ?_
   ·
    rcases Bool.eq_false_or_eq_true (((p_n.nodes.length : Int) != 1) || ((decide ((p_n.step.strokes.length : Int) > 0)) || (p_n.step.wait != 0))) with hc15 | hc15
    ·
     refine Vi rfl (Idle.no rfl rfl rfl hc15) (Vi rfl (Idle.no rfl rfl rfl hc15) (Vi rfl (Idle.no rfl rfl rfl hc15) (V rfl (ov_pick_true rfl (guard_eq rfl hc15) rfl) ?_)))
     exact WL.nil ⟨Sub.cons' rfl (congrArg Value.bool (orT hc15)) (Sub.dropn 4 rfl), fun _ s => s⟩
    refine wy hc15 rfl (ov_fieldAddr underlying62 rfl rfl rfl sizeOf9 rfl rfl) ?_
    refine wy hc15 rfl (ov_load_box (i := 0) isAgg9 rfl rfl rfl rfl) ?_
    refine wy hc15 rfl (ov_sneq rfl rfl rfl) ?_
    refine V rfl (ov_pick_false rfl (guard_eq rfl hc15) rfl) ?_
    exact WL.nil ⟨Sub.cons' rfl (congrArg Value.bool (orF hc15)) (Sub.dropn 4 rfl), fun _ s => s⟩
   refine WL.nil (tn ?_)
   refine WP.cond rfl (fun hc16 => ?_) (fun hc16 => ?_)
   ·
    replace hm := ite_t hc16 hm
    refine WP.seq (WP.region (Va rfl (WL.nil (tn (WP.ret (then_ret (block_ret (then_ret ?_))))))))
    obtain rfl := Option.some.inj hm
    refine retQ_ret results71 (Res.tmp rfl Res.nil) rfl (fun w' s => ⟨s.below, ?_⟩)
    exact rfl
   replace hm := ite_f hc16 hm
   refine WP.skip (tn (WP.seq (WP.region (V rfl (ov_fieldAddr underlying62 rfl rfl rfl sizeOf3 rfl rfl) (Vl 0 isAgg3 rfl (V rfl (ov_lss rfl rfl rfl) (Vm rfl ?_)))))))
   refine WL.cut_bool 4 76 (x := ((decide (p_n.count < 1)) || (decide (p_n.count > 64)))) ?_ ?_
   ·
    rcases Bool.eq_false_or_eq_true (decide (p_n.count < 1)) with hc17 | hc17
    ·
     refine Vi rfl (Idle.no rfl rfl rfl hc17) (Vi rfl (Idle.no rfl rfl rfl hc17) (Vi rfl (Idle.no rfl rfl rfl hc17) (V rfl (ov_pick_true rfl (guard_eq rfl hc17) rfl) ?_)))
     exact WL.nil ⟨Sub.cons' rfl (congrArg Value.bool (orT hc17)) (Sub.dropn 4 rfl), fun _ s => s⟩
    refine wy hc17 rfl (ov_fieldAddr underlying62 rfl rfl rfl sizeOf3 rfl rfl) ?_
    refine wy hc17 rfl (ov_load_box (i := 0) isAgg3 rfl rfl rfl rfl) ?_
    refine wy hc17 rfl (ov_gtr rfl rfl rfl) ?_
    refine V rfl (ov_pick_false rfl (guard_eq rfl hc17) rfl) ?_
    exact WL.nil ⟨Sub.cons' rfl (congrArg Value.bool (orF hc17)) (Sub.dropn 4 rfl), fun _ s => s⟩
   refine WL.nil (tn ?_)
   refine WP.cond rfl (fun hc18 => ?_) (fun hc18 => ?_)
   ·
    replace hm := ite_t hc18 hm
    refine WP.seq (WP.region (Va rfl (WL.nil (tn (WP.ret (block_ret (then_ret ?_)))))))
    obtain rfl := Option.some.inj hm
    refine retQ_ret results71 (Res.tmp rfl Res.nil) rfl (fun w' s => ⟨s.below, ?_⟩)
    exact rfl
   replace hm := ite_f hc18 hm
   refine WP.skip (bn (tn ?_))
   exact ⟨(Sub.all rfl), fun w' s => (s.select [] (by decide) rfl), hm⟩
  replace hm := ite_f hc13 hm
  refine WP.seq (WP.region (V rfl (ov_eql rfl rfl rfl) (Va rfl (WL.nil (tn ?_)))))
  refine WP.cond rfl (fun hc19 => ?_) (fun hc19 => ?_)
  ·
   replace hm := ite_t hc19 hm
   refine WP.seq (WP.seq (WP.region (V rfl (ov_fieldAddr underlying62 rfl rfl rfl sizeOf60 rfl rfl) (Vl 0 isAgg60 rfl (V rfl (ov_len_slice underlying60 rfl rfl) (V rfl (ov_neq rfl rfl rfl) (Vm rfl ?_)))))))
   refine WL.cut_bool 2 85 (x := (((p_n.nodes.length : Int) != 2) || ((decide ((p_n.step.strokes.length : Int) > 0)) || (p_n.step.wait != 0)))) ?_ ?_
   ·
    rcases Bool.eq_false_or_eq_true ((p_n.nodes.length : Int) != 2) with hc20 | hc20
    ·
     refine Vi rfl (Idle.no rfl rfl rfl hc20) (V rfl (ov_pick_true rfl (guard_eq rfl hc20) rfl) ?_)
     exact WL.nil ⟨Sub.cons' rfl (congrArg Value.bool (orT hc20)) (Sub.dropn 2 rfl), fun _ s => s⟩
    refine wy hc20 rfl (ov_move rfl rfl) ?_
    refine V rfl (ov_pick_false rfl (guard_eq rfl hc20) rfl) ?_
    exact WL.nil ⟨Sub.cons' rfl (congrArg Value.bool (orF hc20)) (Sub.dropn 2 rfl), fun _ s => s⟩
   refine Vm rfl ?_
   refine WL.cut_bool 4 90 (x := ((((p_n.nodes.length : Int) != 2) || ((decide ((p_n.step.strokes.length : Int) > 0)) || (p_n.step.wait != 0))) || (p_n.count != 0))) ?_ ?_
   ·
    rcases Bool.eq_false_or_eq_true (((p_n.nodes.length : Int) != 2) || ((decide ((p_n.step.strokes.length : Int) > 0)) || (p_n.step.wait != 0))) with hc21 | hc21
    ·
     refine Vi rfl (Idle.no rfl rfl rfl hc21) (Vi rfl (Idle.no rfl rfl rfl hc21) (Vi rfl (Idle.no rfl rfl rfl hc21) (V rfl (ov_pick_true rfl (guard_eq rfl hc21) rfl) ?_)))
     exact WL.nil ⟨Sub.cons' rfl (congrArg Value.bool (orT hc21)) (Sub.dropn 4 rfl), fun _ s => s⟩
    refine wy hc21 rfl (ov_fieldAddr underlying62 rfl rfl rfl sizeOf3 rfl rfl) ?_
    refine wy hc21 rfl (ov_load_box (i := 0) isAgg3 rfl rfl rfl rfl) ?_
    refine wy hc21 rfl (ov_neq rfl rfl rfl) ?_
    refine V rfl (ov_pick_false rfl (guard_eq rfl hc21) rfl) ?_
    exact WL.nil ⟨Sub.cons' rfl (congrArg Value.bool (orF hc21)) (Sub.dropn 4 rfl), fun _ s => s⟩
   refine WL.nil (tn ?_)
   refine WP.cond rfl (fun hc22 => ?_) (fun hc22 => ?_)
   ·
    replace hm := ite_t hc22 hm
    refine WP.seq (WP.region (Va rfl (WL.nil (tn (WP.ret (then_ret (block_ret (then_ret ?_))))))))
    obtain rfl := Option.some.inj hm
    refine retQ_ret results71 (Res.tmp rfl Res.nil) rfl (fun w' s => ⟨s.below, ?_⟩)
    exact rfl
   replace hm := ite_f hc22 hm
   refine WP.skip (tn (WP.seq (WP.region (V rfl (ov_fieldAddr underlying62 rfl rfl rfl sizeOf9 rfl rfl) (Vl 0 isAgg9 rfl ?_)))))
   obtain ⟨r2, e2, hm⟩ := bind_some hm
   refine wo rfl (oq_con (r := (.int .i64 r2)) call102 rfl rfl (fun w' s => ⟨_, (lexer_Word_con p_n.name  w' H s.hold hG r2 e2)⟩)) ?_
   refine Va rfl (WL.nil (tn (WP.ret (block_ret (then_ret ?_)))))
   obtain rfl := Option.some.inj hm
   refine retQ_ret results71 (Res.tmp rfl Res.nil) rfl (fun w' s => ⟨s.below, ?_⟩)
   exact rfl
  replace hm := ite_f hc19 hm
  refine WP.seq (WP.region (Va rfl (WL.nil (tn (WP.ret (block_ret (then_ret ?_)))))))
  obtain rfl := Option.some.inj hm
  refine retQ_ret results71 (Res.tmp rfl Res.nil) rfl (fun w' s => ⟨s.below, ?_⟩)
  exact rfl
 rintro g' S' ⟨hsub1, hS1, hm⟩
 refine WP.sub hsub1 (WP.weaken hS1 ?_)
 replace hm := hk1.symm.trans hm
 refine WP.seq (WP.region (Va rfl (WL.nil (tn (WP.ret ?_)))))
 obtain rfl := Option.some.inj hm
 refine retQ_ret results71 (Res.tmp rfl Res.nil) rfl (fun w' s => ⟨s.below, ?_⟩)
 exact rfl
theorem program_Check_con (p_n : Node) (ao1 : Option Addr) (cap1 : Nat) (ao2 : Option Addr) (cap2 : Nat) (w : World) (H : Heap) (hH : Le H (hp w)) (h1 : SL H encStroke ao1 p_n.step.strokes) (hc1 : p_n.step.strokes.length ≤ cap1) (h2 : SL H encNode ao2 p_n.nodes) (hc2 : p_n.nodes.length ≤ cap2) (hG : Glob H) (r : Int) (hm : program_Check p_n = some r) :
  Con prog 40 [(.agg #[(.int .i64 p_n.kind), (.slice ao1 p_n.step.strokes.length cap1), (.int .i64 p_n.step.wait), (.int .i64 p_n.count), (mkS p_n.name), (.slice ao2 p_n.nodes.length cap2)])] w H (fun v _ => v = (.int .i64 r)) := by
 unfold program_Check at hm
 refine con_of hH func40 rfl 18 ntmps40 rfl ?_
 refine WP.seq (WP.region ?_)
 refine ws rfl (os_box (cs := [(.int .i64 p_n.kind), (.slice ao1 p_n.step.strokes.length cap1), (.int .i64 p_n.step.wait), (.int .i64 p_n.count), (mkS p_n.name), (.slice ao2 p_n.nodes.length cap2)]) rfl rfl rfl (fun b1 => ?_))
 refine ws rfl (os_alloc (cs := [(.int .i64 0)]) zeroValue34 rfl rfl (fun b2 => ?_))
 refine WL.nil (tn (WP.seq (WP.seq (WP.region (V rfl (ov_load_whole (i := 1) isAgg62 sizeOf62 rfl rfl rfl rfl) ?_)))))
 obtain ⟨r1, e1, hm⟩ := bind_some hm
 refine wo rfl (oq_con (r := (.bool r1)) call69 rfl rfl (fun w' s => ⟨_, (program_light_con p_n ao1 cap1 ao2 cap2  w' H s.hold h1 hc1 h2 hc2 hG r1 e1)⟩)) ?_
 refine V rfl (ov_not rfl rfl) (WL.nil (tn ?_))
 refine WP.cond rfl (fun hc3 => ?_) (fun hc3 => ?_)
 ·
  replace hm := ite_t hc3 hm
  refine WP.seq (WP.region ?_)
  refine ws0 rfl (os_store (i := 0) (vs := [(.int .i64 5)]) (cs' := [(.int .i64 5)]) sizeOf34 rfl rfl rfl rfl rfl rfl rfl rfl rfl ?_)
  refine WL.nil (tn (WP.ret (then_ret ?_)))
  obtain rfl := Option.some.inj hm
  refine retQ_ret results40 (Res.cell rfl (box_load (i := 0) isAgg34 rfl) Res.nil) rfl (fun w' s => ⟨s.below, ?_⟩)
  exact rfl
 replace hm := ite_f hc3 hm
 refine WP.skip (tn (WP.seq (WP.seq (WP.region (V rfl (ov_load_whole (i := 1) isAgg62 sizeOf62 rfl rfl rfl rfl) ?_)))))
 refine ws rfl (os_inline (cap := []) (vs := [(.agg #[(.int .i64 p_n.kind), (.slice ao1 p_n.step.strokes.length cap1), (.int .i64 p_n.step.wait), (.int .i64 p_n.count), (mkS p_n.name), (.slice ao2 p_n.nodes.length cap2)])]) call70 rfl rfl rfl func70 rfl 4 ntmps70 rfl (fun w' s => ?_))
 refine WP.seq (WP.region ?_)
 refine ws rfl (os_box (cs := [(.int .i64 p_n.kind), (.slice ao1 p_n.step.strokes.length cap1), (.int .i64 p_n.step.wait), (.int .i64 p_n.count), (mkS p_n.name), (.slice ao2 p_n.nodes.length cap2)]) rfl rfl rfl (fun b3 => ?_))
 refine Va rfl (WL.nil (tn (WP.seq (WP.region (V rfl (ov_makeFunc' (first := []) rfl rfl rfl) (Va rfl (WL.nil (tn (WP.ret ?_)))))))))
 refine retQ_ret (v := (.func (.func 100) #[] #[(pB b3 0)])) results70 (Res.tmp rfl Res.nil) rfl (fun w' s => ⟨_, ?_, s⟩)
 refine WL.nil (tn (WP.block ?_))
 refine WP.box_held (fun H1 hle1 hc4 => ?_)
 have hb1 : RowAt H1 (some ⟨b3, 0, none⟩) 0 [(.int .i64 p_n.kind), (.slice ao1 p_n.step.strokes.length cap1), (.int .i64 p_n.step.wait), (.int .i64 p_n.count), (mkS p_n.name), (.slice ao2 p_n.nodes.length cap2)] := rowAt_box hc4
 replace h1 := h1.mono hle1
 replace h2 := h2.mono hle1
 replace hG := hG.mono hle1
 obtain ⟨r3, e3, hm⟩ := bind_some hm
 refine WP.rangeC rfl (fun l1 D1 R1 hr1 w2 hs2 => ?_)
 have hY1 : Yields prog w H (.func (.yield l1) #[] #[]) encSeqNode (program_Check_rng1) (fun (q1 : Int) (H2 : Heap) (ms : List Ent) => Le H1 H2 ∧ ms = [.obj l1 (R1 .ready none), .obj D1 (.deferred (some [])), .blk b2 34 [(.int .i64 q1)], .blk b1 62 [(.int .i64 p_n.kind), (.slice ao1 p_n.step.strokes.length cap1), (.int .i64 p_n.step.wait), (.int .i64 p_n.count), (mkS p_n.name), (.slice ao2 p_n.nodes.length cap2)]]) (fun (q1 : Int) (H2 : Heap) (ms : List Ent) => Le H1 H2 ∧ ms = [.obj l1 (R1 .done (some .ret)), .obj D1 (.deferred (some [])), .blk b2 34 [(.int .i64 q1)], .blk b1 62 [(.int .i64 p_n.kind), (.slice ao1 p_n.step.strokes.length cap1), (.int .i64 p_n.step.wait), (.int .i64 p_n.count), (mkS p_n.name), (.slice ao2 p_n.nodes.length cap2)]]) := by
  refine ⟨?_, ?_, _, rfl, ?_⟩
  ·
   rintro q1 Ha Hb msx k ⟨h0, rfl⟩; exact ⟨h0.trans k, rfl⟩
  ·
   rintro q1 Ha Hb msx k ⟨h0, rfl⟩; exact ⟨h0.trans k, rfl⟩
  ·
   rintro q1 xx1 bq1 q2 vs H2 ms fr1 hm ⟨ao3, cap3, ao4, cap4, rfl, h3, hc5, h4, hc6⟩ ⟨hle2, rfl⟩ w1 hs1
   unfold program_Check_rng1 at hm
   replace h1 := h1.mono hle2
   replace h2 := h2.mono hle2
   replace hG := hG.mono hle2
   replace hb1 := hb1.mono hle2
   refine yields_call (i := 0) (vs := [(.int .i64 xx1.1), (.agg #[(.int .i64 xx1.2.kind), (.slice ao3 xx1.2.step.strokes.length cap3), (.int .i64 xx1.2.step.wait), (.int .i64 xx1.2.count), (mkS xx1.2.name), (.slice ao4 xx1.2.nodes.length cap4)])]) (b := bq1) (q := q2) (T := (fun (q1 : Int) (H2 : Heap) (ms : List Ent) => Le H1 H2 ∧ ms = [.obj l1 (R1 .ready none), .obj D1 (.deferred (some [])), .blk b2 34 [(.int .i64 q1)], .blk b1 62 [(.int .i64 p_n.kind), (.slice ao1 p_n.step.strokes.length cap1), (.int .i64 p_n.step.wait), (.int .i64 p_n.count), (mkS p_n.name), (.slice ao2 p_n.nodes.length cap2)]])) (T' := (fun (q1 : Int) (H2 : Heap) (ms : List Ent) => Le H1 H2 ∧ ms = [.obj l1 (R1 .done (some .ret)), .obj D1 (.deferred (some [])), .blk b2 34 [(.int .i64 q1)], .blk b1 62 [(.int .i64 p_n.kind), (.slice ao1 p_n.step.strokes.length cap1), (.int .i64 p_n.step.wait), (.int .i64 p_n.count), (mkS p_n.name), (.slice ao2 p_n.nodes.length cap2)]])) hr1 hs1 rfl rfl rfl ?_
   refine WP.weaken (S₁ := St w H (.obj l1 (R1 .ready none) :: .obj D1 (.deferred (some [])) :: .blk b2 34 [(.int .i64 q1)] :: .blk b1 62 [(.int .i64 p_n.kind), (.slice ao1 p_n.step.strokes.length cap1), (.int .i64 p_n.step.wait), (.int .i64 p_n.count), (mkS p_n.name), (.slice ao2 p_n.nodes.length cap2)] :: fr1) H2) (fun _ s => s) ?_
   refine WP.region ?_
   refine ws rfl (os_alloc (cs := [(.int .i64 0), (.slice none 0 0), (.int .i64 0), (.int .i64 0), (mkS []), (.slice none 0 0)]) zeroValue62 rfl rfl (fun b4 => ?_))
   refine ws0 rfl (os_store (i := 0) (vs := [(.int .i64 xx1.2.kind), (.slice ao3 xx1.2.step.strokes.length cap3), (.int .i64 xx1.2.step.wait), (.int .i64 xx1.2.count), (mkS xx1.2.name), (.slice ao4 xx1.2.nodes.length cap4)]) (cs' := [(.int .i64 xx1.2.kind), (.slice ao3 xx1.2.step.strokes.length cap3), (.int .i64 xx1.2.step.wait), (.int .i64 xx1.2.count), (mkS xx1.2.name), (.slice ao4 xx1.2.nodes.length cap4)]) sizeOf62 rfl rfl rfl rfl rfl rfl rfl rfl rfl ?_)
   refine WL.nil (tn ?_)
   refine begin_of (i := 1) rfl ?_
   refine WP.block (WP.seq (WP.region (V rfl (ov_load_whole (i := 0) isAgg62 sizeOf62 rfl rfl rfl rfl) ?_)))
   obtain ⟨r2, e2, hm⟩ := bind_some hm
   refine wo rfl (oq_con (r := (.int .i64 r2)) call71 rfl rfl (fun w' s => ⟨_, (program_alone_con xx1.2 ao3 cap3 ao4 cap4  w' H2 s.hold h3 hc5 h4 hc6 hG r2 e2)⟩)) ?_
   refine Va rfl (WL.nil (tn (WP.seq (WP.region (Vm rfl (V rfl (ov_neq rfl rfl rfl) (WL.nil (tn ?_))))))))
   refine WP.cond rfl (fun hc7 => ?_) (fun hc7 => ?_)
   ·
    replace hm := ite_t hc7 hm
    refine WP.seq (WP.region (Vm rfl ?_))
    refine ws0 rfl (os_store (i := 3) (vs := [(.int .i64 r2)]) (cs' := [(.int .i64 r2)]) sizeOf34 rfl rfl rfl rfl rfl rfl rfl rfl rfl ?_)
    refine WL.nil (tn (WP.ret (block_ret ?_)))
    refine round_ret (i := 1) rfl ?_
    obtain ⟨rfl, rfl⟩ := Prod.mk.inj (Option.some.inj hm)
    exact ⟨rfl, H2, [.obj l1 (R1 .done (some .ret)), .obj D1 (.deferred (some [])), .blk b2 34 [(.int .i64 r2)], .blk b1 62 [(.int .i64 p_n.kind), (.slice ao1 p_n.step.strokes.length cap1), (.int .i64 p_n.step.wait), (.int .i64 p_n.count), (mkS p_n.name), (.slice ao2 p_n.nodes.length cap2)]], (Le.refl _), condF ⟨(hle2.trans (Le.refl _)), rfl⟩, fun w' s => (s.selectT 5 [1, 2, 3, 4] (by decide) rfl rfl)⟩
   ·
    replace hm := ite_f hc7 hm
    refine WP.skip (bn ?_)
    refine round_normal (i := 1) rfl ?_
    obtain ⟨rfl, rfl⟩ := Prod.mk.inj (Option.some.inj hm)
    exact ⟨rfl, H2, [.obj l1 (R1 .ready none), .obj D1 (.deferred (some [])), .blk b2 34 [(.int .i64 q1)], .blk b1 62 [(.int .i64 p_n.kind), (.slice ao1 p_n.step.strokes.length cap1), (.int .i64 p_n.step.wait), (.int .i64 p_n.count), (mkS p_n.name), (.slice ao2 p_n.nodes.length cap2)]], (Le.refl _), condT ⟨(hle2.trans (Le.refl _)), rfl⟩, fun w' s => (s.selectT 5 [1, 2, 3, 4] (by decide) rfl rfl)⟩
 have hT1 : TH hY1 0 H1 [.obj l1 (R1 .ready none), .obj D1 (.deferred (some [])), .blk b2 34 [(.int .i64 0)], .blk b1 62 [(.int .i64 p_n.kind), (.slice ao1 p_n.step.strokes.length cap1), (.int .i64 p_n.step.wait), (.int .i64 p_n.count), (mkS p_n.name), (.slice ao2 p_n.nodes.length cap2)]] := ⟨Le.refl _, rfl⟩
 refine ⟨100, [(pB b3 0)], rfl, call100, ?_⟩
 refine Calls.mono ((program_preorder_1_con (program_Check_rng1) hY1 p_n 0 b3 ao1 cap1 ao2 cap2 [] [.obj l1 (R1 .ready none), .obj D1 (.deferred (some [])), .blk b2 34 [(.int .i64 0)], .blk b1 62 [(.int .i64 p_n.kind), (.slice ao1 p_n.step.strokes.length cap1), (.int .i64 p_n.step.wait), (.int .i64 p_n.count), (mkS p_n.name), (.slice ao2 p_n.nodes.length cap2)]] H1 h1 hc1 h2 hc2 hb1 hT1 hG r3 e3) w2 hs2) ?_
 rintro e w3 ⟨rv1, H3, ms1, rfl, hle3, ⟨rfl, tl1, rfl, hT2⟩, hs3⟩
 refine ⟨_, rfl, ?_⟩
 rcases Bool.eq_false_or_eq_true r3.1 with hc8 | hc8
 ·
  replace hm := ite_t hc8 hm
  obtain ⟨hle4, rfl⟩ := cond_t hc8 hT2
  refine ⟨St w H [.obj l1 (R1 .ready none), .obj D1 (.deferred (some [])), .blk b2 34 [(.int .i64 r3.2)], .blk b1 62 [(.int .i64 p_n.kind), (.slice ao1 p_n.step.strokes.length cap1), (.int .i64 p_n.step.wait), (.int .i64 p_n.count), (mkS p_n.name), (.slice ao2 p_n.nodes.length cap2)]] H3, ?_, hs3⟩
  refine after_normal ?_
  refine bn (tn (WP.seq (WP.region ?_)))
  refine ws0 rfl (os_store (i := 1) (vs := [(.int .i64 0)]) (cs' := [(.int .i64 0)]) sizeOf34 rfl rfl rfl rfl rfl rfl rfl rfl rfl ?_)
  refine WL.nil (tn (WP.ret ?_))
  obtain rfl := Option.some.inj hm
  refine retQ_retM (i := 0) rfl results40 (Res.cell rfl (box_load (i := 0) isAgg34 rfl) Res.nil) rfl (fun w' s => ⟨s.below, ?_⟩)
  exact rfl
 replace hm := ite_f hc8 hm
 obtain ⟨hle5, rfl⟩ := cond_f hc8 hT2
 refine ⟨St w H [.obj l1 (R1 .done (some .ret)), .obj D1 (.deferred (some [])), .blk b2 34 [(.int .i64 r3.2)], .blk b1 62 [(.int .i64 p_n.kind), (.slice ao1 p_n.step.strokes.length cap1), (.int .i64 p_n.step.wait), (.int .i64 p_n.count), (mkS p_n.name), (.slice ao2 p_n.nodes.length cap2)]] H3, ?_, hs3⟩
 refine after_ret ?_
 refine block_ret (then_ret ?_)
 obtain rfl := Option.some.inj hm
 refine retQ_retM (i := 0) rfl results40 (Res.cell rfl (box_load (i := 0) isAgg34 rfl) Res.nil) rfl (fun w' s => ⟨s.below, ?_⟩)
 exact rfl
end Go.Proofs.YtkgijoddkibapaaGreatDoor.W
