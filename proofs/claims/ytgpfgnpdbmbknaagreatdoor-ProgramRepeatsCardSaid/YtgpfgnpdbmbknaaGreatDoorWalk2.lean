import Derived.Test.YtgpfgnpdbmbknaaGreatDoorPlain
import Derived.Test.YtgpfgnpdbmbknaaGreatDoorEqs
import Derived.Test.YtgpfgnpdbmbknaaGreatDoorProg
import Derived.Test.YtgpfgnpdbmbknaaGreatDoorExt
import Derived.Test.YtgpfgnpdbmbknaaGreatDoorClone
import Derived.Test.YtgpfgnpdbmbknaaGreatDoorSort
set_option linter.unusedVariables false
set_option maxRecDepth 100000
set_option maxHeartbeats 4000000
namespace Go.Proofs.YtgpfgnpdbmbknaaGreatDoor.W
open Go Go.RowKit Go.Proofs.Tryz
theorem program_preorder_1_1_body_con {σ : Type} (step : σ → (Int × Node) → Option (Bool × σ)) {w0 : World} {H0 : Heap} {y : Value} {T T' : σ → Heap → List Ent → Prop} (hY : Yields prog w0 H0 y encSeqNode step T T') (self : Node → Int → σ → Option (Bool × σ)) (hself : ∀ (p_n : Node) (p_depth : Int) (z : σ) (ao1 : Option Addr) (cap1 : Nat) (ao2 : Option Addr) (cap2 : Nat) (bc1 : Nat) (bc2 : Nat) (fr tl : List Ent) (H : Heap) (h1 : SL H encStroke ao1 p_n.step.strokes) (hc1 : p_n.step.strokes.length ≤ cap1) (h2 : SL H encNode ao2 p_n.nodes) (hc2 : p_n.nodes.length ≤ cap2) (hb1 : RowAt H (some ⟨bc1, 0, none⟩) 0 [y]) (hb2 : RowAt H (some ⟨bc2, 0, none⟩) 0 [(.func (.func 110) #[] #[(pB bc1 0), (pB bc2 0)])]) (hT : TH hY z H tl) (hG : Glob H) (r : (Bool × σ)) (hm : self p_n p_depth z = some r), BCon prog 110 [(.agg #[(.int .i64 p_n.kind), (.slice ao1 p_n.step.strokes.length cap1), (.int .i64 p_n.step.wait), (.int .i64 p_n.count), (mkS p_n.name), (.slice ao2 p_n.nodes.length cap2)]), (.int .i64 p_depth), (pB bc1 0), (pB bc2 0)] w0 H0 (fr ++ tl) H (fun v H' ms' => v = .bool r.1 ∧ IterR hY fr r H' ms')) (p_n : Node) (p_depth : Int) (z : σ) (ao1 : Option Addr) (cap1 : Nat) (ao2 : Option Addr) (cap2 : Nat) (bc1 : Nat) (bc2 : Nat) (fr tl : List Ent) (H : Heap) (h1 : SL H encStroke ao1 p_n.step.strokes) (hc1 : p_n.step.strokes.length ≤ cap1) (h2 : SL H encNode ao2 p_n.nodes) (hc2 : p_n.nodes.length ≤ cap2) (hb1 : RowAt H (some ⟨bc1, 0, none⟩) 0 [y]) (hb2 : RowAt H (some ⟨bc2, 0, none⟩) 0 [(.func (.func 110) #[] #[(pB bc1 0), (pB bc2 0)])]) (hT : TH hY z H tl) (hG : Glob H) (r : (Bool × σ)) (hm : program_preorder_1_1_body step self p_n p_depth z = some r) :
  BCon prog 110 [(.agg #[(.int .i64 p_n.kind), (.slice ao1 p_n.step.strokes.length cap1), (.int .i64 p_n.step.wait), (.int .i64 p_n.count), (mkS p_n.name), (.slice ao2 p_n.nodes.length cap2)]), (.int .i64 p_depth), (pB bc1 0), (pB bc2 0)] w0 H0 (fr ++ tl) H (fun v H' ms' => v = .bool r.1 ∧ IterR hY fr r H' ms') := by
 unfold program_preorder_1_1_body at hm
 refine bcon_of func110 rfl 32 ntmps110 rfl ?_
 refine WP.seq (WP.region ?_)
 refine ws rfl (os_box (cs := [(.int .i64 p_n.kind), (.slice ao1 p_n.step.strokes.length cap1), (.int .i64 p_n.step.wait), (.int .i64 p_n.count), (mkS p_n.name), (.slice ao2 p_n.nodes.length cap2)]) rfl rfl rfl (fun b1 => ?_))
 refine Va rfl (WL.nil (tn (WP.seq (WP.seq (WP.region (V rfl (ov_load_elem (v := y) isAgg164 rfl rfl hb1) (Vm rfl (V rfl (ov_load_whole (i := 0) isAgg28 sizeOf28 rfl rfl rfl rfl) ?_))))))))
 obtain ⟨r1, e1, hm⟩ := bind_some hm
 refine WL.yields2 (r := r1) (.blk b1 28 [(.int .i64 p_n.kind), (.slice ao1 p_n.step.strokes.length cap1), (.int .i64 p_n.step.wait), (.int .i64 p_n.count), (mkS p_n.name), (.slice ao2 p_n.nodes.length cap2)] :: fr) (Runs.free rfl) rfl rfl rfl rfl rfl hY e1 ⟨ao1, cap1, ao2, cap2, rfl, h1, hc1, h2, hc2⟩ hT ?_ ?_
 ·
  intro hc3 H1 tl1 hle1 hT1
  replace hm := ite_t hc3 hm
  replace h2 := h2.mono hle1
  replace hb1 := hb1.mono hle1
  replace hb2 := hb2.mono hle1
  replace hG := hG.mono hle1
  refine WL.weaken (S₁ := St w0 H0 (.blk b1 28 [(.int .i64 p_n.kind), (.slice ao1 p_n.step.strokes.length cap1), (.int .i64 p_n.step.wait), (.int .i64 p_n.count), (mkS p_n.name), (.slice ao2 p_n.nodes.length cap2)] :: (fr ++ tl1)) H1) (fun _ s => s) ?_
  refine V rfl (ov_not rfl rfl) (WL.nil (tn (WP.cond_false rfl (WP.skip (tn ?_)))))
  obtain ⟨k1, hk1, hm⟩ := joinK_some hm
  refine WP.seq_join (fun g' S' => ∃ (z2 : σ) (tl5 : List Ent) (H5 : Heap), TH hY z2 H5 tl5 ∧ Le H1 H5 ∧ Sub [(1000000007, (.bool false))] g' ∧ (∀ w', S' w' → St w0 H0 ((fr ++ tl5)) H5 w') ∧ k1 z2 = some r) ?_ ?_
  ·
   refine WP.seq (WP.region (V rfl (ov_fieldAddr underlying28 rfl rfl rfl sizeOf26 rfl rfl) (Vl 0 isAgg26 rfl (V rfl (ov_len_slice underlying26 rfl rfl) (Vm rfl (WL.nil (tn (WP.block ?_))))))))
   refine WP.loop (fun m1 g' S' => ∃ (z1 : σ) (tl2 : List Ent) (H2 : Heap) (i1 : Int), TH hY z1 H2 tl2 ∧ Le H1 H2 ∧ Sub [(1, (.int .i64 p_depth)), (3, (pE (some ⟨bc2, 0, none⟩) 0)), (15, (.slice ao2 p_n.nodes.length cap2)), (16, (.int .i64 (p_n.nodes.length : Int))), (17, (.int .i64 i1)), (1000000007, (.bool false))] g' ∧ (∀ w', S' w' → St w0 H0 ((fr ++ tl2)) H2 w') ∧ program_preorder_1_1_loop1 p_n p_depth self k1 m1 z1 i1 = some r) ((p_n.nodes.length + 1)) ⟨r1.2, tl1, H1, 0, hT1, (Le.refl _), (Sub.all rfl), fun w' s => (s.selectT 1 [] (by decide) rfl rfl), hm⟩ ?_ ?_
   ·
    rintro g' S' ⟨_, _, _, _, _, _, _, _, hm⟩
    exact none_some hm
   rintro m1 g' S' ⟨z1, tl2, H2, i1, hT2, hle2, hsub1, hS1, hm⟩
   refine WP.sub hsub1 (WP.weaken hS1 ?_)
   rw [program_preorder_1_1_loop1] at hm
   replace hb2 := hb2.mono hle2
   replace h2 := h2.mono hle2
   replace hG := hG.mono hle2
   replace hb1 := hb1.mono hle2
   refine WP.seq (WP.region (V rfl (ov_lss rfl rfl rfl) (WL.nil (tn (WP.seq ?_)))))
   refine WP.cond rfl (fun hc4 => ?_) (fun hc4 => ?_)
   ·
    replace hm := ite_t hc4 hm
    refine WP.skip (tn (WP.seq (WP.block (WP.seq (WP.region ?_)))))
    obtain ⟨x1, e2, hm⟩ := bind_some hm
    obtain ⟨h5, h6, h7, cs1, h8, h9⟩ := h2.get e2 (by decide)
    obtain ⟨ao3, cap3, ao4, cap4, rfl, h3, hc5, h4, hc6⟩ := (encNode_open h8)
    refine V rfl (ov_indexAddr underlying26 sizeOf28 rfl rfl rfl h5 h6 h7) (V rfl (ov_load_elems (vs := [(.int .i64 x1.kind), (.slice ao3 x1.step.strokes.length cap3), (.int .i64 x1.step.wait), (.int .i64 x1.count), (mkS x1.name), (.slice ao4 x1.nodes.length cap4)]) isAgg28 sizeOf28 rfl rfl rfl h9 h7) ?_)
    refine ws rfl (os_alloc (cs := [(.int .i64 0), (.slice none 0 0), (.int .i64 0), (.int .i64 0), (mkS []), (.slice none 0 0)]) zeroValue28 rfl rfl (fun b2 => ?_))
    refine ws0 rfl (os_store (i := 0) (vs := [(.int .i64 x1.kind), (.slice ao3 x1.step.strokes.length cap3), (.int .i64 x1.step.wait), (.int .i64 x1.count), (mkS x1.name), (.slice ao4 x1.nodes.length cap4)]) (cs' := [(.int .i64 x1.kind), (.slice ao3 x1.step.strokes.length cap3), (.int .i64 x1.step.wait), (.int .i64 x1.count), (mkS x1.name), (.slice ao4 x1.nodes.length cap4)]) sizeOf28 rfl rfl rfl rfl rfl rfl rfl rfl rfl ?_)
    refine WL.nil (tn (WP.seq (WP.region (Vm rfl (V rfl (ov_leq rfl rfl rfl) (Vm rfl ?_))))))
    rcases Bool.eq_false_or_eq_true (decide (p_depth ≤ 16)) with hc7 | hc7
    ·
     replace hm := ite_t hc7 hm
     refine wy hc7 rfl (ov_load_elem (v := (.func (.func 110) #[] #[(pB bc1 0), (pB bc2 0)])) isAgg125 rfl rfl hb2) ?_
     refine wy hc7 rfl (ov_load_whole (i := 0) isAgg28 sizeOf28 rfl rfl rfl rfl) ?_
     refine wy hc7 rfl (ov_move rfl rfl) ?_
     refine wy hc7 rfl (ov_add rfl rfl rfl) ?_
     obtain ⟨r2, e3, hm⟩ := bind_some hm
     refine WL.step (Runs.yes rfl rfl rfl hc7) rfl rfl (os_icall (r := r2) (ms := tl2) (.blk b2 28 [(.int .i64 x1.kind), (.slice ao3 x1.step.strokes.length cap3), (.int .i64 x1.step.wait), (.int .i64 x1.count), (mkS x1.name), (.slice ao4 x1.nodes.length cap4)] :: fr) call110 rfl (cap := [(pB bc1 0), (pB bc2 0)]) rfl rfl (hself x1 (IntKind.wrap .i64 (p_depth + 1)) z1 ao3 cap3 ao4 cap4 bc1 bc2 (.blk b2 28 [(.int .i64 x1.kind), (.slice ao3 x1.step.strokes.length cap3), (.int .i64 x1.step.wait), (.int .i64 x1.count), (mkS x1.name), (.slice ao4 x1.nodes.length cap4)] :: fr) tl2 H2 h3 hc5 h4 hc6 hb1 hb2 hT2 hG r2 e3) ?_ ?_)
     ·
      intro hc8 H3 tl3 hle3 hT3
      replace hm := ite_t hc8 hm
      refine WL.weaken (S₁ := St w0 H0 (.blk b2 28 [(.int .i64 x1.kind), (.slice ao3 x1.step.strokes.length cap3), (.int .i64 x1.step.wait), (.int .i64 x1.count), (mkS x1.name), (.slice ao4 x1.nodes.length cap4)] :: (fr ++ tl3)) H3) (fun _ s => s) ?_
      refine wy hc7 rfl (ov_not rfl rfl) ?_
      refine V rfl (ov_pick_true rfl (guard_eq rfl hc7) rfl) (WL.nil (tn (WP.cond_false rfl (WP.skip (bn (tn (WP.region (V rfl (ov_add rfl rfl rfl) (Vm rfl (WL.nil (tn ?_)))))))))))
      exact ⟨r2.2, tl3, H3, (IntKind.wrap .i64 (i1 + 1)), hT3, (hle2.trans hle3), (Sub.all rfl), fun w' s => (s.selectT 1 [] (by decide) rfl rfl), hm⟩
     intro hc9 H4 tl4 hle4 hT4
     replace hm := ite_f hc9 hm
     refine WL.weaken (S₁ := St w0 H0 (.blk b2 28 [(.int .i64 x1.kind), (.slice ao3 x1.step.strokes.length cap3), (.int .i64 x1.step.wait), (.int .i64 x1.count), (mkS x1.name), (.slice ao4 x1.nodes.length cap4)] :: (fr ++ tl4)) H4) (fun _ s => s) ?_
     refine wy hc7 rfl (ov_not rfl rfl) ?_
     refine V rfl (ov_pick_true rfl (guard_eq rfl hc7) rfl) (WL.nil (tn (WP.cond_true rfl (WP.seq (WP.region (Va rfl (WL.nil (tn (WP.ret (block_ret (then_ret (then_ret (block_ret ?_)))))))))))))
     refine then_ret ?_
     obtain rfl := Option.some.inj hm
     refine retQ_ret results110 (Res.tmp rfl Res.nil) rfl (fun w' s => ⟨H4, _, ((hle1.trans hle2).trans hle4), ⟨rfl, tl4, rfl, hT4⟩, (s.selectT 1 [] (by decide) rfl rfl)⟩)
    replace hm := ite_f hc7 hm
    refine Vi rfl (Idle.no rfl rfl rfl hc7) (Vi rfl (Idle.no rfl rfl rfl hc7) (Vi rfl (Idle.no rfl rfl rfl hc7) (Vi rfl (Idle.no rfl rfl rfl hc7) (Vi rfl (Idle.no rfl rfl rfl hc7) (Vi rfl (Idle.no rfl rfl rfl hc7) (V rfl (ov_pick_false rfl (guard_eq rfl hc7) rfl) (WL.nil (tn (WP.cond_false rfl (WP.skip (bn (tn (WP.region ?_)))))))))))))
    refine V rfl (ov_add rfl rfl rfl) (Vm rfl (WL.nil (tn ?_)))
    exact ⟨z1, tl2, H2, (IntKind.wrap .i64 (i1 + 1)), hT2, hle2, (Sub.all rfl), fun w' s => (s.selectT 1 [] (by decide) rfl rfl), hm⟩
   replace hm := ite_f hc4 hm
   refine WP.exit (then_exit (then_exit (block_here (tn ?_))))
   exact ⟨z1, tl2, H2, hT2, hle2, (Sub.all rfl), fun w' s => s, hm⟩
  rintro g' S' ⟨z2, tl5, H5, hT5, hle5, hsub2, hS2, hm⟩
  refine WP.sub hsub2 (WP.weaken hS2 ?_)
  replace hm := (congrFun hk1 z2).symm.trans hm
  refine WP.seq (WP.region (Va rfl (WL.nil (tn (WP.ret ?_)))))
  obtain rfl := Option.some.inj hm
  refine retQ_ret results110 (Res.tmp rfl Res.nil) rfl (fun w' s => ⟨H5, _, (hle1.trans hle5), ⟨rfl, tl5, rfl, hT5⟩, s⟩)
 intro hc10 H6 tl6 hle6 hT6
 replace hm := ite_f hc10 hm
 refine WL.weaken (S₁ := St w0 H0 (.blk b1 28 [(.int .i64 p_n.kind), (.slice ao1 p_n.step.strokes.length cap1), (.int .i64 p_n.step.wait), (.int .i64 p_n.count), (mkS p_n.name), (.slice ao2 p_n.nodes.length cap2)] :: (fr ++ tl6)) H6) (fun _ s => s) ?_
 refine V rfl (ov_not rfl rfl) (WL.nil (tn (WP.cond_true rfl (WP.seq (WP.region (Va rfl (WL.nil (tn (WP.ret (then_ret ?_))))))))))
 obtain rfl := Option.some.inj hm
 refine retQ_ret results110 (Res.tmp rfl Res.nil) rfl (fun w' s => ⟨H6, _, hle6, ⟨rfl, tl6, rfl, hT6⟩, (s.selectT 1 [] (by decide) rfl rfl)⟩)
theorem program_preorder_1_1_con {σ : Type} (step : σ → (Int × Node) → Option (Bool × σ)) {w0 : World} {H0 : Heap} {y : Value} {T T' : σ → Heap → List Ent → Prop} (hY : Yields prog w0 H0 y encSeqNode step T T') (n : Nat) : ∀ (p_n : Node) (p_depth : Int) (z : σ) (ao1 : Option Addr) (cap1 : Nat) (ao2 : Option Addr) (cap2 : Nat) (bc1 : Nat) (bc2 : Nat) (fr tl : List Ent) (H : Heap) (h1 : SL H encStroke ao1 p_n.step.strokes) (hc1 : p_n.step.strokes.length ≤ cap1) (h2 : SL H encNode ao2 p_n.nodes) (hc2 : p_n.nodes.length ≤ cap2) (hb1 : RowAt H (some ⟨bc1, 0, none⟩) 0 [y]) (hb2 : RowAt H (some ⟨bc2, 0, none⟩) 0 [(.func (.func 110) #[] #[(pB bc1 0), (pB bc2 0)])]) (hT : TH hY z H tl) (hG : Glob H) (r : (Bool × σ)) (hm : program_preorder_1_1 step n p_n p_depth z = some r),
  BCon prog 110 [(.agg #[(.int .i64 p_n.kind), (.slice ao1 p_n.step.strokes.length cap1), (.int .i64 p_n.step.wait), (.int .i64 p_n.count), (mkS p_n.name), (.slice ao2 p_n.nodes.length cap2)]), (.int .i64 p_depth), (pB bc1 0), (pB bc2 0)] w0 H0 (fr ++ tl) H (fun v H' ms' => v = .bool r.1 ∧ IterR hY fr r H' ms') := by
 induction n with
 | zero => intro p_n p_depth z ao1 cap1 ao2 cap2 bc1 bc2 fr tl H h1 hc1 h2 hc2 hb1 hb2 hT hG r hm; exact (none_some hm).elim
 | succ n ih => intro p_n p_depth z ao1 cap1 ao2 cap2 bc1 bc2 fr tl H h1 hc1 h2 hc2 hb1 hb2 hT hG r hm; exact program_preorder_1_1_body_con step hY (program_preorder_1_1 step n) ih p_n p_depth z ao1 cap1 ao2 cap2 bc1 bc2 fr tl H h1 hc1 h2 hc2 hb1 hb2 hT hG r hm
theorem program_preorder_1_con {σ : Type} (step : σ → (Int × Node) → Option (Bool × σ)) {w0 : World} {H0 : Heap} {y : Value} {T T' : σ → Heap → List Ent → Prop} (hY : Yields prog w0 H0 y encSeqNode step T T') (p_n : Node) (z : σ) (bc1 : Nat) (ao1 : Option Addr) (cap1 : Nat) (ao2 : Option Addr) (cap2 : Nat) (fr tl : List Ent) (H : Heap) (h1 : SL H encStroke ao1 p_n.step.strokes) (hc1 : p_n.step.strokes.length ≤ cap1) (h2 : SL H encNode ao2 p_n.nodes) (hc2 : p_n.nodes.length ≤ cap2) (hb1 : RowAt H (some ⟨bc1, 0, none⟩) 0 [(.int .i64 p_n.kind), (.slice ao1 p_n.step.strokes.length cap1), (.int .i64 p_n.step.wait), (.int .i64 p_n.count), (mkS p_n.name), (.slice ao2 p_n.nodes.length cap2)]) (hT : TH hY z H tl) (hG : Glob H) (r : (Bool × σ)) (hm : program_preorder_1 step p_n z = some r) :
  BCon prog 109 [y, (pB bc1 0)] w0 H0 (fr ++ tl) H (fun v H' ms' => v = .tuple #[] ∧ IterR hY fr r H' ms') := by
 unfold program_preorder_1 at hm
 refine bcon_of func109 rfl 8 ntmps109 rfl ?_
 refine WP.seq (WP.region ?_)
 refine ws rfl (os_box (cs := [y]) rfl rfl hY.cells (fun b1 => ?_))
 refine WL.nil (tn (WP.seq (WP.region ?_)))
 refine ws rfl (os_alloc (cs := [.nilFunc]) zeroValue125 rfl rfl (fun b2 => ?_))
 refine WL.nil (tn (WP.seq (WP.region (V rfl (ov_makeFunc' (first := []) rfl rfl rfl) ?_))))
 refine ws0 rfl (os_store (i := 0) (vs := [(.func (.func 110) #[] #[(pB b1 0), (pB b2 0)])]) (cs' := [(.func (.func 110) #[] #[(pB b1 0), (pB b2 0)])]) sizeOf125 rfl rfl rfl rfl rfl rfl rfl rfl rfl ?_)
 refine WL.nil (tn (WP.region (Vl 0 isAgg125 rfl (V rfl (ov_load_elems (vs := [(.int .i64 p_n.kind), (.slice ao1 p_n.step.strokes.length cap1), (.int .i64 p_n.step.wait), (.int .i64 p_n.count), (mkS p_n.name), (.slice ao2 p_n.nodes.length cap2)]) isAgg28 sizeOf28 rfl rfl rfl hb1 ⟨_, rfl⟩) ?_))))
 refine WL.weaken (fun _ s => s.selectT 2 [1, 0] (by decide) rfl rfl) ?_
 refine WL.box_held (fun H1 hle1 hc3 => ?_)
 have hb2 : RowAt H1 (some ⟨b1, 0, none⟩) 0 [y] := rowAt_box hc3
 replace h1 := h1.mono hle1
 replace h2 := h2.mono hle1
 replace hG := hG.mono hle1
 replace hT := hT.mono hle1
 refine WL.box_held (fun H2 hle2 hc4 => ?_)
 have hb3 : RowAt H2 (some ⟨b2, 0, none⟩) 0 [(.func (.func 110) #[] #[(pB b1 0), (pB b2 0)])] := rowAt_box hc4
 replace hb2 := hb2.mono hle2
 replace h1 := h1.mono hle2
 replace h2 := h2.mono hle2
 replace hG := hG.mono hle2
 replace hT := hT.mono hle2
 obtain ⟨r1, e1, hm⟩ := bind_some hm
 refine ws rfl (os_icall (r := r1) (ms := tl) (fr) call110 rfl (cap := [(pB b1 0), (pB b2 0)]) rfl rfl (program_preorder_1_1_con step hY 600 p_n 1 z ao1 cap1 ao2 cap2 b1 b2 (fr) tl H2 h1 hc1 h2 hc2 hb2 hb3 hT hG r1 e1) ?_ ?_)
 ·
  intro hc5 H3 tl1 hle3 hT1
  replace hm := ite_t hc5 hm
  refine WL.weaken (S₁ := St w0 H0 ((fr ++ tl1)) H3) (fun _ s => s) ?_
  refine WL.nil ?_
  obtain rfl := Option.some.inj hm
  refine retQ_end results109 Res.nil rfl (fun w' s => ⟨H3, _, ((hle1.trans hle2).trans hle3), ⟨rfl, tl1, rfl, hT1⟩, s⟩)
 intro hc6 H4 tl2 hle4 hT2
 replace hm := ite_f hc6 hm
 refine WL.weaken (S₁ := St w0 H0 ((fr ++ tl2)) H4) (fun _ s => s) ?_
 refine WL.nil ?_
 obtain rfl := Option.some.inj hm
 refine retQ_end results109 Res.nil rfl (fun w' s => ⟨H4, _, ((hle1.trans hle2).trans hle4), ⟨rfl, tl2, rfl, hT2⟩, s⟩)
theorem program_light_con (p_n : Node) (ao1 : Option Addr) (cap1 : Nat) (ao2 : Option Addr) (cap2 : Nat) (w : World) (H : Heap) (hH : Le H (hp w)) (h1 : SL H encStroke ao1 p_n.step.strokes) (hc1 : p_n.step.strokes.length ≤ cap1) (h2 : SL H encNode ao2 p_n.nodes) (hc2 : p_n.nodes.length ≤ cap2) (hG : Glob H) (r : Bool) (hm : program_light p_n = some r) :
  Con prog 68 [(.agg #[(.int .i64 p_n.kind), (.slice ao1 p_n.step.strokes.length cap1), (.int .i64 p_n.step.wait), (.int .i64 p_n.count), (mkS p_n.name), (.slice ao2 p_n.nodes.length cap2)])] w H (fun v _ => v = (.bool r)) := by
 unfold program_light at hm
 refine con_of hH func68 rfl 17 ntmps68 rfl ?_
 refine WP.seq (WP.region ?_)
 refine ws rfl (os_box (cs := [(.int .i64 p_n.kind), (.slice ao1 p_n.step.strokes.length cap1), (.int .i64 p_n.step.wait), (.int .i64 p_n.count), (mkS p_n.name), (.slice ao2 p_n.nodes.length cap2)]) rfl rfl rfl (fun b1 => ?_))
 refine ws rfl (os_alloc (cs := [(.bool false)]) zeroValue4 rfl rfl (fun b2 => ?_))
 refine WL.nil (tn (WP.seq (WP.region ?_)))
 refine ws rfl (os_alloc (cs := [(.int .i64 0)]) zeroValue3 rfl rfl (fun b3 => ?_))
 refine ws0 rfl (os_store (i := 0) (vs := [(.int .i64 0)]) (cs' := [(.int .i64 0)]) sizeOf3 rfl rfl rfl rfl rfl rfl rfl rfl rfl ?_)
 refine WL.nil (tn (WP.seq (WP.seq (WP.region (V rfl (ov_load_whole (i := 2) isAgg28 sizeOf28 rfl rfl rfl rfl) ?_)))))
 refine ws rfl (os_inline (cap := []) (vs := [(.agg #[(.int .i64 p_n.kind), (.slice ao1 p_n.step.strokes.length cap1), (.int .i64 p_n.step.wait), (.int .i64 p_n.count), (mkS p_n.name), (.slice ao2 p_n.nodes.length cap2)])]) call69 rfl rfl rfl func69 rfl 4 ntmps69 rfl (fun w' s => ?_))
 refine WP.seq (WP.region ?_)
 refine ws rfl (os_box (cs := [(.int .i64 p_n.kind), (.slice ao1 p_n.step.strokes.length cap1), (.int .i64 p_n.step.wait), (.int .i64 p_n.count), (mkS p_n.name), (.slice ao2 p_n.nodes.length cap2)]) rfl rfl rfl (fun b4 => ?_))
 refine Va rfl (WL.nil (tn (WP.seq (WP.region (V rfl (ov_makeFunc' (first := []) rfl rfl rfl) (Va rfl (WL.nil (tn (WP.ret ?_)))))))))
 refine retQ_ret (v := (.func (.func 109) #[] #[(pB b4 0)])) results69 (Res.tmp rfl Res.nil) rfl (fun w' s => ⟨_, ?_, s⟩)
 refine WL.nil (tn (WP.block ?_))
 refine WP.box_held (fun H1 hle1 hc3 => ?_)
 have hb1 : RowAt H1 (some ⟨b4, 0, none⟩) 0 [(.int .i64 p_n.kind), (.slice ao1 p_n.step.strokes.length cap1), (.int .i64 p_n.step.wait), (.int .i64 p_n.count), (mkS p_n.name), (.slice ao2 p_n.nodes.length cap2)] := rowAt_box hc3
 replace h1 := h1.mono hle1
 replace h2 := h2.mono hle1
 replace hG := hG.mono hle1
 obtain ⟨r1, e1, hm⟩ := bind_some hm
 refine WP.rangeC rfl (fun l1 D1 R1 hr1 w2 hs2 => ?_)
 have hY1 : Yields prog w H (.func (.yield l1) #[] #[]) encSeqNode (program_light_rng1) (fun (q1 : Int) (H2 : Heap) (ms : List Ent) => Le H1 H2 ∧ ms = [.obj l1 (R1 .ready none), .obj D1 (.deferred (some [])), .blk b3 3 [(.int .i64 q1)], .blk b2 4 [(.bool false)], .blk b1 28 [(.int .i64 p_n.kind), (.slice ao1 p_n.step.strokes.length cap1), (.int .i64 p_n.step.wait), (.int .i64 p_n.count), (mkS p_n.name), (.slice ao2 p_n.nodes.length cap2)]]) (fun (q1 : Int) (H2 : Heap) (ms : List Ent) => Le H1 H2 ∧ ms = [.obj l1 (R1 .done (some .ret)), .obj D1 (.deferred (some [])), .blk b3 3 [(.int .i64 q1)], .blk b2 4 [(.bool false)], .blk b1 28 [(.int .i64 p_n.kind), (.slice ao1 p_n.step.strokes.length cap1), (.int .i64 p_n.step.wait), (.int .i64 p_n.count), (mkS p_n.name), (.slice ao2 p_n.nodes.length cap2)]]) := by
  refine ⟨?_, ?_, _, rfl, ?_⟩
  ·
   rintro q1 Ha Hb msx k ⟨h0, rfl⟩; exact ⟨h0.trans k, rfl⟩
  ·
   rintro q1 Ha Hb msx k ⟨h0, rfl⟩; exact ⟨h0.trans k, rfl⟩
  ·
   rintro q1 xx1 bq1 q2 vs H2 ms fr1 hm ⟨ao3, cap3, ao4, cap4, rfl, h3, hc4, h4, hc5⟩ ⟨hle2, rfl⟩ w1 hs1
   unfold program_light_rng1 at hm
   replace h1 := h1.mono hle2
   replace h2 := h2.mono hle2
   replace hG := hG.mono hle2
   replace hb1 := hb1.mono hle2
   refine yields_call (i := 0) (vs := [(.int .i64 xx1.1), (.agg #[(.int .i64 xx1.2.kind), (.slice ao3 xx1.2.step.strokes.length cap3), (.int .i64 xx1.2.step.wait), (.int .i64 xx1.2.count), (mkS xx1.2.name), (.slice ao4 xx1.2.nodes.length cap4)])]) (b := bq1) (q := q2) (T := (fun (q1 : Int) (H2 : Heap) (ms : List Ent) => Le H1 H2 ∧ ms = [.obj l1 (R1 .ready none), .obj D1 (.deferred (some [])), .blk b3 3 [(.int .i64 q1)], .blk b2 4 [(.bool false)], .blk b1 28 [(.int .i64 p_n.kind), (.slice ao1 p_n.step.strokes.length cap1), (.int .i64 p_n.step.wait), (.int .i64 p_n.count), (mkS p_n.name), (.slice ao2 p_n.nodes.length cap2)]])) (T' := (fun (q1 : Int) (H2 : Heap) (ms : List Ent) => Le H1 H2 ∧ ms = [.obj l1 (R1 .done (some .ret)), .obj D1 (.deferred (some [])), .blk b3 3 [(.int .i64 q1)], .blk b2 4 [(.bool false)], .blk b1 28 [(.int .i64 p_n.kind), (.slice ao1 p_n.step.strokes.length cap1), (.int .i64 p_n.step.wait), (.int .i64 p_n.count), (mkS p_n.name), (.slice ao2 p_n.nodes.length cap2)]])) hr1 hs1 rfl rfl rfl ?_
   refine WP.weaken (S₁ := St w H (.obj l1 (R1 .ready none) :: .obj D1 (.deferred (some [])) :: .blk b3 3 [(.int .i64 q1)] :: .blk b2 4 [(.bool false)] :: .blk b1 28 [(.int .i64 p_n.kind), (.slice ao1 p_n.step.strokes.length cap1), (.int .i64 p_n.step.wait), (.int .i64 p_n.count), (mkS p_n.name), (.slice ao2 p_n.nodes.length cap2)] :: fr1) H2) (fun _ s => s) ?_
   refine WP.region (Va rfl (WL.nil (tn ?_)))
   refine begin_of (i := 0) rfl ?_
   refine WP.block (WP.seq (WP.region (Vl 2 isAgg3 rfl (V rfl (ov_add rfl rfl rfl) ?_))))
   refine ws0 rfl (os_store (i := 2) (vs := [(.int .i64 (IntKind.wrap .i64 (q1 + 1)))]) (cs' := [(.int .i64 (IntKind.wrap .i64 (q1 + 1)))]) sizeOf3 rfl rfl rfl rfl rfl rfl rfl rfl rfl ?_)
   refine WL.nil (tn (WP.seq (WP.region (Vl 2 isAgg3 rfl (V rfl (ov_gtr rfl rfl rfl) (Vm rfl ?_))))))
   refine WL.cut_bool 3 16 (x := ((decide ((IntKind.wrap .i64 (q1 + 1)) > 256)) || (decide (xx1.1 > 16)))) ?_ ?_
   ·
    rcases Bool.eq_false_or_eq_true (decide ((IntKind.wrap .i64 (q1 + 1)) > 256)) with hc6 | hc6
    ·
     refine Vi rfl (Idle.no rfl rfl rfl hc6) (Vi rfl (Idle.no rfl rfl rfl hc6) (V rfl (ov_pick_true rfl (guard_eq rfl hc6) rfl) ?_))
     exact WL.nil ⟨Sub.cons' rfl (congrArg Value.bool (orT hc6)) (Sub.dropn 3 rfl), fun _ s => s⟩
    ·
     refine wy hc6 rfl (ov_move rfl rfl) ?_
     refine wy hc6 rfl (ov_gtr rfl rfl rfl) ?_
     refine V rfl (ov_pick_false rfl (guard_eq rfl hc6) rfl) ?_
     exact WL.nil ⟨Sub.cons' rfl (congrArg Value.bool (orF hc6)) (Sub.dropn 3 rfl), fun _ s => s⟩
   refine WL.nil (tn ?_)
   refine WP.cond rfl (fun hc7 => ?_) (fun hc7 => ?_)
   ·
    replace hm := ite_t hc7 hm
    refine WP.seq (WP.region ?_)
    refine ws0 rfl (os_store (i := 3) (vs := [(.bool false)]) (cs' := [(.bool false)]) sizeOf4 rfl rfl rfl rfl rfl rfl rfl rfl rfl ?_)
    refine WL.nil (tn (WP.ret (block_ret ?_)))
    refine round_ret (i := 0) rfl ?_
    obtain ⟨rfl, rfl⟩ := Prod.mk.inj (Option.some.inj hm)
    exact ⟨rfl, H2, [.obj l1 (R1 .done (some .ret)), .obj D1 (.deferred (some [])), .blk b3 3 [(.int .i64 (IntKind.wrap .i64 (q1 + 1)))], .blk b2 4 [(.bool false)], .blk b1 28 [(.int .i64 p_n.kind), (.slice ao1 p_n.step.strokes.length cap1), (.int .i64 p_n.step.wait), (.int .i64 p_n.count), (mkS p_n.name), (.slice ao2 p_n.nodes.length cap2)]], (Le.refl _), condF ⟨(hle2.trans (Le.refl _)), rfl⟩, fun w' s => s⟩
   ·
    replace hm := ite_f hc7 hm
    refine WP.skip (bn ?_)
    refine round_normal (i := 0) rfl ?_
    obtain ⟨rfl, rfl⟩ := Prod.mk.inj (Option.some.inj hm)
    exact ⟨rfl, H2, [.obj l1 (R1 .ready none), .obj D1 (.deferred (some [])), .blk b3 3 [(.int .i64 (IntKind.wrap .i64 (q1 + 1)))], .blk b2 4 [(.bool false)], .blk b1 28 [(.int .i64 p_n.kind), (.slice ao1 p_n.step.strokes.length cap1), (.int .i64 p_n.step.wait), (.int .i64 p_n.count), (mkS p_n.name), (.slice ao2 p_n.nodes.length cap2)]], (Le.refl _), condT ⟨(hle2.trans (Le.refl _)), rfl⟩, fun w' s => s⟩
 have hT1 : TH hY1 0 H1 [.obj l1 (R1 .ready none), .obj D1 (.deferred (some [])), .blk b3 3 [(.int .i64 0)], .blk b2 4 [(.bool false)], .blk b1 28 [(.int .i64 p_n.kind), (.slice ao1 p_n.step.strokes.length cap1), (.int .i64 p_n.step.wait), (.int .i64 p_n.count), (mkS p_n.name), (.slice ao2 p_n.nodes.length cap2)]] := ⟨Le.refl _, rfl⟩
 refine ⟨109, [(pB b4 0)], rfl, call109, ?_⟩
 refine Calls.mono ((program_preorder_1_con (program_light_rng1) hY1 p_n 0 b4 ao1 cap1 ao2 cap2 [] [.obj l1 (R1 .ready none), .obj D1 (.deferred (some [])), .blk b3 3 [(.int .i64 0)], .blk b2 4 [(.bool false)], .blk b1 28 [(.int .i64 p_n.kind), (.slice ao1 p_n.step.strokes.length cap1), (.int .i64 p_n.step.wait), (.int .i64 p_n.count), (mkS p_n.name), (.slice ao2 p_n.nodes.length cap2)]] H1 h1 hc1 h2 hc2 hb1 hT1 hG r1 e1) w2 hs2) ?_
 rintro e w3 ⟨rv1, H3, ms1, rfl, hle3, ⟨rfl, tl1, rfl, hT2⟩, hs3⟩
 refine ⟨_, rfl, ?_⟩
 rcases Bool.eq_false_or_eq_true r1.1 with hc8 | hc8
 ·
  replace hm := ite_t hc8 hm
  obtain ⟨hle4, rfl⟩ := cond_t hc8 hT2
  refine ⟨St w H [.obj l1 (R1 .ready none), .obj D1 (.deferred (some [])), .blk b3 3 [(.int .i64 r1.2)], .blk b2 4 [(.bool false)], .blk b1 28 [(.int .i64 p_n.kind), (.slice ao1 p_n.step.strokes.length cap1), (.int .i64 p_n.step.wait), (.int .i64 p_n.count), (mkS p_n.name), (.slice ao2 p_n.nodes.length cap2)]] H3, ?_, hs3⟩
  refine after_normal ?_
  refine bn (tn (WP.seq (WP.region ?_)))
  refine ws0 rfl (os_store (i := 2) (vs := [(.bool true)]) (cs' := [(.bool true)]) sizeOf4 rfl rfl rfl rfl rfl rfl rfl rfl rfl ?_)
  refine WL.nil (tn (WP.ret ?_))
  obtain rfl := Option.some.inj hm
  refine retQ_retM (i := 0) rfl results68 (Res.cell rfl (box_load (i := 1) isAgg4 rfl) Res.nil) rfl (fun w' s => ⟨s.below, ?_⟩)
  exact rfl
 replace hm := ite_f hc8 hm
 obtain ⟨hle5, rfl⟩ := cond_f hc8 hT2
 refine ⟨St w H [.obj l1 (R1 .done (some .ret)), .obj D1 (.deferred (some [])), .blk b3 3 [(.int .i64 r1.2)], .blk b2 4 [(.bool false)], .blk b1 28 [(.int .i64 p_n.kind), (.slice ao1 p_n.step.strokes.length cap1), (.int .i64 p_n.step.wait), (.int .i64 p_n.count), (mkS p_n.name), (.slice ao2 p_n.nodes.length cap2)]] H3, ?_, hs3⟩
 refine after_ret ?_
 refine block_ret (then_ret ?_)
 obtain rfl := Option.some.inj hm
 refine retQ_retM (i := 0) rfl results68 (Res.cell rfl (box_load (i := 1) isAgg4 rfl) Res.nil) rfl (fun w' s => ⟨s.below, ?_⟩)
 exact rfl
theorem stroke_known_con (p_n : Int) (w : World) (H : Heap) (hH : Le H (hp w)) (hG : Glob H) (r : Bool) (hm : stroke_known p_n = some r) :
  Con prog 138 [(.int .i64 p_n)] w H (fun v _ => v = (.bool r)) := by
 unfold stroke_known at hm
 refine con_of hH func138 rfl 9 ntmps138 rfl ?_
 refine WP.seq (WP.region (Va rfl (WL.nil (tn (WP.seq (WP.region (Vm rfl (V rfl (ov_geq rfl rfl rfl) (Vm rfl ?_)))))))))
 refine WL.cut_bool 3 8 (x := ((decide (p_n ≥ 0)) && (decide (p_n < 6)))) ?_ ?_
 ·
  rcases Bool.eq_false_or_eq_true (decide (p_n ≥ 0)) with hc1 | hc1
  ·
   refine wy hc1 rfl (ov_move rfl rfl) ?_
   refine wy hc1 rfl (ov_lss rfl rfl rfl) ?_
   refine V rfl (ov_pick_true rfl (guard_eq rfl hc1) rfl) ?_
   exact WL.nil ⟨Sub.cons' rfl (congrArg Value.bool (andT hc1)) (Sub.dropn 3 rfl), fun _ s => s⟩
  refine Vi rfl (Idle.no rfl rfl rfl hc1) (Vi rfl (Idle.no rfl rfl rfl hc1) (V rfl (ov_pick_false rfl (guard_eq rfl hc1) rfl) ?_))
  exact WL.nil ⟨Sub.cons' rfl (congrArg Value.bool (andF hc1)) (Sub.dropn 3 rfl), fun _ s => s⟩
 refine Va rfl (WL.nil (tn (WP.ret ?_)))
 obtain rfl := Option.some.inj hm
 refine retQ_ret results138 (Res.tmp rfl Res.nil) rfl (fun w' s => ⟨s.below, ?_⟩)
 exact rfl
theorem stroke_CheckStep_con (p_x : Step) (ao1 : Option Addr) (cap1 : Nat) (w : World) (H : Heap) (hH : Le H (hp w)) (h1 : SL H encStroke ao1 p_x.strokes) (hc1 : p_x.strokes.length ≤ cap1) (hG : Glob H) (r : Int) (hm : stroke_CheckStep p_x = some r) :
  Con prog 102 [(.agg #[(.slice ao1 p_x.strokes.length cap1), (.int .i64 p_x.wait)])] w H (fun v _ => v = (.int .i64 r)) := by
 unfold stroke_CheckStep at hm
 refine con_of hH func102 rfl 49 ntmps102 rfl ?_
 refine WP.seq (WP.region ?_)
 refine ws rfl (os_box (cs := [(.slice ao1 p_x.strokes.length cap1), (.int .i64 p_x.wait)]) rfl rfl rfl (fun b1 => ?_))
 refine Va rfl (WL.nil (tn (WP.seq (WP.seq (WP.region (V rfl (ov_fieldAddr underlying25 rfl rfl rfl sizeOf23 rfl rfl) (Vl 0 isAgg23 rfl (V rfl (ov_len_slice underlying23 rfl rfl) (Va rfl (WL.nil (tn (WP.block (WP.seq ?_)))))))))))))
 refine WP.region (Vm rfl (V rfl (ov_eql rfl rfl rfl) (Va rfl (WL.nil (tn ?_)))))
 refine WP.cond rfl (fun hc2 => ?_) (fun hc2 => ?_)
 ·
  replace hm := ite_t hc2 hm
  refine WP.seq (WP.region (Va rfl (WL.nil (tn (WP.ret (block_ret (then_ret ?_)))))))
  obtain rfl := Option.some.inj hm
  refine retQ_ret results102 (Res.tmp rfl Res.nil) rfl (fun w' s => ⟨s.below, ?_⟩)
  exact rfl
 replace hm := ite_f hc2 hm
 refine WP.seq (WP.region (Vm rfl (V rfl (ov_gtr rfl rfl rfl) (Va rfl (WL.nil (tn ?_))))))
 refine WP.cond rfl (fun hc3 => ?_) (fun hc3 => ?_)
 ·
  replace hm := ite_t hc3 hm
  refine WP.seq (WP.region (Va rfl (WL.nil (tn (WP.ret (block_ret (then_ret ?_)))))))
  obtain rfl := Option.some.inj hm
  refine retQ_ret results102 (Res.tmp rfl Res.nil) rfl (fun w' s => ⟨s.below, ?_⟩)
  exact rfl
 replace hm := ite_f hc3 hm
 refine WP.skip (bn (tn (WP.seq (WP.region (Va rfl (WL.nil (tn ?_)))))))
 obtain ⟨k1, hk1, hm⟩ := joinK_some hm
 refine WP.seq_join (fun g' S' => Sub [(1, (pB b1 0)), (1000000007, (.bool false))] g' ∧ (∀ w', S' w' → St w H [.blk b1 25 [(.slice ao1 p_x.strokes.length cap1), (.int .i64 p_x.wait)]] H w') ∧ k1 = some r) ?_ ?_
 ·
  refine WP.seq (WP.region (V rfl (ov_fieldAddr underlying25 rfl rfl rfl sizeOf23 rfl rfl) (Vl 0 isAgg23 rfl (V rfl (ov_len_slice underlying23 rfl rfl) (Vm rfl (WL.nil (tn (WP.block ?_))))))))
  refine WP.loop (fun m1 g' S' => ∃ (i1 : Int) (i2 : Int), Sub [(1, (pB b1 0)), (4, (.int .i64 i1)), (17, (.slice ao1 p_x.strokes.length cap1)), (18, (.int .i64 (p_x.strokes.length : Int))), (19, (.int .i64 i2)), (1000000007, (.bool false))] g' ∧ (∀ w', S' w' → St w H [.blk b1 25 [(.slice ao1 p_x.strokes.length cap1), (.int .i64 p_x.wait)]] H w') ∧ stroke_CheckStep_loop1 p_x k1 m1 i1 i2 = some r) ((Int.toNat ((p_x.strokes.length : Int) - 0) + 1)) ⟨(-1), 0, (Sub.all rfl), fun w' s => s, hm⟩ ?_ ?_
  ·
   rintro g' S' ⟨_, _, _, _, hm⟩
   exact none_some hm
  rintro m1 g' S' ⟨i1, i2, hsub1, hS1, hm⟩
  refine WP.sub hsub1 (WP.weaken hS1 ?_)
  rw [stroke_CheckStep_loop1] at hm
  refine WP.seq (WP.region (V rfl (ov_lss rfl rfl rfl) (WL.nil (tn (WP.seq ?_)))))
  refine WP.cond rfl (fun hc4 => ?_) (fun hc4 => ?_)
  ·
   replace hm := ite_t hc4 hm
   refine WP.skip (tn (WP.seq (WP.block (WP.seq (WP.region ?_)))))
   obtain ⟨x1, e1, hm⟩ := bind_some hm
   obtain ⟨h2, h3, h4, cs1, h5, h6⟩ := h1.get e1 (by decide)
   obtain rfl : cs1 = [(.int .i64 x1.actuator), (.bool x1.out)] := h5
   refine V rfl (ov_indexAddr underlying23 sizeOf112 rfl rfl rfl h2 h3 h4) (V rfl (ov_load_elems (vs := [(.int .i64 x1.actuator), (.bool x1.out)]) isAgg112 sizeOf112 rfl rfl rfl h6 h4) ?_)
   refine ws rfl (os_alloc (cs := [(.int .i64 0), (.bool false)]) zeroValue112 rfl rfl (fun b2 => ?_))
   refine ws0 rfl (os_store (i := 0) (vs := [(.int .i64 x1.actuator), (.bool x1.out)]) (cs' := [(.int .i64 x1.actuator), (.bool x1.out)]) sizeOf112 rfl rfl rfl rfl rfl rfl rfl rfl rfl ?_)
   refine WL.nil (tn (WP.seq (WP.block (WP.seq (WP.region (V rfl (ov_fieldAddr underlying112 rfl rfl rfl sizeOf3 rfl rfl) (Vl 0 isAgg3 rfl ?_)))))))
   obtain ⟨r1, e2, hm⟩ := bind_some hm
   refine wo rfl (oq_con (r := (.bool r1)) call138 rfl rfl (fun w' s => ⟨_, (stroke_known_con x1.actuator  w' H s.hold hG r1 e2)⟩)) ?_
   refine V rfl (ov_not rfl rfl) (Va rfl (WL.nil (tn ?_)))
   refine WP.cond rfl (fun hc5 => ?_) (fun hc5 => ?_)
   ·
    replace hm := ite_t hc5 hm
    refine WP.seq (WP.region (Va rfl (WL.nil (tn (WP.ret (block_ret (then_ret (block_ret (then_ret (then_ret (block_ret (then_ret ?_))))))))))))
    obtain rfl := Option.some.inj hm
    refine retQ_ret results102 (Res.tmp rfl Res.nil) rfl (fun w' s => ⟨s.below, ?_⟩)
    exact rfl
   replace hm := ite_f hc5 hm
   refine WP.seq (WP.region (V rfl (ov_fieldAddr underlying112 rfl rfl rfl sizeOf3 rfl rfl) (Vl 0 isAgg3 rfl (Vm rfl (V rfl (ov_eql rfl rfl rfl) (Va rfl (WL.nil (tn ?_))))))))
   refine WP.cond rfl (fun hc6 => ?_) (fun hc6 => ?_)
   ·
    replace hm := ite_t hc6 hm
    refine WP.seq (WP.region (Va rfl (WL.nil (tn (WP.ret (block_ret (then_ret (block_ret (then_ret (then_ret (block_ret (then_ret ?_))))))))))))
    obtain rfl := Option.some.inj hm
    refine retQ_ret results102 (Res.tmp rfl Res.nil) rfl (fun w' s => ⟨s.below, ?_⟩)
    exact rfl
   replace hm := ite_f hc6 hm
   refine WP.seq (WP.region (V rfl (ov_fieldAddr underlying112 rfl rfl rfl sizeOf3 rfl rfl) (Vl 0 isAgg3 rfl (Vm rfl (V rfl (ov_lss rfl rfl rfl) (Va rfl (WL.nil (tn ?_))))))))
   refine WP.cond rfl (fun hc7 => ?_) (fun hc7 => ?_)
   ·
    replace hm := ite_t hc7 hm
    refine WP.seq (WP.region (Va rfl (WL.nil (tn (WP.ret (block_ret (then_ret (block_ret (then_ret (then_ret (block_ret (then_ret ?_))))))))))))
    obtain rfl := Option.some.inj hm
    refine retQ_ret results102 (Res.tmp rfl Res.nil) rfl (fun w' s => ⟨s.below, ?_⟩)
    exact rfl
   replace hm := ite_f hc7 hm
   refine WP.skip (bn (tn (WP.region (V rfl (ov_fieldAddr underlying112 rfl rfl rfl sizeOf3 rfl rfl) (Vl 0 isAgg3 rfl (Va rfl (WL.nil (bn (tn (WP.region (V rfl (ov_add rfl rfl rfl) (Vm rfl (WL.nil ?_)))))))))))))
   refine tn ?_
   exact ⟨x1.actuator, (IntKind.wrap .i64 (i2 + 1)), (Sub.all rfl), fun w' s => (s.select [1] (by decide) rfl), hm⟩
  replace hm := ite_f hc4 hm
  refine WP.exit (then_exit (then_exit (block_here (tn ?_))))
  exact ⟨(Sub.all rfl), fun w' s => s, hm⟩
 rintro g' S' ⟨hsub2, hS2, hm⟩
 refine WP.sub hsub2 (WP.weaken hS2 ?_)
 replace hm := hk1.symm.trans hm
 refine WP.seq (WP.seq (WP.region (V rfl (ov_fieldAddr underlying25 rfl rfl rfl sizeOf3 rfl rfl) (Vl 0 isAgg3 rfl (V rfl (ov_lss rfl rfl rfl) (Vm rfl ?_))))))
 refine WL.cut_bool 4 48 (x := ((decide (p_x.wait < 0)) || (decide (p_x.wait > 1000000)))) ?_ ?_
 ·
  rcases Bool.eq_false_or_eq_true (decide (p_x.wait < 0)) with hc8 | hc8
  ·
   refine Vi rfl (Idle.no rfl rfl rfl hc8) (Vi rfl (Idle.no rfl rfl rfl hc8) (Vi rfl (Idle.no rfl rfl rfl hc8) (V rfl (ov_pick_true rfl (guard_eq rfl hc8) rfl) ?_)))
   exact WL.nil ⟨Sub.cons' rfl (congrArg Value.bool (orT hc8)) (Sub.dropn 4 rfl), fun _ s => s⟩
  refine wy hc8 rfl (ov_fieldAddr underlying25 rfl rfl rfl sizeOf3 rfl rfl) ?_
  refine wy hc8 rfl (ov_load_box (i := 0) isAgg3 rfl rfl rfl rfl) ?_
  refine wy hc8 rfl (ov_gtr rfl rfl rfl) ?_
  refine V rfl (ov_pick_false rfl (guard_eq rfl hc8) rfl) ?_
  exact WL.nil ⟨Sub.cons' rfl (congrArg Value.bool (orF hc8)) (Sub.dropn 4 rfl), fun _ s => s⟩
 refine WL.nil (tn ?_)
 refine WP.cond rfl (fun hc9 => ?_) (fun hc9 => ?_)
 ·
  replace hm := ite_t hc9 hm
  refine WP.seq (WP.region (Va rfl (WL.nil (tn (WP.ret (then_ret ?_))))))
  obtain rfl := Option.some.inj hm
  refine retQ_ret results102 (Res.tmp rfl Res.nil) rfl (fun w' s => ⟨s.below, ?_⟩)
  exact rfl
 replace hm := ite_f hc9 hm
 refine WP.skip (tn (WP.seq (WP.region (Va rfl (WL.nil (tn (WP.ret ?_)))))))
 obtain rfl := Option.some.inj hm
 refine retQ_ret results102 (Res.tmp rfl Res.nil) rfl (fun w' s => ⟨s.below, ?_⟩)
 exact rfl
theorem lexer_class_con (p_b : Int) (w : World) (H : Heap) (hH : Le H (hp w)) (hG : Glob H) (r : Int) (hm : lexer_class p_b = some r) :
  Con prog 121 [(.int .u8 p_b)] w H (fun v _ => v = (.int .i64 r)) := by
 unfold lexer_class at hm
 refine con_of hH func121 rfl 28 ntmps121 rfl ?_
 refine WP.seq (WP.region (Va rfl (WL.nil (tn ?_))))
 obtain ⟨k1, hk1, hm⟩ := joinK_some hm
 refine WP.seq_join (fun g' S' => Sub [(0, (.int .u8 p_b)), (1000000007, (.bool false))] g' ∧ (∀ w', S' w' → St w H [] H w') ∧ k1 = some r) ?_ ?_
 ·
  refine WP.seq (WP.region (Vm rfl (WL.nil (tn (WP.block ?_)))))
  refine WP.loop (fun m1 g' S' => ∃ (i1 : Int), Sub [(0, (.int .u8 p_b)), (5, (.int .i64 i1)), (1000000007, (.bool false))] g' ∧ (∀ w', S' w' → St w H [] H w') ∧ lexer_class_loop1 p_b k1 m1 i1 = some r) ((Int.toNat (6 - 0) + 1)) ⟨0, (Sub.all rfl), fun w' s => s, hm⟩ ?_ ?_
  ·
   rintro g' S' ⟨_, _, _, hm⟩
   exact none_some hm
  rintro m1 g' S' ⟨i1, hsub1, hS1, hm⟩
  refine WP.sub hsub1 (WP.weaken hS1 ?_)
  rw [lexer_class_loop1] at hm
  refine WP.seq (WP.region (V rfl (ov_lss rfl rfl rfl) (WL.nil (tn (WP.seq ?_)))))
  refine WP.cond rfl (fun hc1 => ?_) (fun hc1 => ?_)
  ·
   replace hm := ite_t hc1 hm
   refine WP.skip (tn (WP.seq (WP.block (WP.seq (WP.region (Vm rfl (Va rfl (WL.nil (tn (WP.seq (WP.region (Vm rfl ?_))))))))))))
   obtain ⟨x1, e1, hm⟩ := bind_some hm
   obtain ⟨h1, h2, h3, cs1, h4, h5⟩ := hG.1.get e1 (by decide)
   obtain rfl : cs1 = [(.int .u8 x1.a0), (.int .u8 x1.a1), (.int .u8 x1.a2)] := h4
   refine V rfl (ov_indexAddr_globL rfl underlying203 sizeOf202 rfl rfl rfl h1 h2) (V rfl (ov_load_elems (vs := [(.int .u8 x1.a0), (.int .u8 x1.a1), (.int .u8 x1.a2)]) isAgg202 sizeOf202 rfl rfl rfl h5 h3) ?_)
   refine ws rfl (os_alloc (cs := [(.int .u8 0), (.int .u8 0), (.int .u8 0)]) zeroValue202 rfl rfl (fun b1 => ?_))
   refine ws0 rfl (os_store (i := 0) (vs := [(.int .u8 x1.a0), (.int .u8 x1.a1), (.int .u8 x1.a2)]) (cs' := [(.int .u8 x1.a0), (.int .u8 x1.a1), (.int .u8 x1.a2)]) sizeOf202 rfl rfl rfl rfl rfl rfl rfl rfl rfl ?_)
   refine WL.nil (tn (WP.seq (WP.region (V rfl (ov_indexAddr_arr underlying202 sizeOf5 rfl rfl rfl (by decide) (by decide)) (Vl 0 isAgg5 rfl (Vm rfl (V rfl (ov_leq rfl rfl rfl) (Vm rfl ?_))))))))
   refine WL.cut_bool 5 20 (x := ((decide (x1.a0 ≤ p_b)) && (decide (p_b ≤ x1.a1)))) ?_ ?_
   ·
    rcases Bool.eq_false_or_eq_true (decide (x1.a0 ≤ p_b)) with hc2 | hc2
    ·
     refine wy hc2 rfl (ov_move rfl rfl) ?_
     refine wy hc2 rfl (ov_indexAddr_arr underlying202 sizeOf5 rfl rfl rfl (by decide) (by decide)) ?_
     refine wy hc2 rfl (ov_load_box (i := 0) isAgg5 rfl rfl rfl rfl) ?_
     refine wy hc2 rfl (ov_leq rfl rfl rfl) ?_
     refine V rfl (ov_pick_true rfl (guard_eq rfl hc2) rfl) ?_
     exact WL.nil ⟨Sub.cons' rfl (congrArg Value.bool (andT hc2)) (Sub.dropn 5 rfl), fun _ s => s⟩
    refine Vi rfl (Idle.no rfl rfl rfl hc2) (Vi rfl (Idle.no rfl rfl rfl hc2) (Vi rfl (Idle.no rfl rfl rfl hc2) (Vi rfl (Idle.no rfl rfl rfl hc2) (V rfl (ov_pick_false rfl (guard_eq rfl hc2) rfl) ?_))))
    exact WL.nil ⟨Sub.cons' rfl (congrArg Value.bool (andF hc2)) (Sub.dropn 5 rfl), fun _ s => s⟩
   refine WL.nil (tn ?_)
   refine WP.cond rfl (fun hc3 => ?_) (fun hc3 => ?_)
   ·
    replace hm := ite_t hc3 hm
    refine WP.seq (WP.region (V rfl (ov_indexAddr_arr underlying202 sizeOf5 rfl rfl rfl (by decide) (by decide)) (Vl 0 isAgg5 rfl (V rfl (ov_convert_int underlying5 underlying3 rfl rfl) (Va rfl (WL.nil (tn (WP.ret (block_ret (then_ret (then_ret (block_ret (then_ret ?_)))))))))))))
    obtain rfl := Option.some.inj hm
    refine retQ_ret results121 (Res.tmp rfl Res.nil) rfl (fun w' s => ⟨s.below, ?_⟩)
    exact rfl
   replace hm := ite_f hc3 hm
   refine WP.skip (bn (tn (WP.region (V rfl (ov_add rfl rfl rfl) (Vm rfl (WL.nil (tn ?_)))))))
   exact ⟨(IntKind.wrap .i64 (i1 + 1)), (Sub.all rfl), fun w' s => (s.select [] (by decide) rfl), hm⟩
  replace hm := ite_f hc1 hm
  refine WP.exit (then_exit (then_exit (block_here (tn ?_))))
  exact ⟨(Sub.all rfl), fun w' s => s, hm⟩
 rintro g' S' ⟨hsub2, hS2, hm⟩
 refine WP.sub hsub2 (WP.weaken hS2 ?_)
 replace hm := hk1.symm.trans hm
 refine WP.seq (WP.seq (WP.region (Vm rfl ?_)))
 obtain ⟨r1, e2, hm⟩ := bind_some hm
 refine wo rfl (oq_con (r := (.int .i64 r1)) call148 rfl rfl (fun w' s => ⟨_, (idxB_con [43, 45, 42, 47, 40, 41, 91, 93, 123, 125, 60, 62, 61, 44, 59, 58, 124, 38, 33, 35, 46] p_b  w' H s.hold hG r1 e2)⟩)) ?_
 refine V rfl (ov_geq rfl rfl rfl) (WL.nil (tn ?_))
 refine WP.cond rfl (fun hc4 => ?_) (fun hc4 => ?_)
 ·
  replace hm := ite_t hc4 hm
  refine WP.seq (WP.region (Va rfl (WL.nil (tn (WP.ret (then_ret ?_))))))
  obtain rfl := Option.some.inj hm
  refine retQ_ret results121 (Res.tmp rfl Res.nil) rfl (fun w' s => ⟨s.below, ?_⟩)
  exact rfl
 replace hm := ite_f hc4 hm
 refine WP.skip (tn (WP.seq (WP.region (Va rfl (WL.nil (tn (WP.ret ?_)))))))
 obtain rfl := Option.some.inj hm
 refine retQ_ret results121 (Res.tmp rfl Res.nil) rfl (fun w' s => ⟨s.below, ?_⟩)
 exact rfl
theorem lexer_run_con (p_s : (List UInt8)) (p_classes : (List Int)) (ao1 : Option Addr) (cap1 : Nat) (w : World) (H : Heap) (hH : Le H (hp w)) (h1 : SL H (encInt .i64) ao1 p_classes) (hc1 : p_classes.length ≤ cap1) (hG : Glob H) (r : Int) (hm : lexer_run p_s p_classes = some r) :
  Con prog 122 [(mkS p_s), (.slice ao1 p_classes.length cap1)] w H (fun v _ => v = (.int .i64 r)) := by
 unfold lexer_run at hm
 refine con_of hH func122 rfl 36 ntmps122 rfl ?_
 refine WP.seq (WP.region (Va rfl (WL.nil (tn ?_))))
 obtain ⟨k1, hk1, hm⟩ := joinK_some hm
 refine WP.seq_join (fun g' S' => Sub [(0, (mkS p_s)), (1000000007, (.bool false))] g' ∧ (∀ w', S' w' → St w H [] H w') ∧ k1 = some r) ?_ ?_
 ·
  refine WP.seq (WP.region (Vm rfl (V rfl (ov_len_string underlying9 rfl rfl) (Vm rfl (WL.nil (tn (WP.block ?_)))))))
  refine WP.loop (fun m1 g' S' => ∃ (i1 : Int), Sub [(0, (mkS p_s)), (1, (.slice ao1 p_classes.length cap1)), (10, (.int .i64 (p_s.length : Int))), (11, (.int .i64 i1)), (1000000007, (.bool false))] g' ∧ (∀ w', S' w' → St w H [] H w') ∧ lexer_run_loop1 p_s p_classes k1 m1 i1 = some r) ((Int.toNat ((p_s.length : Int) - 0) + 1)) ⟨0, (Sub.all rfl), fun w' s => s, hm⟩ ?_ ?_
  ·
   rintro g' S' ⟨_, _, _, hm⟩
   exact none_some hm
  rintro m1 g' S' ⟨i1, hsub1, hS1, hm⟩
  refine WP.sub hsub1 (WP.weaken hS1 ?_)
  rw [lexer_run_loop1] at hm
  refine WP.seq (WP.region (V rfl (ov_lss rfl rfl rfl) (WL.nil (tn (WP.seq ?_)))))
  refine WP.cond rfl (fun hc2 => ?_) (fun hc2 => ?_)
  ·
   replace hm := ite_t hc2 hm
   refine WP.skip (tn ?_)
   obtain ⟨k2, hk2, hm⟩ := joinK_some hm
   refine WP.seq_join (fun g' S' => Sub [(0, (mkS p_s)), (1, (.slice ao1 p_classes.length cap1)), (10, (.int .i64 (p_s.length : Int))), (11, (.int .i64 i1)), (1000000007, (.bool false))] g' ∧ (∀ w', S' w' → St w H [] H w') ∧ k2 = some r) ?_ ?_
   ·
    refine WP.block (WP.seq (WP.region (Vm rfl (Va rfl (WL.nil (tn (WP.seq (WP.region (Va rfl (WL.nil (tn ?_)))))))))))
    obtain ⟨k3, hk3, hm⟩ := joinK_some hm
    refine WP.seq_join (fun g' S' => ∃ (c3 : Bool), Sub [(0, (mkS p_s)), (1, (.slice ao1 p_classes.length cap1)), (5, (.int .i64 i1)), (6, (.bool c3)), (10, (.int .i64 (p_s.length : Int))), (11, (.int .i64 i1)), (1000000007, (.bool false))] g' ∧ (∀ w', S' w' → St w H [] H w') ∧ k3 c3 = some r) ?_ ?_
    ·
     refine WP.seq (WP.region (Vm rfl (V rfl (ov_len_slice underlying174 rfl rfl) (Vm rfl (WL.nil (tn (WP.block ?_)))))))
     refine WP.loop (fun m2 g' S' => ∃ (c1 : Bool) (i2 : Int), Sub [(0, (mkS p_s)), (1, (.slice ao1 p_classes.length cap1)), (5, (.int .i64 i1)), (6, (.bool c1)), (10, (.int .i64 (p_s.length : Int))), (11, (.int .i64 i1)), (14, (.slice ao1 p_classes.length cap1)), (15, (.int .i64 (p_classes.length : Int))), (16, (.int .i64 i2)), (1000000007, (.bool false))] g' ∧ (∀ w', S' w' → St w H [] H w') ∧ lexer_run_loop2 p_s p_classes i1 k3 m2 c1 i2 = some r) ((Int.toNat ((p_classes.length : Int) - 0) + 1)) ⟨false, 0, (Sub.all rfl), fun w' s => s, hm⟩ ?_ ?_
     ·
      rintro g' S' ⟨_, _, _, _, hm⟩
      exact none_some hm
     rintro m2 g' S' ⟨c1, i2, hsub2, hS2, hm⟩
     refine WP.sub hsub2 (WP.weaken hS2 ?_)
     rw [lexer_run_loop2] at hm
     refine WP.seq (WP.region (V rfl (ov_lss rfl rfl rfl) (WL.nil (tn (WP.seq ?_)))))
     refine WP.cond rfl (fun hc3 => ?_) (fun hc3 => ?_)
     ·
      replace hm := ite_t hc3 hm
      refine WP.skip (tn (WP.seq (WP.block (WP.seq (WP.region ?_)))))
      obtain ⟨x1, e1, hm⟩ := bind_some hm
      obtain ⟨h2, h3, h4, cs1, h5, h6⟩ := h1.get e1 (by decide)
      obtain rfl : cs1 = [(.int .i64 x1)] := h5
      refine V rfl (ov_indexAddr underlying174 sizeOf3 rfl rfl rfl h2 h3 h4) (V rfl (ov_load_elem (v := (.int .i64 x1)) isAgg3 rfl rfl h6) (Va rfl (WL.nil (tn (WP.region (Vm rfl (Vm rfl ?_)))))))
      obtain ⟨c2, e2, hm⟩ := bind_some hm
      refine WL.cut_bool 7 28 (x := c2) ?_ ?_
      ·
       rcases Bool.eq_false_or_eq_true c1 with hc4 | hc4
       ·
        replace hm := ite_t hc4 e2
        refine Vi rfl (Idle.no rfl rfl rfl hc4) (Vi rfl (Idle.no rfl rfl rfl hc4) (Vi rfl (Idle.no rfl rfl rfl hc4) (Vi rfl (Idle.no rfl rfl rfl hc4) (Vi rfl (Idle.no rfl rfl rfl hc4) (Vi rfl (Idle.no rfl rfl rfl hc4) (V rfl (ov_pick_true rfl (guard_eq rfl hc4) rfl) ?_))))))
        exact WL.nil ⟨Sub.cons' rfl (congrArg Value.bool (Option.some.inj hm)) (Sub.dropn 7 rfl), fun _ s => s⟩
       replace hm := ite_f hc4 e2
       refine wy hc4 rfl (ov_move rfl rfl) ?_
       refine wy hc4 rfl (ov_move rfl rfl) ?_
       obtain ⟨b1, e3, hm⟩ := bind_some hm
       refine wy hc4 rfl (ov_index_string underlying9 rfl rfl rfl e3) ?_
       obtain ⟨r1, e4, hm⟩ := bind_some hm
       refine WL.quiet (Runs.yes rfl rfl rfl hc4) rfl rfl (oq_con (r := (.int .i64 r1)) call121 rfl rfl (fun w' s => ⟨_, (lexer_class_con (b1.toNat : Int)  w' H s.hold hG r1 e4)⟩)) ?_
       refine wy hc4 rfl (ov_move rfl rfl) ?_
       refine wy hc4 rfl (ov_eql rfl rfl rfl) ?_
       refine V rfl (ov_pick_false rfl (guard_eq rfl hc4) rfl) ?_
       exact WL.nil ⟨Sub.cons' rfl (congrArg Value.bool (Option.some.inj hm)) (Sub.dropn 7 rfl), fun _ s => s⟩
      refine Va rfl (WL.nil (bn (tn (WP.region (V rfl (ov_add rfl rfl rfl) (Vm rfl (WL.nil (tn ?_))))))))
      exact ⟨c2, (IntKind.wrap .i64 (i2 + 1)), (Sub.all rfl), fun w' s => s, hm⟩
     replace hm := ite_f hc3 hm
     refine WP.exit (then_exit (then_exit (block_here (tn ?_))))
     exact ⟨c1, (Sub.all rfl), fun w' s => s, hm⟩
    rintro g' S' ⟨c3, hsub3, hS3, hm⟩
    refine WP.sub hsub3 (WP.weaken hS3 ?_)
    replace hm := (congrFun hk3 c3).symm.trans hm
    refine WP.seq (WP.region (Vm rfl (V rfl (ov_not rfl rfl) (WL.nil (tn ?_)))))
    refine WP.cond rfl (fun hc5 => ?_) (fun hc5 => ?_)
    ·
     replace hm := ite_t hc5 hm
     refine WP.seq (WP.region (Vm rfl (Va rfl (WL.nil (tn (WP.ret (block_ret (then_ret (then_ret (block_ret (then_ret ?_)))))))))))
     obtain rfl := Option.some.inj hm
     refine retQ_ret results122 (Res.tmp rfl Res.nil) rfl (fun w' s => ⟨s.below, ?_⟩)
     exact rfl
    replace hm := ite_f hc5 hm
    refine WP.skip (bn (tn ?_))
    exact ⟨(Sub.all rfl), fun w' s => s, hm⟩
   rintro g' S' ⟨hsub4, hS4, hm⟩
   refine WP.sub hsub4 (WP.weaken hS4 ?_)
   replace hm := hk2.symm.trans hm
   refine WP.region (V rfl (ov_add rfl rfl rfl) (Vm rfl (WL.nil (tn ?_))))
   exact ⟨(IntKind.wrap .i64 (i1 + 1)), (Sub.all rfl), fun w' s => s, hm⟩
  replace hm := ite_f hc2 hm
  refine WP.exit (then_exit (then_exit (block_here (tn ?_))))
  exact ⟨(Sub.all rfl), fun w' s => s, hm⟩
 rintro g' S' ⟨hsub5, hS5, hm⟩
 refine WP.sub hsub5 (WP.weaken hS5 ?_)
 replace hm := hk1.symm.trans hm
 refine WP.seq (WP.region (Vm rfl (V rfl (ov_len_string underlying9 rfl rfl) (Va rfl (WL.nil (tn (WP.ret ?_)))))))
 obtain rfl := Option.some.inj hm
 refine retQ_ret results122 (Res.tmp rfl Res.nil) rfl (fun w' s => ⟨s.below, ?_⟩)
 exact rfl
theorem lexer_Word_con (p_s : (List UInt8)) (w : World) (H : Heap) (hH : Le H (hp w)) (hG : Glob H) (r : Int) (hm : lexer_Word p_s = some r) :
  Con prog 111 [(mkS p_s)] w H (fun v _ => v = (.int .i64 r)) := by
 unfold lexer_Word at hm
 refine con_of hH func111 rfl 24 ntmps111 rfl ?_
 refine WP.seq (WP.region (Va rfl (WL.nil (tn (WP.seq (WP.block (WP.seq (WP.region (Vm rfl (V rfl (ov_seql rfl rfl rfl) (Vm rfl ?_)))))))))))
 obtain ⟨c1, e1, hm⟩ := bind_some hm
 refine WL.cut_bool 5 11 (x := c1) ?_ ?_
 ·
  rcases Bool.eq_false_or_eq_true (p_s == []) with hc1 | hc1
  ·
   replace hm := ite_t hc1 e1
   refine Vi rfl (Idle.no rfl rfl rfl hc1) (Vi rfl (Idle.no rfl rfl rfl hc1) (Vi rfl (Idle.no rfl rfl rfl hc1) (Vi rfl (Idle.no rfl rfl rfl hc1) (V rfl (ov_pick_true rfl (guard_eq rfl hc1) rfl) ?_))))
   exact WL.nil ⟨Sub.cons' rfl (congrArg Value.bool (Option.some.inj hm)) (Sub.dropn 5 rfl), fun _ s => s⟩
  replace hm := ite_f hc1 e1
  refine wy hc1 rfl (ov_move rfl rfl) ?_
  obtain ⟨b1, e2, hm⟩ := bind_some hm
  refine wy hc1 rfl (ov_index_string underlying9 rfl rfl rfl e2) ?_
  obtain ⟨r1, e3, hm⟩ := bind_some hm
  refine WL.quiet (Runs.yes rfl rfl rfl hc1) rfl rfl (oq_con (r := (.int .i64 r1)) call121 rfl rfl (fun w' s => ⟨_, (lexer_class_con (b1.toNat : Int)  w' H s.hold hG r1 e3)⟩)) ?_
  refine wy hc1 rfl (ov_neq rfl rfl rfl) ?_
  refine V rfl (ov_pick_false rfl (guard_eq rfl hc1) rfl) ?_
  exact WL.nil ⟨Sub.cons' rfl (congrArg Value.bool (Option.some.inj hm)) (Sub.dropn 5 rfl), fun _ s => s⟩
 refine Vm rfl ?_
 obtain ⟨c2, e4, hm⟩ := bind_some hm
 refine WL.cut_bool 7 19 (x := c2) ?_ ?_
 ·
  rcases Bool.eq_false_or_eq_true c1 with hc2 | hc2
  ·
   replace hm := ite_t hc2 e4
   refine Vi rfl (Idle.no rfl rfl rfl hc2) (Vi rfl (Idle.no rfl rfl rfl hc2) (Vi rfl (Idle.no rfl rfl rfl hc2) (Vi rfl (Idle.no rfl rfl rfl hc2) (Vi rfl (Idle.no rfl rfl rfl hc2) (Vi rfl (Idle.no rfl rfl rfl hc2) (V rfl (ov_pick_true rfl (guard_eq rfl hc2) rfl) ?_))))))
   exact WL.nil ⟨Sub.cons' rfl (congrArg Value.bool (Option.some.inj hm)) (Sub.dropn 7 rfl), fun _ s => s⟩
  replace hm := ite_f hc2 e4
  refine wy hc2 rfl (ov_move rfl rfl) ?_
  have rl1 : RL H (encInt .i64) ([1, 2, 3] : List Int) [(.int .i64 1), (.int .i64 2), (.int .i64 3)] := RL.cons (cs := [(.int .i64 1)]) (xs := [(.int .i64 2), (.int .i64 3)]) rfl (RL.cons (cs := [(.int .i64 2)]) (xs := [(.int .i64 3)]) rfl (RL.cons (cs := [(.int .i64 3)]) (xs := []) rfl (RL.nil _ _)))
  refine WL.step (Runs.yes rfl rfl rfl hc2) rfl rfl (os_buildSlice (cs := [(.int .i64 1), (.int .i64 2), (.int .i64 3)]) (E := 3) (sz := 1) rfl rfl (fun _ => by kernel_rfl) rfl (by decide) (fun b2 => ?_))
  refine WL.held rl1 (fun H1 hc3 hle1 h1 => ?_)
  replace hG := hG.mono hle1
  obtain ⟨r2, e5, hm⟩ := bind_some hm
  refine WL.quiet (Runs.yes rfl rfl rfl hc2) rfl rfl (oq_con (r := (.int .i64 r2)) call122 rfl rfl (fun w' s => ⟨_, (lexer_run_con p_s ([1, 2, 3] : List Int) (some ⟨b2, 0, none⟩) 3  w' H1 s.hold h1 hc3 hG r2 e5)⟩)) ?_
  refine wy hc2 rfl (ov_move rfl rfl) ?_
  refine wy hc2 rfl (ov_len_string underlying9 rfl rfl) ?_
  refine wy hc2 rfl (ov_neq rfl rfl rfl) ?_
  refine V rfl (ov_pick_false rfl (guard_eq rfl hc2) rfl) ?_
  exact WL.nil ⟨Sub.cons' rfl (congrArg Value.bool (Option.some.inj hm)) (Sub.dropn 7 rfl), fun _ s => (s.heap hle1)⟩
 refine Va rfl (WL.nil (tn ?_))
 refine WP.cond rfl (fun hc4 => ?_) (fun hc4 => ?_)
 ·
  replace hm := ite_t hc4 hm
  refine WP.seq (WP.region (Va rfl (WL.nil (tn (WP.ret (block_ret (then_ret ?_)))))))
  obtain rfl := Option.some.inj hm
  refine retQ_ret results111 (Res.tmp rfl Res.nil) rfl (fun w' s => ⟨s.below, ?_⟩)
  exact rfl
 replace hm := ite_f hc4 hm
 refine WP.seq (WP.region (Vm rfl (V rfl (ov_len_string underlying9 rfl rfl) (V rfl (ov_gtr rfl rfl rfl) (Va rfl (WL.nil (tn ?_)))))))
 refine WP.cond rfl (fun hc5 => ?_) (fun hc5 => ?_)
 ·
  replace hm := ite_t hc5 hm
  refine WP.seq (WP.region (Va rfl (WL.nil (tn (WP.ret (block_ret (then_ret ?_)))))))
  obtain rfl := Option.some.inj hm
  refine retQ_ret results111 (Res.tmp rfl Res.nil) rfl (fun w' s => ⟨s.below, ?_⟩)
  exact rfl
 replace hm := ite_f hc5 hm
 refine WP.skip (bn (tn (WP.seq (WP.region (Va rfl (WL.nil (tn (WP.ret ?_))))))))
 obtain rfl := Option.some.inj hm
 refine retQ_ret results111 (Res.tmp rfl Res.nil) rfl (fun w' s => ⟨s.below, ?_⟩)
 exact rfl
theorem program_alone_con (p_n : Node) (ao1 : Option Addr) (cap1 : Nat) (ao2 : Option Addr) (cap2 : Nat) (w : World) (H : Heap) (hH : Le H (hp w)) (h1 : SL H encStroke ao1 p_n.step.strokes) (hc1 : p_n.step.strokes.length ≤ cap1) (h2 : SL H encNode ao2 p_n.nodes) (hc2 : p_n.nodes.length ≤ cap2) (hG : Glob H) (r : Int) (hm : program_alone p_n = some r) :
  Con prog 70 [(.agg #[(.int .i64 p_n.kind), (.slice ao1 p_n.step.strokes.length cap1), (.int .i64 p_n.step.wait), (.int .i64 p_n.count), (mkS p_n.name), (.slice ao2 p_n.nodes.length cap2)])] w H (fun v _ => v = (.int .i64 r)) := by
 unfold program_alone at hm
 refine con_of hH func70 rfl 94 ntmps70 rfl ?_
 refine WP.seq (WP.region ?_)
 refine ws rfl (os_box (cs := [(.int .i64 p_n.kind), (.slice ao1 p_n.step.strokes.length cap1), (.int .i64 p_n.step.wait), (.int .i64 p_n.count), (mkS p_n.name), (.slice ao2 p_n.nodes.length cap2)]) rfl rfl rfl (fun b1 => ?_))
 refine Va rfl (WL.nil (tn (WP.seq (WP.region (V rfl (ov_fieldAddr underlying28 rfl rfl rfl sizeOf25 rfl rfl) (V rfl (ov_fieldAddr underlying25 rfl rfl rfl sizeOf23 rfl rfl) (Vl 0 isAgg23 rfl (V rfl (ov_len_slice underlying23 rfl rfl) (V rfl (ov_gtr rfl rfl rfl) (Vm rfl ?_))))))))))
 refine WL.cut_bool 5 14 (x := ((decide ((p_n.step.strokes.length : Int) > 0)) || (p_n.step.wait != 0))) ?_ ?_
 ·
  rcases Bool.eq_false_or_eq_true (decide ((p_n.step.strokes.length : Int) > 0)) with hc3 | hc3
  ·
   refine Vi rfl (Idle.no rfl rfl rfl hc3) (Vi rfl (Idle.no rfl rfl rfl hc3) (Vi rfl (Idle.no rfl rfl rfl hc3) (Vi rfl (Idle.no rfl rfl rfl hc3) (V rfl (ov_pick_true rfl (guard_eq rfl hc3) rfl) ?_))))
   exact WL.nil ⟨Sub.cons' rfl (congrArg Value.bool (orT hc3)) (Sub.dropn 5 rfl), fun _ s => s⟩
  refine wy hc3 rfl (ov_fieldAddr underlying28 rfl rfl rfl sizeOf25 rfl rfl) ?_
  refine wy hc3 rfl (ov_fieldAddr underlying25 rfl rfl rfl sizeOf3 rfl rfl) ?_
  refine wy hc3 rfl (ov_load_box (i := 0) isAgg3 rfl rfl rfl rfl) ?_
  refine wy hc3 rfl (ov_neq rfl rfl rfl) ?_
  refine V rfl (ov_pick_false rfl (guard_eq rfl hc3) rfl) ?_
  exact WL.nil ⟨Sub.cons' rfl (congrArg Value.bool (orF hc3)) (Sub.dropn 5 rfl), fun _ s => s⟩
 refine Va rfl (WL.nil (tn ?_))
 obtain ⟨k1, hk1, hm⟩ := joinK_some hm
 refine WP.seq_join (fun g' S' => Sub [(1000000007, (.bool false))] g' ∧ (∀ w', S' w' → St w H [] H w') ∧ k1 = some r) ?_ ?_
 ·
  refine WP.seq (WP.region (V rfl (ov_fieldAddr underlying28 rfl rfl rfl sizeOf3 rfl rfl) (Vl 0 isAgg3 rfl (WL.nil (tn (WP.block (WP.seq (WP.region (V rfl (ov_eql rfl rfl rfl) (Va rfl (WL.nil (tn ?_))))))))))))
  refine WP.cond rfl (fun hc4 => ?_) (fun hc4 => ?_)
  ·
   replace hm := ite_t hc4 hm
   refine WP.seq (WP.seq (WP.region (V rfl (ov_fieldAddr underlying28 rfl rfl rfl sizeOf26 rfl rfl) (Vl 0 isAgg26 rfl (V rfl (ov_len_slice underlying26 rfl rfl) (V rfl (ov_gtr rfl rfl rfl) (Vm rfl ?_)))))))
   refine WL.cut_bool 4 27 (x := ((decide ((p_n.nodes.length : Int) > 0)) || (p_n.count != 0))) ?_ ?_
   ·
    rcases Bool.eq_false_or_eq_true (decide ((p_n.nodes.length : Int) > 0)) with hc5 | hc5
    ·
     refine Vi rfl (Idle.no rfl rfl rfl hc5) (Vi rfl (Idle.no rfl rfl rfl hc5) (Vi rfl (Idle.no rfl rfl rfl hc5) (V rfl (ov_pick_true rfl (guard_eq rfl hc5) rfl) ?_)))
     exact WL.nil ⟨Sub.cons' rfl (congrArg Value.bool (orT hc5)) (Sub.dropn 4 rfl), fun _ s => s⟩
    refine wy hc5 rfl (ov_fieldAddr underlying28 rfl rfl rfl sizeOf3 rfl rfl) ?_
    refine wy hc5 rfl (ov_load_box (i := 0) isAgg3 rfl rfl rfl rfl) ?_
    refine wy hc5 rfl (ov_neq rfl rfl rfl) ?_
    refine V rfl (ov_pick_false rfl (guard_eq rfl hc5) rfl) ?_
    exact WL.nil ⟨Sub.cons' rfl (congrArg Value.bool (orF hc5)) (Sub.dropn 4 rfl), fun _ s => s⟩
   refine Vm rfl ?_
   refine WL.cut_bool 4 32 (x := (((decide ((p_n.nodes.length : Int) > 0)) || (p_n.count != 0)) || (!(p_n.name == [])))) ?_ ?_
   ·
    rcases Bool.eq_false_or_eq_true ((decide ((p_n.nodes.length : Int) > 0)) || (p_n.count != 0)) with hc6 | hc6
    ·
     refine Vi rfl (Idle.no rfl rfl rfl hc6) (Vi rfl (Idle.no rfl rfl rfl hc6) (Vi rfl (Idle.no rfl rfl rfl hc6) (V rfl (ov_pick_true rfl (guard_eq rfl hc6) rfl) ?_)))
     exact WL.nil ⟨Sub.cons' rfl (congrArg Value.bool (orT hc6)) (Sub.dropn 4 rfl), fun _ s => s⟩
    refine wy hc6 rfl (ov_fieldAddr underlying28 rfl rfl rfl sizeOf9 rfl rfl) ?_
    refine wy hc6 rfl (ov_load_box (i := 0) isAgg9 rfl rfl rfl rfl) ?_
    refine wy hc6 rfl (ov_sneq rfl rfl rfl) ?_
    refine V rfl (ov_pick_false rfl (guard_eq rfl hc6) rfl) ?_
    exact WL.nil ⟨Sub.cons' rfl (congrArg Value.bool (orF hc6)) (Sub.dropn 4 rfl), fun _ s => s⟩
   refine WL.nil (tn ?_)
   refine WP.cond rfl (fun hc7 => ?_) (fun hc7 => ?_)
   ·
    replace hm := ite_t hc7 hm
    refine WP.seq (WP.region (Va rfl (WL.nil (tn (WP.ret (then_ret (block_ret (then_ret ?_))))))))
    obtain rfl := Option.some.inj hm
    refine retQ_ret results70 (Res.tmp rfl Res.nil) rfl (fun w' s => ⟨s.below, ?_⟩)
    exact rfl
   replace hm := ite_f hc7 hm
   refine WP.skip (tn (WP.seq (WP.region (V rfl (ov_fieldAddr underlying28 rfl rfl rfl sizeOf25 rfl rfl) (V rfl (ov_load_boxes (i := 0) (vs := [(.slice ao1 p_n.step.strokes.length cap1), (.int .i64 p_n.step.wait)]) isAgg25 sizeOf25 rfl rfl rfl rfl (part_of rfl)) ?_)))))
   obtain ⟨r1, e1, hm⟩ := bind_some hm
   refine wo rfl (oq_con (r := (.int .i64 r1)) call102 rfl rfl (fun w' s => ⟨_, (stroke_CheckStep_con p_n.step ao1 cap1  w' H s.hold h1 hc1 hG r1 e1)⟩)) ?_
   refine Va rfl (WL.nil (tn (WP.ret (block_ret (then_ret ?_)))))
   obtain rfl := Option.some.inj hm
   refine retQ_ret results70 (Res.tmp rfl Res.nil) rfl (fun w' s => ⟨s.below, ?_⟩)
   exact rfl
  replace hm := ite_f hc4 hm
  refine WP.seq (WP.region (V rfl (ov_eql rfl rfl rfl) (Va rfl (WL.nil (tn ?_)))))
  refine WP.cond rfl (fun hc8 => ?_) (fun hc8 => ?_)
  ·
   replace hm := ite_t hc8 hm
   refine WP.seq (WP.region (V rfl (ov_fieldAddr underlying28 rfl rfl rfl sizeOf26 rfl rfl) (Vl 0 isAgg26 rfl (V rfl (ov_len_slice underlying26 rfl rfl) (V rfl (ov_eql rfl rfl rfl) (Vm rfl ?_))))))
   refine WL.cut_bool 2 44 (x := (((p_n.nodes.length : Int) == 0) || ((decide ((p_n.step.strokes.length : Int) > 0)) || (p_n.step.wait != 0)))) ?_ ?_
   ·
    rcases Bool.eq_false_or_eq_true ((p_n.nodes.length : Int) == 0) with hc9 | hc9
    ·
     refine Vi rfl (Idle.no rfl rfl rfl hc9) (V rfl (ov_pick_true rfl (guard_eq rfl hc9) rfl) ?_)
     exact WL.nil ⟨Sub.cons' rfl (congrArg Value.bool (orT hc9)) (Sub.dropn 2 rfl), fun _ s => s⟩
    refine wy hc9 rfl (ov_move rfl rfl) ?_
    refine V rfl (ov_pick_false rfl (guard_eq rfl hc9) rfl) ?_
    exact WL.nil ⟨Sub.cons' rfl (congrArg Value.bool (orF hc9)) (Sub.dropn 2 rfl), fun _ s => s⟩
   refine Vm rfl ?_
   refine WL.cut_bool 4 49 (x := ((((p_n.nodes.length : Int) == 0) || ((decide ((p_n.step.strokes.length : Int) > 0)) || (p_n.step.wait != 0))) || (p_n.count != 0))) ?_ ?_
   ·
    rcases Bool.eq_false_or_eq_true (((p_n.nodes.length : Int) == 0) || ((decide ((p_n.step.strokes.length : Int) > 0)) || (p_n.step.wait != 0))) with hc10 | hc10
    ·
     refine Vi rfl (Idle.no rfl rfl rfl hc10) (Vi rfl (Idle.no rfl rfl rfl hc10) (Vi rfl (Idle.no rfl rfl rfl hc10) (V rfl (ov_pick_true rfl (guard_eq rfl hc10) rfl) ?_)))
     exact WL.nil ⟨Sub.cons' rfl (congrArg Value.bool (orT hc10)) (Sub.dropn 4 rfl), fun _ s => s⟩
    refine wy hc10 rfl (ov_fieldAddr underlying28 rfl rfl rfl sizeOf3 rfl rfl) ?_
    refine wy hc10 rfl (ov_load_box (i := 0) isAgg3 rfl rfl rfl rfl) ?_
    refine wy hc10 rfl (ov_neq rfl rfl rfl) ?_
    refine V rfl (ov_pick_false rfl (guard_eq rfl hc10) rfl) ?_
    exact WL.nil ⟨Sub.cons' rfl (congrArg Value.bool (orF hc10)) (Sub.dropn 4 rfl), fun _ s => s⟩
   refine Vm rfl ?_
   refine WL.cut_bool 4 54 (x := (((((p_n.nodes.length : Int) == 0) || ((decide ((p_n.step.strokes.length : Int) > 0)) || (p_n.step.wait != 0))) || (p_n.count != 0)) || (!(p_n.name == [])))) ?_ ?_
   ·
    rcases Bool.eq_false_or_eq_true ((((p_n.nodes.length : Int) == 0) || ((decide ((p_n.step.strokes.length : Int) > 0)) || (p_n.step.wait != 0))) || (p_n.count != 0)) with hc11 | hc11
    ·
     refine Vi rfl (Idle.no rfl rfl rfl hc11) (Vi rfl (Idle.no rfl rfl rfl hc11) (Vi rfl (Idle.no rfl rfl rfl hc11) (V rfl (ov_pick_true rfl (guard_eq rfl hc11) rfl) ?_)))
     exact WL.nil ⟨Sub.cons' rfl (congrArg Value.bool (orT hc11)) (Sub.dropn 4 rfl), fun _ s => s⟩
    refine wy hc11 rfl (ov_fieldAddr underlying28 rfl rfl rfl sizeOf9 rfl rfl) ?_
    refine wy hc11 rfl (ov_load_box (i := 0) isAgg9 rfl rfl rfl rfl) ?_
    refine wy hc11 rfl (ov_sneq rfl rfl rfl) ?_
    refine V rfl (ov_pick_false rfl (guard_eq rfl hc11) rfl) ?_
    exact WL.nil ⟨Sub.cons' rfl (congrArg Value.bool (orF hc11)) (Sub.dropn 4 rfl), fun _ s => s⟩
   refine WL.nil (tn ?_)
   refine WP.cond rfl (fun hc12 => ?_) (fun hc12 => ?_)
   ·
    replace hm := ite_t hc12 hm
    refine WP.seq (WP.region (Va rfl (WL.nil (tn (WP.ret (block_ret (then_ret ?_)))))))
    obtain rfl := Option.some.inj hm
    refine retQ_ret results70 (Res.tmp rfl Res.nil) rfl (fun w' s => ⟨s.below, ?_⟩)
    exact rfl
   replace hm := ite_f hc12 hm
   refine WP.skip (bn (tn ?_))
   exact ⟨(Sub.all rfl), fun w' s => (s.select [] (by decide) rfl), hm⟩
  replace hm := ite_f hc8 hm
  refine WP.seq (WP.region (V rfl (ov_eql rfl rfl rfl) (Va rfl (WL.nil (tn ?_)))))
  refine WP.cond rfl (fun hc13 => ?_) (fun hc13 => ?_)
  ·
   replace hm := ite_t hc13 hm
   refine WP.seq (WP.seq (WP.region (V rfl (ov_fieldAddr underlying28 rfl rfl rfl sizeOf26 rfl rfl) (Vl 0 isAgg26 rfl (V rfl (ov_len_slice underlying26 rfl rfl) (V rfl (ov_neq rfl rfl rfl) (Vm rfl ?_)))))))
   refine WL.cut_bool 2 63 (x := (((p_n.nodes.length : Int) != 1) || ((decide ((p_n.step.strokes.length : Int) > 0)) || (p_n.step.wait != 0)))) ?_ ?_
   ·
    rcases Bool.eq_false_or_eq_true ((p_n.nodes.length : Int) != 1) with hc14 | hc14
    ·
     refine Vi rfl (Idle.no rfl rfl rfl hc14) (V rfl (ov_pick_true rfl (guard_eq rfl hc14) rfl) ?_)
     exact WL.nil ⟨Sub.cons' rfl (congrArg Value.bool (orT hc14)) (Sub.dropn 2 rfl), fun _ s => s⟩
    refine wy hc14 rfl (ov_move rfl rfl) ?_
    refine V rfl (ov_pick_false rfl (guard_eq rfl hc14) rfl) ?_
    exact WL.nil ⟨Sub.cons' rfl (congrArg Value.bool (orF hc14)) (Sub.dropn 2 rfl), fun _ s => s⟩
   refine Vm rfl ?_
   refine WL.cut_bool 4 68 (x := ((((p_n.nodes.length : Int) != 1) || ((decide ((p_n.step.strokes.length : Int) > 0)) || (p_n.step.wait != 0))) || (!(p_n.name == [])))) ?_ ?_
   ·
    rcases Bool.eq_false_or_eq_true (((p_n.nodes.length : Int) != 1) || ((decide ((p_n.step.strokes.length : Int) > 0)) || (p_n.step.wait != 0))) with hc15 | hc15
    ·
     refine Vi rfl (Idle.no rfl rfl rfl hc15) (Vi rfl (Idle.no rfl rfl rfl hc15) (Vi rfl (Idle.no rfl rfl rfl hc15) (V rfl (ov_pick_true rfl (guard_eq rfl hc15) rfl) ?_)))
     exact WL.nil ⟨Sub.cons' rfl (congrArg Value.bool (orT hc15)) (Sub.dropn 4 rfl), fun _ s => s⟩
    refine wy hc15 rfl (ov_fieldAddr underlying28 rfl rfl rfl sizeOf9 rfl rfl) ?_
    refine wy hc15 rfl (ov_load_box (i := 0) isAgg9 rfl rfl rfl rfl) ?_
    refine wy hc15 rfl (ov_sneq rfl rfl rfl) ?_
    refine V rfl (ov_pick_false rfl (guard_eq rfl hc15) rfl) ?_
    exact WL.nil ⟨Sub.cons' rfl (congrArg Value.bool (orF hc15)) (Sub.dropn 4 rfl), fun _ s => s⟩
   refine WL.nil (tn ?_)
   refine WP.cond rfl (fun hc16 => ?_) (fun hc16 => ?_)
   ·
    replace hm := ite_t hc16 hm
    refine WP.seq (WP.region (Va rfl (WL.nil (tn (WP.ret (then_ret (block_ret (then_ret ?_))))))))
    obtain rfl := Option.some.inj hm
    refine retQ_ret results70 (Res.tmp rfl Res.nil) rfl (fun w' s => ⟨s.below, ?_⟩)
    exact rfl
   replace hm := ite_f hc16 hm
   refine WP.skip (tn (WP.seq (WP.region (V rfl (ov_fieldAddr underlying28 rfl rfl rfl sizeOf3 rfl rfl) (Vl 0 isAgg3 rfl (V rfl (ov_lss rfl rfl rfl) (Vm rfl ?_)))))))
   refine WL.cut_bool 4 76 (x := ((decide (p_n.count < 1)) || (decide (p_n.count > 64)))) ?_ ?_
   ·
    rcases Bool.eq_false_or_eq_true (decide (p_n.count < 1)) with hc17 | hc17
    ·
     refine Vi rfl (Idle.no rfl rfl rfl hc17) (Vi rfl (Idle.no rfl rfl rfl hc17) (Vi rfl (Idle.no rfl rfl rfl hc17) (V rfl (ov_pick_true rfl (guard_eq rfl hc17) rfl) ?_)))
     exact WL.nil ⟨Sub.cons' rfl (congrArg Value.bool (orT hc17)) (Sub.dropn 4 rfl), fun _ s => s⟩
    refine wy hc17 rfl (ov_fieldAddr underlying28 rfl rfl rfl sizeOf3 rfl rfl) ?_
    refine wy hc17 rfl (ov_load_box (i := 0) isAgg3 rfl rfl rfl rfl) ?_
    refine wy hc17 rfl (ov_gtr rfl rfl rfl) ?_
    refine V rfl (ov_pick_false rfl (guard_eq rfl hc17) rfl) ?_
    exact WL.nil ⟨Sub.cons' rfl (congrArg Value.bool (orF hc17)) (Sub.dropn 4 rfl), fun _ s => s⟩
   refine WL.nil (tn ?_)
   refine WP.cond rfl (fun hc18 => ?_) (fun hc18 => ?_)
   ·
    replace hm := ite_t hc18 hm
    refine WP.seq (WP.region (Va rfl (WL.nil (tn (WP.ret (block_ret (then_ret ?_)))))))
    obtain rfl := Option.some.inj hm
    refine retQ_ret results70 (Res.tmp rfl Res.nil) rfl (fun w' s => ⟨s.below, ?_⟩)
    exact rfl
   replace hm := ite_f hc18 hm
   refine WP.skip (bn (tn ?_))
   exact ⟨(Sub.all rfl), fun w' s => (s.select [] (by decide) rfl), hm⟩
  replace hm := ite_f hc13 hm
  refine WP.seq (WP.region (V rfl (ov_eql rfl rfl rfl) (Va rfl (WL.nil (tn ?_)))))
  refine WP.cond rfl (fun hc19 => ?_) (fun hc19 => ?_)
  ·
   replace hm := ite_t hc19 hm
   refine WP.seq (WP.seq (WP.region (V rfl (ov_fieldAddr underlying28 rfl rfl rfl sizeOf26 rfl rfl) (Vl 0 isAgg26 rfl (V rfl (ov_len_slice underlying26 rfl rfl) (V rfl (ov_neq rfl rfl rfl) (Vm rfl ?_)))))))
   refine WL.cut_bool 2 85 (x := (((p_n.nodes.length : Int) != 2) || ((decide ((p_n.step.strokes.length : Int) > 0)) || (p_n.step.wait != 0)))) ?_ ?_
   ·
    rcases Bool.eq_false_or_eq_true ((p_n.nodes.length : Int) != 2) with hc20 | hc20
    ·
     refine Vi rfl (Idle.no rfl rfl rfl hc20) (V rfl (ov_pick_true rfl (guard_eq rfl hc20) rfl) ?_)
     exact WL.nil ⟨Sub.cons' rfl (congrArg Value.bool (orT hc20)) (Sub.dropn 2 rfl), fun _ s => s⟩
    refine wy hc20 rfl (ov_move rfl rfl) ?_
    refine V rfl (ov_pick_false rfl (guard_eq rfl hc20) rfl) ?_
    exact WL.nil ⟨Sub.cons' rfl (congrArg Value.bool (orF hc20)) (Sub.dropn 2 rfl), fun _ s => s⟩
   refine Vm rfl ?_
   refine WL.cut_bool 4 90 (x := ((((p_n.nodes.length : Int) != 2) || ((decide ((p_n.step.strokes.length : Int) > 0)) || (p_n.step.wait != 0))) || (p_n.count != 0))) ?_ ?_
   ·
    rcases Bool.eq_false_or_eq_true (((p_n.nodes.length : Int) != 2) || ((decide ((p_n.step.strokes.length : Int) > 0)) || (p_n.step.wait != 0))) with hc21 | hc21
    ·
     refine Vi rfl (Idle.no rfl rfl rfl hc21) (Vi rfl (Idle.no rfl rfl rfl hc21) (Vi rfl (Idle.no rfl rfl rfl hc21) (V rfl (ov_pick_true rfl (guard_eq rfl hc21) rfl) ?_)))
     exact WL.nil ⟨Sub.cons' rfl (congrArg Value.bool (orT hc21)) (Sub.dropn 4 rfl), fun _ s => s⟩
    refine wy hc21 rfl (ov_fieldAddr underlying28 rfl rfl rfl sizeOf3 rfl rfl) ?_
    refine wy hc21 rfl (ov_load_box (i := 0) isAgg3 rfl rfl rfl rfl) ?_
    refine wy hc21 rfl (ov_neq rfl rfl rfl) ?_
    refine V rfl (ov_pick_false rfl (guard_eq rfl hc21) rfl) ?_
    exact WL.nil ⟨Sub.cons' rfl (congrArg Value.bool (orF hc21)) (Sub.dropn 4 rfl), fun _ s => s⟩
   refine WL.nil (tn ?_)
   refine WP.cond rfl (fun hc22 => ?_) (fun hc22 => ?_)
   ·
    replace hm := ite_t hc22 hm
    refine WP.seq (WP.region (Va rfl (WL.nil (tn (WP.ret (then_ret (block_ret (then_ret ?_))))))))
    obtain rfl := Option.some.inj hm
    refine retQ_ret results70 (Res.tmp rfl Res.nil) rfl (fun w' s => ⟨s.below, ?_⟩)
    exact rfl
   replace hm := ite_f hc22 hm
   refine WP.skip (tn (WP.seq (WP.region (V rfl (ov_fieldAddr underlying28 rfl rfl rfl sizeOf9 rfl rfl) (Vl 0 isAgg9 rfl ?_)))))
   obtain ⟨r2, e2, hm⟩ := bind_some hm
   refine wo rfl (oq_con (r := (.int .i64 r2)) call111 rfl rfl (fun w' s => ⟨_, (lexer_Word_con p_n.name  w' H s.hold hG r2 e2)⟩)) ?_
   refine Va rfl (WL.nil (tn (WP.ret (block_ret (then_ret ?_)))))
   obtain rfl := Option.some.inj hm
   refine retQ_ret results70 (Res.tmp rfl Res.nil) rfl (fun w' s => ⟨s.below, ?_⟩)
   exact rfl
  replace hm := ite_f hc19 hm
  refine WP.seq (WP.region (Va rfl (WL.nil (tn (WP.ret (block_ret (then_ret ?_)))))))
  obtain rfl := Option.some.inj hm
  refine retQ_ret results70 (Res.tmp rfl Res.nil) rfl (fun w' s => ⟨s.below, ?_⟩)
  exact rfl
 rintro g' S' ⟨hsub1, hS1, hm⟩
 refine WP.sub hsub1 (WP.weaken hS1 ?_)
 replace hm := hk1.symm.trans hm
 refine WP.seq (WP.region (Va rfl (WL.nil (tn (WP.ret ?_)))))
 obtain rfl := Option.some.inj hm
 refine retQ_ret results70 (Res.tmp rfl Res.nil) rfl (fun w' s => ⟨s.below, ?_⟩)
 exact rfl
theorem program_Check_con (p_n : Node) (ao1 : Option Addr) (cap1 : Nat) (ao2 : Option Addr) (cap2 : Nat) (w : World) (H : Heap) (hH : Le H (hp w)) (h1 : SL H encStroke ao1 p_n.step.strokes) (hc1 : p_n.step.strokes.length ≤ cap1) (h2 : SL H encNode ao2 p_n.nodes) (hc2 : p_n.nodes.length ≤ cap2) (hG : Glob H) (r : Int) (hm : program_Check p_n = some r) :
  Con prog 31 [(.agg #[(.int .i64 p_n.kind), (.slice ao1 p_n.step.strokes.length cap1), (.int .i64 p_n.step.wait), (.int .i64 p_n.count), (mkS p_n.name), (.slice ao2 p_n.nodes.length cap2)])] w H (fun v _ => v = (.int .i64 r)) := by
 unfold program_Check at hm
 refine con_of hH func31 rfl 18 ntmps31 rfl ?_
 refine WP.seq (WP.region ?_)
 refine ws rfl (os_box (cs := [(.int .i64 p_n.kind), (.slice ao1 p_n.step.strokes.length cap1), (.int .i64 p_n.step.wait), (.int .i64 p_n.count), (mkS p_n.name), (.slice ao2 p_n.nodes.length cap2)]) rfl rfl rfl (fun b1 => ?_))
 refine ws rfl (os_alloc (cs := [(.int .i64 0)]) zeroValue29 rfl rfl (fun b2 => ?_))
 refine WL.nil (tn (WP.seq (WP.seq (WP.region (V rfl (ov_load_whole (i := 1) isAgg28 sizeOf28 rfl rfl rfl rfl) ?_)))))
 obtain ⟨r1, e1, hm⟩ := bind_some hm
 refine wo rfl (oq_con (r := (.bool r1)) call68 rfl rfl (fun w' s => ⟨_, (program_light_con p_n ao1 cap1 ao2 cap2  w' H s.hold h1 hc1 h2 hc2 hG r1 e1)⟩)) ?_
 refine V rfl (ov_not rfl rfl) (WL.nil (tn ?_))
 refine WP.cond rfl (fun hc3 => ?_) (fun hc3 => ?_)
 ·
  replace hm := ite_t hc3 hm
  refine WP.seq (WP.region ?_)
  refine ws0 rfl (os_store (i := 0) (vs := [(.int .i64 5)]) (cs' := [(.int .i64 5)]) sizeOf29 rfl rfl rfl rfl rfl rfl rfl rfl rfl ?_)
  refine WL.nil (tn (WP.ret (then_ret ?_)))
  obtain rfl := Option.some.inj hm
  refine retQ_ret results31 (Res.cell rfl (box_load (i := 0) isAgg29 rfl) Res.nil) rfl (fun w' s => ⟨s.below, ?_⟩)
  exact rfl
 replace hm := ite_f hc3 hm
 refine WP.skip (tn (WP.seq (WP.seq (WP.region (V rfl (ov_load_whole (i := 1) isAgg28 sizeOf28 rfl rfl rfl rfl) ?_)))))
 refine ws rfl (os_inline (cap := []) (vs := [(.agg #[(.int .i64 p_n.kind), (.slice ao1 p_n.step.strokes.length cap1), (.int .i64 p_n.step.wait), (.int .i64 p_n.count), (mkS p_n.name), (.slice ao2 p_n.nodes.length cap2)])]) call69 rfl rfl rfl func69 rfl 4 ntmps69 rfl (fun w' s => ?_))
 refine WP.seq (WP.region ?_)
 refine ws rfl (os_box (cs := [(.int .i64 p_n.kind), (.slice ao1 p_n.step.strokes.length cap1), (.int .i64 p_n.step.wait), (.int .i64 p_n.count), (mkS p_n.name), (.slice ao2 p_n.nodes.length cap2)]) rfl rfl rfl (fun b3 => ?_))
 refine Va rfl (WL.nil (tn (WP.seq (WP.region (V rfl (ov_makeFunc' (first := []) rfl rfl rfl) (Va rfl (WL.nil (tn (WP.ret ?_)))))))))
 refine retQ_ret (v := (.func (.func 109) #[] #[(pB b3 0)])) results69 (Res.tmp rfl Res.nil) rfl (fun w' s => ⟨_, ?_, s⟩)
 refine WL.nil (tn (WP.block ?_))
 refine WP.box_held (fun H1 hle1 hc4 => ?_)
 have hb1 : RowAt H1 (some ⟨b3, 0, none⟩) 0 [(.int .i64 p_n.kind), (.slice ao1 p_n.step.strokes.length cap1), (.int .i64 p_n.step.wait), (.int .i64 p_n.count), (mkS p_n.name), (.slice ao2 p_n.nodes.length cap2)] := rowAt_box hc4
 replace h1 := h1.mono hle1
 replace h2 := h2.mono hle1
 replace hG := hG.mono hle1
 obtain ⟨r3, e3, hm⟩ := bind_some hm
 refine WP.rangeC rfl (fun l1 D1 R1 hr1 w2 hs2 => ?_)
 have hY1 : Yields prog w H (.func (.yield l1) #[] #[]) encSeqNode (program_Check_rng1) (fun (q1 : Int) (H2 : Heap) (ms : List Ent) => Le H1 H2 ∧ ms = [.obj l1 (R1 .ready none), .obj D1 (.deferred (some [])), .blk b2 29 [(.int .i64 q1)], .blk b1 28 [(.int .i64 p_n.kind), (.slice ao1 p_n.step.strokes.length cap1), (.int .i64 p_n.step.wait), (.int .i64 p_n.count), (mkS p_n.name), (.slice ao2 p_n.nodes.length cap2)]]) (fun (q1 : Int) (H2 : Heap) (ms : List Ent) => Le H1 H2 ∧ ms = [.obj l1 (R1 .done (some .ret)), .obj D1 (.deferred (some [])), .blk b2 29 [(.int .i64 q1)], .blk b1 28 [(.int .i64 p_n.kind), (.slice ao1 p_n.step.strokes.length cap1), (.int .i64 p_n.step.wait), (.int .i64 p_n.count), (mkS p_n.name), (.slice ao2 p_n.nodes.length cap2)]]) := by
  refine ⟨?_, ?_, _, rfl, ?_⟩
  ·
   rintro q1 Ha Hb msx k ⟨h0, rfl⟩; exact ⟨h0.trans k, rfl⟩
  ·
   rintro q1 Ha Hb msx k ⟨h0, rfl⟩; exact ⟨h0.trans k, rfl⟩
  ·
   rintro q1 xx1 bq1 q2 vs H2 ms fr1 hm ⟨ao3, cap3, ao4, cap4, rfl, h3, hc5, h4, hc6⟩ ⟨hle2, rfl⟩ w1 hs1
   unfold program_Check_rng1 at hm
   replace h1 := h1.mono hle2
   replace h2 := h2.mono hle2
   replace hG := hG.mono hle2
   replace hb1 := hb1.mono hle2
   refine yields_call (i := 0) (vs := [(.int .i64 xx1.1), (.agg #[(.int .i64 xx1.2.kind), (.slice ao3 xx1.2.step.strokes.length cap3), (.int .i64 xx1.2.step.wait), (.int .i64 xx1.2.count), (mkS xx1.2.name), (.slice ao4 xx1.2.nodes.length cap4)])]) (b := bq1) (q := q2) (T := (fun (q1 : Int) (H2 : Heap) (ms : List Ent) => Le H1 H2 ∧ ms = [.obj l1 (R1 .ready none), .obj D1 (.deferred (some [])), .blk b2 29 [(.int .i64 q1)], .blk b1 28 [(.int .i64 p_n.kind), (.slice ao1 p_n.step.strokes.length cap1), (.int .i64 p_n.step.wait), (.int .i64 p_n.count), (mkS p_n.name), (.slice ao2 p_n.nodes.length cap2)]])) (T' := (fun (q1 : Int) (H2 : Heap) (ms : List Ent) => Le H1 H2 ∧ ms = [.obj l1 (R1 .done (some .ret)), .obj D1 (.deferred (some [])), .blk b2 29 [(.int .i64 q1)], .blk b1 28 [(.int .i64 p_n.kind), (.slice ao1 p_n.step.strokes.length cap1), (.int .i64 p_n.step.wait), (.int .i64 p_n.count), (mkS p_n.name), (.slice ao2 p_n.nodes.length cap2)]])) hr1 hs1 rfl rfl rfl ?_
   refine WP.weaken (S₁ := St w H (.obj l1 (R1 .ready none) :: .obj D1 (.deferred (some [])) :: .blk b2 29 [(.int .i64 q1)] :: .blk b1 28 [(.int .i64 p_n.kind), (.slice ao1 p_n.step.strokes.length cap1), (.int .i64 p_n.step.wait), (.int .i64 p_n.count), (mkS p_n.name), (.slice ao2 p_n.nodes.length cap2)] :: fr1) H2) (fun _ s => s) ?_
   refine WP.region ?_
   refine ws rfl (os_alloc (cs := [(.int .i64 0), (.slice none 0 0), (.int .i64 0), (.int .i64 0), (mkS []), (.slice none 0 0)]) zeroValue28 rfl rfl (fun b4 => ?_))
   refine ws0 rfl (os_store (i := 0) (vs := [(.int .i64 xx1.2.kind), (.slice ao3 xx1.2.step.strokes.length cap3), (.int .i64 xx1.2.step.wait), (.int .i64 xx1.2.count), (mkS xx1.2.name), (.slice ao4 xx1.2.nodes.length cap4)]) (cs' := [(.int .i64 xx1.2.kind), (.slice ao3 xx1.2.step.strokes.length cap3), (.int .i64 xx1.2.step.wait), (.int .i64 xx1.2.count), (mkS xx1.2.name), (.slice ao4 xx1.2.nodes.length cap4)]) sizeOf28 rfl rfl rfl rfl rfl rfl rfl rfl rfl ?_)
   refine WL.nil (tn ?_)
   refine begin_of (i := 1) rfl ?_
   refine WP.block (WP.seq (WP.region (V rfl (ov_load_whole (i := 0) isAgg28 sizeOf28 rfl rfl rfl rfl) ?_)))
   obtain ⟨r2, e2, hm⟩ := bind_some hm
   refine wo rfl (oq_con (r := (.int .i64 r2)) call70 rfl rfl (fun w' s => ⟨_, (program_alone_con xx1.2 ao3 cap3 ao4 cap4  w' H2 s.hold h3 hc5 h4 hc6 hG r2 e2)⟩)) ?_
   refine Va rfl (WL.nil (tn (WP.seq (WP.region (Vm rfl (V rfl (ov_neq rfl rfl rfl) (WL.nil (tn ?_))))))))
   refine WP.cond rfl (fun hc7 => ?_) (fun hc7 => ?_)
   ·
    replace hm := ite_t hc7 hm
    refine WP.seq (WP.region (Vm rfl ?_))
    refine ws0 rfl (os_store (i := 3) (vs := [(.int .i64 r2)]) (cs' := [(.int .i64 r2)]) sizeOf29 rfl rfl rfl rfl rfl rfl rfl rfl rfl ?_)
    refine WL.nil (tn (WP.ret (block_ret ?_)))
    refine round_ret (i := 1) rfl ?_
    obtain ⟨rfl, rfl⟩ := Prod.mk.inj (Option.some.inj hm)
    exact ⟨rfl, H2, [.obj l1 (R1 .done (some .ret)), .obj D1 (.deferred (some [])), .blk b2 29 [(.int .i64 r2)], .blk b1 28 [(.int .i64 p_n.kind), (.slice ao1 p_n.step.strokes.length cap1), (.int .i64 p_n.step.wait), (.int .i64 p_n.count), (mkS p_n.name), (.slice ao2 p_n.nodes.length cap2)]], (Le.refl _), condF ⟨(hle2.trans (Le.refl _)), rfl⟩, fun w' s => (s.selectT 5 [1, 2, 3, 4] (by decide) rfl rfl)⟩
   ·
    replace hm := ite_f hc7 hm
    refine WP.skip (bn ?_)
    refine round_normal (i := 1) rfl ?_
    obtain ⟨rfl, rfl⟩ := Prod.mk.inj (Option.some.inj hm)
    exact ⟨rfl, H2, [.obj l1 (R1 .ready none), .obj D1 (.deferred (some [])), .blk b2 29 [(.int .i64 q1)], .blk b1 28 [(.int .i64 p_n.kind), (.slice ao1 p_n.step.strokes.length cap1), (.int .i64 p_n.step.wait), (.int .i64 p_n.count), (mkS p_n.name), (.slice ao2 p_n.nodes.length cap2)]], (Le.refl _), condT ⟨(hle2.trans (Le.refl _)), rfl⟩, fun w' s => (s.selectT 5 [1, 2, 3, 4] (by decide) rfl rfl)⟩
 have hT1 : TH hY1 0 H1 [.obj l1 (R1 .ready none), .obj D1 (.deferred (some [])), .blk b2 29 [(.int .i64 0)], .blk b1 28 [(.int .i64 p_n.kind), (.slice ao1 p_n.step.strokes.length cap1), (.int .i64 p_n.step.wait), (.int .i64 p_n.count), (mkS p_n.name), (.slice ao2 p_n.nodes.length cap2)]] := ⟨Le.refl _, rfl⟩
 refine ⟨109, [(pB b3 0)], rfl, call109, ?_⟩
 refine Calls.mono ((program_preorder_1_con (program_Check_rng1) hY1 p_n 0 b3 ao1 cap1 ao2 cap2 [] [.obj l1 (R1 .ready none), .obj D1 (.deferred (some [])), .blk b2 29 [(.int .i64 0)], .blk b1 28 [(.int .i64 p_n.kind), (.slice ao1 p_n.step.strokes.length cap1), (.int .i64 p_n.step.wait), (.int .i64 p_n.count), (mkS p_n.name), (.slice ao2 p_n.nodes.length cap2)]] H1 h1 hc1 h2 hc2 hb1 hT1 hG r3 e3) w2 hs2) ?_
 rintro e w3 ⟨rv1, H3, ms1, rfl, hle3, ⟨rfl, tl1, rfl, hT2⟩, hs3⟩
 refine ⟨_, rfl, ?_⟩
 rcases Bool.eq_false_or_eq_true r3.1 with hc8 | hc8
 ·
  replace hm := ite_t hc8 hm
  obtain ⟨hle4, rfl⟩ := cond_t hc8 hT2
  refine ⟨St w H [.obj l1 (R1 .ready none), .obj D1 (.deferred (some [])), .blk b2 29 [(.int .i64 r3.2)], .blk b1 28 [(.int .i64 p_n.kind), (.slice ao1 p_n.step.strokes.length cap1), (.int .i64 p_n.step.wait), (.int .i64 p_n.count), (mkS p_n.name), (.slice ao2 p_n.nodes.length cap2)]] H3, ?_, hs3⟩
  refine after_normal ?_
  refine bn (tn (WP.seq (WP.region ?_)))
  refine ws0 rfl (os_store (i := 1) (vs := [(.int .i64 0)]) (cs' := [(.int .i64 0)]) sizeOf29 rfl rfl rfl rfl rfl rfl rfl rfl rfl ?_)
  refine WL.nil (tn (WP.ret ?_))
  obtain rfl := Option.some.inj hm
  refine retQ_retM (i := 0) rfl results31 (Res.cell rfl (box_load (i := 0) isAgg29 rfl) Res.nil) rfl (fun w' s => ⟨s.below, ?_⟩)
  exact rfl
 replace hm := ite_f hc8 hm
 obtain ⟨hle5, rfl⟩ := cond_f hc8 hT2
 refine ⟨St w H [.obj l1 (R1 .done (some .ret)), .obj D1 (.deferred (some [])), .blk b2 29 [(.int .i64 r3.2)], .blk b1 28 [(.int .i64 p_n.kind), (.slice ao1 p_n.step.strokes.length cap1), (.int .i64 p_n.step.wait), (.int .i64 p_n.count), (mkS p_n.name), (.slice ao2 p_n.nodes.length cap2)]] H3, ?_, hs3⟩
 refine after_ret ?_
 refine block_ret (then_ret ?_)
 obtain rfl := Option.some.inj hm
 refine retQ_retM (i := 0) rfl results31 (Res.cell rfl (box_load (i := 0) isAgg29 rfl) Res.nil) rfl (fun w' s => ⟨s.below, ?_⟩)
 exact rfl
theorem lexer_Number_con (p_s : (List UInt8)) (w : World) (H : Heap) (hH : Le H (hp w)) (hG : Glob H) (r : Int) (hm : lexer_Number p_s = some r) :
  Con prog 146 [(mkS p_s)] w H (fun v _ => v = (.int .i64 r)) := by
 unfold lexer_Number at hm
 refine con_of hH func146 rfl 27 ntmps146 rfl ?_
 refine WP.seq (WP.region (Va rfl (WL.nil (tn (WP.seq (WP.block (WP.seq (WP.region (Vm rfl (V rfl (ov_seql rfl rfl rfl) (Vm rfl ?_)))))))))))
 obtain ⟨c1, e1, hm⟩ := bind_some hm
 refine WL.cut_bool 7 13 (x := c1) ?_ ?_
 ·
  rcases Bool.eq_false_or_eq_true (p_s == []) with hc1 | hc1
  ·
   replace hm := ite_t hc1 e1
   refine Vi rfl (Idle.no rfl rfl rfl hc1) (Vi rfl (Idle.no rfl rfl rfl hc1) (Vi rfl (Idle.no rfl rfl rfl hc1) (Vi rfl (Idle.no rfl rfl rfl hc1) (Vi rfl (Idle.no rfl rfl rfl hc1) (Vi rfl (Idle.no rfl rfl rfl hc1) (V rfl (ov_pick_true rfl (guard_eq rfl hc1) rfl) ?_))))))
   exact WL.nil ⟨Sub.cons' rfl (congrArg Value.bool (Option.some.inj hm)) (Sub.dropn 7 rfl), fun _ s => s⟩
  replace hm := ite_f hc1 e1
  refine wy hc1 rfl (ov_move rfl rfl) ?_
  have rl1 : RL H (encInt .i64) ([2] : List Int) [(.int .i64 2)] := RL.cons (cs := [(.int .i64 2)]) (xs := []) rfl (RL.nil _ _)
  refine WL.step (Runs.yes rfl rfl rfl hc1) rfl rfl (os_buildSlice (cs := [(.int .i64 2)]) (E := 3) (sz := 1) rfl rfl (fun _ => by kernel_rfl) rfl (by decide) (fun b1 => ?_))
  refine WL.held rl1 (fun H1 hc2 hle1 h1 => ?_)
  replace hG := hG.mono hle1
  obtain ⟨r1, e2, hm⟩ := bind_some hm
  refine WL.quiet (Runs.yes rfl rfl rfl hc1) rfl rfl (oq_con (r := (.int .i64 r1)) call122 rfl rfl (fun w' s => ⟨_, (lexer_run_con p_s ([2] : List Int) (some ⟨b1, 0, none⟩) 1  w' H1 s.hold h1 hc2 hG r1 e2)⟩)) ?_
  refine wy hc1 rfl (ov_move rfl rfl) ?_
  refine wy hc1 rfl (ov_len_string underlying9 rfl rfl) ?_
  refine wy hc1 rfl (ov_neq rfl rfl rfl) ?_
  refine V rfl (ov_pick_false rfl (guard_eq rfl hc1) rfl) ?_
  exact WL.nil ⟨Sub.cons' rfl (congrArg Value.bool (Option.some.inj hm)) (Sub.dropn 7 rfl), fun _ s => (s.heap hle1)⟩
 refine Vm rfl ?_
 obtain ⟨c2, e3, hm⟩ := bind_some hm
 refine WL.cut_bool 8 22 (x := c2) ?_ ?_
 ·
  rcases Bool.eq_false_or_eq_true c1 with hc3 | hc3
  ·
   replace hm := ite_t hc3 e3
   refine Vi rfl (Idle.no rfl rfl rfl hc3) (Vi rfl (Idle.no rfl rfl rfl hc3) (Vi rfl (Idle.no rfl rfl rfl hc3) (Vi rfl (Idle.no rfl rfl rfl hc3) (Vi rfl (Idle.undef rfl rfl rfl) (Vi rfl (Idle.undef rfl rfl rfl) (Vi rfl (Idle.no rfl rfl rfl hc3) (V rfl (ov_pick_true rfl (guard_eq rfl hc3) rfl) ?_)))))))
   exact WL.nil ⟨Sub.cons' rfl (congrArg Value.bool (Option.some.inj hm)) (Sub.dropn 8 rfl), fun _ s => s⟩
  replace hm := ite_f hc3 e3
  refine wy hc3 rfl (ov_move rfl rfl) ?_
  obtain ⟨b2, e4, hm⟩ := bind_some hm
  refine wy hc3 rfl (ov_index_string underlying9 rfl rfl rfl e4) ?_
  refine wy hc3 rfl (ov_eql rfl rfl rfl) ?_
  refine wy hc3 rfl (ov_move rfl rfl) ?_
  refine WL.cut_bool 3 21 (x := (((b2.toNat : Int) == 48) && (!(p_s == [48])))) ?_ ?_
  ·
   rcases Bool.eq_false_or_eq_true ((b2.toNat : Int) == 48) with hc4 | hc4
   ·
    refine wy hc4 rfl (ov_move rfl rfl) ?_
    refine wy hc4 rfl (ov_sneq rfl rfl rfl) ?_
    refine wy hc3 rfl (ov_pick_true rfl (guard_eq rfl hc4) rfl) ?_
    exact WL.nil ⟨Sub.cons' rfl (congrArg Value.bool (andT hc4)) (Sub.dropn 3 rfl), fun _ s => s⟩
   refine Vi rfl (Idle.no rfl rfl rfl hc4) (Vi rfl (Idle.no rfl rfl rfl hc4) ?_)
   refine wy hc3 rfl (ov_pick_false rfl (guard_eq rfl hc4) rfl) ?_
   exact WL.nil ⟨Sub.cons' rfl (congrArg Value.bool (andF hc4)) (Sub.dropn 3 rfl), fun _ s => s⟩
  refine V rfl (ov_pick_false rfl (guard_eq rfl hc3) rfl) ?_
  exact WL.nil ⟨Sub.cons' rfl (congrArg Value.bool (Option.some.inj hm)) (Sub.dropn 6 rfl), fun _ s => s⟩
 refine Va rfl (WL.nil (tn ?_))
 refine WP.cond rfl (fun hc5 => ?_) (fun hc5 => ?_)
 ·
  replace hm := ite_t hc5 hm
  refine WP.seq (WP.region (Va rfl (WL.nil (tn (WP.ret (block_ret (then_ret ?_)))))))
  obtain rfl := Option.some.inj hm
  refine retQ_ret results146 (Res.tmp rfl Res.nil) rfl (fun w' s => ⟨s.below, ?_⟩)
  exact rfl
 replace hm := ite_f hc5 hm
 refine WP.seq (WP.region (Vm rfl (V rfl (ov_len_string underlying9 rfl rfl) (V rfl (ov_gtr rfl rfl rfl) (Va rfl (WL.nil (tn ?_)))))))
 refine WP.cond rfl (fun hc6 => ?_) (fun hc6 => ?_)
 ·
  replace hm := ite_t hc6 hm
  refine WP.seq (WP.region (Va rfl (WL.nil (tn (WP.ret (block_ret (then_ret ?_)))))))
  obtain rfl := Option.some.inj hm
  refine retQ_ret results146 (Res.tmp rfl Res.nil) rfl (fun w' s => ⟨s.below, ?_⟩)
  exact rfl
 replace hm := ite_f hc6 hm
 refine WP.skip (bn (tn (WP.seq (WP.region (Va rfl (WL.nil (tn (WP.ret ?_))))))))
 obtain rfl := Option.some.inj hm
 refine retQ_ret results146 (Res.tmp rfl Res.nil) rfl (fun w' s => ⟨s.below, ?_⟩)
 exact rfl
theorem lexer_Scan_con (p_text : (List UInt8)) (w : World) (H : Heap) (hH : Le H (hp w)) (hG : Glob H) (r : ((List Token) × Int × Int)) (hm : lexer_Scan p_text = some r) :
  Con prog 44 [(mkS p_text)] w H (fun v H' => ∃ (ao1 : Option Addr) (cap1 : Nat), v = (.tuple #[(.slice ao1 r.1.length cap1), (.int .i64 r.2.1), (.int .i64 r.2.2)]) ∧ SL H' encToken ao1 r.1 ∧ r.1.length ≤ cap1) := by
 unfold lexer_Scan at hm
 refine con_of hH func44 rfl 25 ntmps44 rfl ?_
 refine WP.seq (WP.region ?_)
 refine ws rfl (os_alloc (cs := [(.slice none 0 0)]) zeroValue81 rfl rfl (fun b1 => ?_))
 refine ws rfl (os_alloc (cs := [(.int .i64 0)]) zeroValue3 rfl rfl (fun b2 => ?_))
 refine ws rfl (os_alloc (cs := [(.int .i64 0)]) zeroValue29 rfl rfl (fun b3 => ?_))
 refine WL.nil (tn (WP.seq (WP.seq (WP.region (Vm rfl (V rfl (ov_len_string underlying9 rfl rfl) (V rfl (ov_gtr rfl rfl rfl) (WL.nil (tn ?_)))))))))
 refine WP.cond rfl (fun hc2 => ?_) (fun hc2 => ?_)
 ·
  replace hm := ite_t hc2 hm
  refine WP.seq (WP.region ?_)
  refine ws0 rfl (os_store (i := 2) (vs := [(.slice none 0 0)]) (cs' := [(.slice none 0 0)]) sizeOf81 rfl rfl rfl rfl rfl rfl rfl rfl rfl ?_)
  refine ws0 rfl (os_store (i := 1) (vs := [(.int .i64 0)]) (cs' := [(.int .i64 0)]) sizeOf3 rfl rfl rfl rfl rfl rfl rfl rfl rfl ?_)
  refine ws0 rfl (os_store (i := 0) (vs := [(.int .i64 17)]) (cs' := [(.int .i64 17)]) sizeOf29 rfl rfl rfl rfl rfl rfl rfl rfl rfl ?_)
  refine WL.nil (tn (WP.ret (then_ret ?_)))
  obtain rfl := Option.some.inj hm
  refine retQ_ret results44 (Res.cell rfl (box_load (i := 2) isAgg81 rfl) (Res.cell rfl (box_load (i := 1) isAgg3 rfl) (Res.cell rfl (box_load (i := 0) isAgg29 rfl) Res.nil))) rfl (fun w' s => ⟨s.below, ?_⟩)
  exact ⟨none, 0, rfl, SL.nil _ _ _, Nat.le_refl _⟩
 replace hm := ite_f hc2 hm
 refine WP.skip (tn (WP.seq (WP.region ?_)))
 refine ws rfl (os_alloc (cs := [(.slice none 0 0)]) zeroValue81 rfl rfl (fun b4 => ?_))
 refine WL.nil (tn (WP.seq (WP.seq (WP.region (Vm rfl ?_)))))
 refine ws rfl (os_inline (cap := []) (vs := [(mkS p_text)]) call83 rfl rfl rfl func83 rfl 6 ntmps83 rfl (fun w' s => ?_))
 refine WP.seq (WP.region ?_)
 refine ws rfl (os_box (cs := [(mkS p_text)]) rfl rfl rfl (fun b5 => ?_))
 refine Va rfl (WL.nil (tn (WP.seq (WP.region ?_))))
 refine ws rfl (os_inline (cap := []) (vs := []) call119 rfl rfl rfl func119 rfl 8 ntmps119 rfl (fun w' s => ?_))
 refine WP.seq (WP.region ?_)
 refine ws rfl (os_alloc (cs := [(.int .i64 0), (.slice none 0 0), .nilFunc, (.int .i64 0), (.slice none 0 0), .nilFunc, (.int .i64 0), (.slice none 0 0), .nilFunc, (.int .i64 0), (.slice none 0 0), .nilFunc, (.int .i64 0), (.slice none 0 0), .nilFunc, (.int .i64 0), (.slice none 0 0), .nilFunc]) zeroValue177 rfl rfl (fun b6 => ?_))
 refine WL.nil (tn (WP.seq (WP.region ?_)))
 have rl1 : RL H (encInt .i64) ([1, 2, 3] : List Int) [(.int .i64 1), (.int .i64 2), (.int .i64 3)] := RL.cons (cs := [(.int .i64 1)]) (xs := [(.int .i64 2), (.int .i64 3)]) rfl (RL.cons (cs := [(.int .i64 2)]) (xs := [(.int .i64 3)]) rfl (RL.cons (cs := [(.int .i64 3)]) (xs := []) rfl (RL.nil _ _)))
 refine ws rfl (os_buildSlice (cs := [(.int .i64 1), (.int .i64 2), (.int .i64 3)]) (E := 3) (sz := 1) rfl rfl (fun _ => by kernel_rfl) rfl (by decide) (fun b7 => ?_))
 refine WL.held rl1 (fun H1 hc3 hle1 h2 => ?_)
 replace hG := hG.mono hle1
 refine V rfl (ov_build (r := (.agg #[(.int .i64 0), (.slice (some ⟨b7, 0, none⟩) ([1, 2, 3] : List Int).length 3), (.func (.func 111) #[] #[])])) rfl rfl (fun _ => by kernel_rfl)) ?_
 have rl2 : RL H1 (encInt .i64) ([2] : List Int) [(.int .i64 2)] := RL.cons (cs := [(.int .i64 2)]) (xs := []) rfl (RL.nil _ _)
 refine ws rfl (os_buildSlice (cs := [(.int .i64 2)]) (E := 3) (sz := 1) rfl rfl (fun _ => by kernel_rfl) rfl (by decide) (fun b8 => ?_))
 refine WL.held rl2 (fun H2 hc4 hle2 h3 => ?_)
 replace h2 := h2.mono hle2
 replace hG := hG.mono hle2
 refine V rfl (ov_build (r := (.agg #[(.int .i64 1), (.slice (some ⟨b8, 0, none⟩) ([2] : List Int).length 1), (.func (.func 146) #[] #[])])) rfl rfl (fun _ => by kernel_rfl)) (V rfl (ov_build (r := (.agg #[(.int .i64 2), (.slice none 0 0), (.func (.func 147) #[] #[])])) rfl rfl (fun _ => by kernel_rfl)) (V rfl (ov_build (r := (.agg #[(.int .i64 0), (.slice none 0 0), .nilFunc])) rfl rfl (fun _ => by kernel_rfl)) (V rfl (ov_build (r := (.agg #[(.int .i64 0), (.slice none 0 0), .nilFunc, (.int .i64 0), (.slice (some ⟨b7, 0, none⟩) ([1, 2, 3] : List Int).length 3), (.func (.func 111) #[] #[]), (.int .i64 1), (.slice (some ⟨b8, 0, none⟩) ([2] : List Int).length 1), (.func (.func 146) #[] #[]), (.int .i64 0), (.slice none 0 0), .nilFunc, (.int .i64 2), (.slice none 0 0), (.func (.func 147) #[] #[]), (.int .i64 0), (.slice none 0 0), .nilFunc])) rfl rfl (fun _ => by kernel_rfl)) ?_)))
 refine ws0 rfl (os_store (i := 0) (vs := [(.int .i64 0), (.slice none 0 0), .nilFunc, (.int .i64 0), (.slice (some ⟨b7, 0, none⟩) ([1, 2, 3] : List Int).length 3), (.func (.func 111) #[] #[]), (.int .i64 1), (.slice (some ⟨b8, 0, none⟩) ([2] : List Int).length 1), (.func (.func 146) #[] #[]), (.int .i64 0), (.slice none 0 0), .nilFunc, (.int .i64 2), (.slice none 0 0), (.func (.func 147) #[] #[]), (.int .i64 0), (.slice none 0 0), .nilFunc]) (cs' := [(.int .i64 0), (.slice none 0 0), .nilFunc, (.int .i64 0), (.slice (some ⟨b7, 0, none⟩) ([1, 2, 3] : List Int).length 3), (.func (.func 111) #[] #[]), (.int .i64 1), (.slice (some ⟨b8, 0, none⟩) ([2] : List Int).length 1), (.func (.func 146) #[] #[]), (.int .i64 0), (.slice none 0 0), .nilFunc, (.int .i64 2), (.slice none 0 0), (.func (.func 147) #[] #[]), (.int .i64 0), (.slice none 0 0), .nilFunc]) sizeOf177 rfl rfl rfl rfl rfl rfl rfl rfl rfl ?_)
 refine WL.nil (tn (WP.ret ?_))
 refine retQ_ret (v := (.agg #[(.int .i64 0), (.slice none 0 0), .nilFunc, (.int .i64 0), (.slice (some ⟨b7, 0, none⟩) ([1, 2, 3] : List Int).length 3), (.func (.func 111) #[] #[]), (.int .i64 1), (.slice (some ⟨b8, 0, none⟩) ([2] : List Int).length 1), (.func (.func 146) #[] #[]), (.int .i64 0), (.slice none 0 0), .nilFunc, (.int .i64 2), (.slice none 0 0), (.func (.func 147) #[] #[]), (.int .i64 0), (.slice none 0 0), .nilFunc])) results119 (Res.cell rfl (box_loads (i := 0) isAgg177 sizeOf177 rfl rfl) Res.nil) rfl (fun w' s => ⟨_, ?_, s⟩)
 refine ws rfl (os_alloc (cs := [(.int .i64 0), (.slice none 0 0), .nilFunc, (.int .i64 0), (.slice none 0 0), .nilFunc, (.int .i64 0), (.slice none 0 0), .nilFunc, (.int .i64 0), (.slice none 0 0), .nilFunc, (.int .i64 0), (.slice none 0 0), .nilFunc, (.int .i64 0), (.slice none 0 0), .nilFunc]) zeroValue177 rfl rfl (fun b9 => ?_))
 refine ws0 rfl (os_store (i := 0) (vs := [(.int .i64 0), (.slice none 0 0), .nilFunc, (.int .i64 0), (.slice (some ⟨b7, 0, none⟩) ([1, 2, 3] : List Int).length 3), (.func (.func 111) #[] #[]), (.int .i64 1), (.slice (some ⟨b8, 0, none⟩) ([2] : List Int).length 1), (.func (.func 146) #[] #[]), (.int .i64 0), (.slice none 0 0), .nilFunc, (.int .i64 2), (.slice none 0 0), (.func (.func 147) #[] #[]), (.int .i64 0), (.slice none 0 0), .nilFunc]) (cs' := [(.int .i64 0), (.slice none 0 0), .nilFunc, (.int .i64 0), (.slice (some ⟨b7, 0, none⟩) ([1, 2, 3] : List Int).length 3), (.func (.func 111) #[] #[]), (.int .i64 1), (.slice (some ⟨b8, 0, none⟩) ([2] : List Int).length 1), (.func (.func 146) #[] #[]), (.int .i64 0), (.slice none 0 0), .nilFunc, (.int .i64 2), (.slice none 0 0), (.func (.func 147) #[] #[]), (.int .i64 0), (.slice none 0 0), .nilFunc]) sizeOf177 rfl rfl rfl rfl rfl rfl rfl rfl rfl ?_)
 refine WL.nil (tn (WP.seq (WP.region (V rfl (ov_makeFunc' (first := []) rfl rfl rfl) (Va rfl (WL.nil (tn (WP.ret ?_))))))))
 refine retQ_ret (v := (.func (.func 120) #[] #[(pB b5 0), (pB b9 0)])) results83 (Res.tmp rfl Res.nil) rfl (fun w' s => ⟨_, ?_, s⟩)
 refine WL.nil (tn (WP.block ?_))
 refine WP.range (ps := [13, 14]) (cap := [(pB b5 0), (pB b9 0)]) call120 rfl func120 rfl 70 ntmps120 rfl (fun l1 D1 R1 hr1 => ?_)
 obtain ⟨k1, hk1, hm⟩ := joinK_some hm
 refine WP.seq_join (fun g' S' => ∃ (l9 : (List Token)) (ao9 : Option Addr) (cap9 : Nat) (xs2 : List Value), RL H2 encToken l9 xs2 ∧ Sub [(0, (.func (.yield l1) #[] #[])), (1, (pB b5 0)), (1000000007, (.bool false))] g' ∧ (∀ w', S' w' → St w H [.row 89 (encToken).size l9.length (.slice ao9 l9.length cap9) xs2, .obj l1 (R1 .ready none), .obj D1 (.deferred (some [])), .blk b9 177 [(.int .i64 0), (.slice none 0 0), .nilFunc, (.int .i64 0), (.slice (some ⟨b7, 0, none⟩) ([1, 2, 3] : List Int).length 3), (.func (.func 111) #[] #[]), (.int .i64 1), (.slice (some ⟨b8, 0, none⟩) ([2] : List Int).length 1), (.func (.func 146) #[] #[]), (.int .i64 0), (.slice none 0 0), .nilFunc, (.int .i64 2), (.slice none 0 0), (.func (.func 147) #[] #[]), (.int .i64 0), (.slice none 0 0), .nilFunc], .blk b5 9 [(mkS p_text)], .blk b4 81 [(.slice ao9 l9.length cap9)], .blk b3 29 [(.int .i64 0)], .blk b2 3 [(.int .i64 0)], .blk b1 81 [(.slice none 0 0)]] H2 w') ∧ k1 l9 = some r) ?_ ?_
 ·
  refine WP.seq (WP.region (Va rfl (WL.nil (tn (WP.block ?_)))))
  have rl3 := RL.nil (α := Token) H2 encToken
  refine WP.weaken (fun _ s => s.nilrow 89 (encToken).size) ?_
  refine WP.loop (fun m1 g' S' => ∃ (i1 : Int) (l2 : (List Token)) (ao2 : Option Addr) (cap2 : Nat) (xs1 : List Value), RL H2 encToken l2 xs1 ∧ Sub [(0, (.func (.yield l1) #[] #[])), (1, (pB b5 0)), (2, (pB b9 0)), (4, (.int .i64 i1)), (1000000007, (.bool false))] g' ∧ (∀ w', S' w' → St w H [.row 89 (encToken).size l2.length (.slice ao2 l2.length cap2) xs1, .obj l1 (R1 .ready none), .obj D1 (.deferred (some [])), .blk b9 177 [(.int .i64 0), (.slice none 0 0), .nilFunc, (.int .i64 0), (.slice (some ⟨b7, 0, none⟩) ([1, 2, 3] : List Int).length 3), (.func (.func 111) #[] #[]), (.int .i64 1), (.slice (some ⟨b8, 0, none⟩) ([2] : List Int).length 1), (.func (.func 146) #[] #[]), (.int .i64 0), (.slice none 0 0), .nilFunc, (.int .i64 2), (.slice none 0 0), (.func (.func 147) #[] #[]), (.int .i64 0), (.slice none 0 0), .nilFunc], .blk b5 9 [(mkS p_text)], .blk b4 81 [(.slice ao2 l2.length cap2)], .blk b3 29 [(.int .i64 0)], .blk b2 3 [(.int .i64 0)], .blk b1 81 [(.slice none 0 0)]] H2 w') ∧ lexer_Scan_loop1 p_text k1 m1 i1 l2 = some r) ((Int.toNat ((p_text.length : Int) - 0) + 1)) ⟨0, ([] : List Token), none, 0, [], rl3, (Sub.all rfl), fun w' s => (s.select [0, 1, 2, 3, 5, 6, 7, 8, 9] (by decide) rfl), hm⟩ ?_ ?_
  ·
   rintro g' S' ⟨_, _, _, _, _, _, _, _, hm⟩
   exact none_some hm
  rintro m1 g' S' ⟨i1, l2, ao2, cap2, xs1, rl4, hsub1, hS1, hm⟩
  refine WP.sub hsub1 (WP.weaken hS1 ?_)
  rw [lexer_Scan_loop1] at hm
  refine WP.seq (WP.seq (WP.region (Vm rfl (Vl 4 isAgg9 rfl (V rfl (ov_len_string underlying9 rfl rfl) (V rfl (ov_lss rfl rfl rfl) (WL.nil (tn ?_))))))))
  refine WP.cond rfl (fun hc5 => ?_) (fun hc5 => ?_)
  ·
   replace hm := ite_t hc5 hm
   refine WP.skip (tn (WP.block (WP.seq (WP.region (Vl 4 isAgg9 rfl (Vm rfl ?_))))))
   obtain ⟨b10, e1, hm⟩ := bind_some hm
   refine V rfl (ov_index_string underlying9 rfl rfl rfl e1) ?_
   obtain ⟨r1, e2, hm⟩ := bind_some hm
   refine wo rfl (oq_con (r := (.int .i64 r1)) call121 rfl rfl (fun w' s => ⟨_, (lexer_class_con (b10.toNat : Int)  w' H2 s.hold hG r1 e2)⟩)) ?_
   refine Va rfl (WL.nil (tn (WP.seq (WP.seq (WP.region (Vm rfl (V rfl (ov_eql rfl rfl rfl) (WL.nil (tn ?_)))))))))
   refine WP.cond rfl (fun hc6 => ?_) (fun hc6 => ?_)
   ·
    replace hm := ite_t hc6 hm
    refine WP.seq (WP.region (Vm rfl (V rfl (ov_add rfl rfl rfl) (Va rfl (WL.nil (tn (WP.exit (then_exit (block_here (tn ?_))))))))))
    exact ⟨(IntKind.wrap .i64 (i1 + 1)), l2, ao2, cap2, xs1, rl4, (Sub.all rfl), fun w' s => s, hm⟩
   replace hm := ite_f hc6 hm
   refine WP.skip (tn (WP.seq (WP.region (Vm rfl ?_))))
   rcases Bool.eq_false_or_eq_true (r1 == 0) with hc7 | hc7
   ·
    replace hm := ite_t hc7 hm
    refine V rfl (ov_indexAddr_at (j := 0) underlying177 sizeOf176 rfl rfl rfl (eq_of_beq hc7) rfl) (V rfl (ov_load_boxes (i := 3) (vs := [(.int .i64 0), (.slice none 0 0), .nilFunc]) isAgg176 sizeOf176 rfl rfl rfl rfl (part_of rfl)) ?_)
    refine ws rfl (os_alloc (cs := [(.int .i64 0), (.slice none 0 0), .nilFunc]) zeroValue176 rfl rfl (fun b11 => ?_))
    refine ws0 rfl (os_store (i := 0) (vs := [(.int .i64 0), (.slice none 0 0), .nilFunc]) (cs' := [(.int .i64 0), (.slice none 0 0), .nilFunc]) sizeOf176 rfl rfl rfl rfl rfl rfl rfl rfl rfl ?_)
    refine WL.nil (tn (WP.seq (WP.seq (WP.region (V rfl (ov_fieldAddr underlying176 rfl rfl rfl sizeOf165 rfl rfl) (Vl 0 isAgg165 rfl (V rfl (ov_binOp (r := .bool true) rfl rfl rfl eqGuard_nofn (fun _ => by kernel_rfl)) (WL.nil (tn (WP.cond_true rfl (WP.seq (WP.region (Vm rfl ?_)))))))))))))
    refine Vm rfl (V rfl (ov_build (r := (.agg #[(.int .i64 0), (mkS []), (.int .i64 i1)])) rfl rfl (fun _ => by kernel_rfl)) ?_)
    refine WL.yield (i := 2) (vs := [(.agg #[(.int .i64 0), (mkS []), (.int .i64 i1)]), (.int .i64 4)]) (Runs.free rfl) rfl rfl rfl rfl rfl hr1 rfl rfl rfl ?_
    refine WP.seq (WP.region ?_)
    refine ws rfl (os_alloc (cs := [(.int .i64 0), (mkS []), (.int .i64 0)]) zeroValue89 rfl rfl (fun b12 => ?_))
    refine ws0 rfl (os_store (i := 0) (vs := [(.int .i64 0), (mkS []), (.int .i64 i1)]) (cs' := [(.int .i64 0), (mkS []), (.int .i64 i1)]) sizeOf89 rfl rfl rfl rfl rfl rfl rfl rfl rfl ?_)
    refine WL.nil (tn (WP.region (Va rfl (WL.nil (tn ?_)))))
    refine begin_of (i := 3) rfl ?_
    refine WP.block (WP.seq (WP.seq (WP.region (Vm rfl (V rfl (ov_neq rfl rfl rfl) (WL.nil (tn ?_)))))))
    refine WP.cond rfl (fun hc8 => ?_) (fun hc8 => ?_)
    ·
     replace hm := ite_t hc8 hm
     refine WP.seq ?_
     refine WP.region_anyF (S₀ := St w H [.blk b12 89 [(.int .i64 0), (mkS []), (.int .i64 i1)], .blk b11 176 [(.int .i64 0), (.slice none 0 0), .nilFunc], .row 89 (encToken).size l2.length (.slice ao2 l2.length cap2) xs1, .obj l1 (R1 .busy none), .obj D1 (.deferred (some [])), .blk b9 177 [(.int .i64 0), (.slice none 0 0), .nilFunc, (.int .i64 0), (.slice (some ⟨b7, 0, none⟩) ([1, 2, 3] : List Int).length 3), (.func (.func 111) #[] #[]), (.int .i64 1), (.slice (some ⟨b8, 0, none⟩) ([2] : List Int).length 1), (.func (.func 146) #[] #[]), (.int .i64 0), (.slice none 0 0), .nilFunc, (.int .i64 2), (.slice none 0 0), (.func (.func 147) #[] #[]), (.int .i64 0), (.slice none 0 0), .nilFunc], .blk b5 9 [(mkS p_text)], .blk b4 81 [(.slice ao2 l2.length cap2)]] H2) 6 rfl (by kernel_rfl) (by kernel_rfl) (fun w' s => (s.select [0, 1, 2, 3, 4, 5, 6, 7] (by decide) rfl)) (fun _ s => s.drew) ?_
     refine TQ 0 (by kernel_rfl) rfl (ov_fieldAddr underlying89 rfl rfl rfl sizeOf3 rfl rfl) (TQ 1 (by kernel_rfl) rfl (ov_load_box (i := 0) isAgg3 rfl rfl rfl rfl) (TQ 2 (by kernel_rfl) rfl (ov_move rfl rfl) ?_))
     refine AL.any (rs := [3]) (by kernel_rfl) (by decide) ?_
     refine ALs.cons0 (i := 3) rfl (Runs.free rfl) rfl ?_ ?_
     ·
      refine os_store (i := 10) (vs := [(.slice none 0 0)]) (cs' := [(.slice none 0 0)]) sizeOf81 rfl rfl rfl rfl rfl rfl rfl rfl rfl ?_
      refine ⟨fun w' s => (s.select [0, 1, 2, 3, 4, 5, 6, 7] (by decide) rfl), ?_⟩
      refine AL.any (rs := [4]) (by kernel_rfl) (by decide) ?_
      refine ALs.cons0 (i := 4) rfl (Runs.free rfl) rfl ?_ ?_
      ·
       refine os_store (i := 9) (vs := [(.int .i64 i1)]) (cs' := [(.int .i64 i1)]) sizeOf3 rfl rfl rfl rfl rfl rfl rfl rfl rfl ?_
       refine ⟨fun w' s => (s.select [0, 1, 2, 3, 4, 5, 6, 7] (by decide) rfl), ?_⟩
       refine AL.any (rs := [5]) (by kernel_rfl) (by decide) ?_
       refine ALs.cons0 (i := 5) rfl (Runs.free rfl) rfl ?_ ?_
       ·
        refine os_store (i := 8) (vs := [(.int .i64 4)]) (cs' := [(.int .i64 4)]) sizeOf29 rfl rfl rfl rfl rfl rfl rfl rfl rfl ?_
        refine ⟨fun w' s => (s.select [0, 1, 2, 3, 4, 5, 6, 7] (by decide) rfl), ?_⟩
        refine AL.done (by kernel_rfl) ?_
        refine tn (WP.ret (then_ret (block_ret ?_)))
        refine round_ret (i := 3) rfl ?_
        refine WL.nil (tn (WP.ret (then_ret (block_ret (then_ret (block_ret (then_ret ?_)))))))
        refine retQ_ret (v := (.tuple #[])) results120 Res.nil rfl (fun w' s => ⟨St w H [.obj l1 (R1 .done (some .ret)), .obj D1 (.deferred (some [])), .blk b12 89 [(.int .i64 0), (mkS []), (.int .i64 i1)], .blk b11 176 [(.int .i64 0), (.slice none 0 0), .nilFunc], .row 89 (encToken).size l2.length (.slice ao2 l2.length cap2) xs1, .blk b9 177 [(.int .i64 0), (.slice none 0 0), .nilFunc, (.int .i64 0), (.slice (some ⟨b7, 0, none⟩) ([1, 2, 3] : List Int).length 3), (.func (.func 111) #[] #[]), (.int .i64 1), (.slice (some ⟨b8, 0, none⟩) ([2] : List Int).length 1), (.func (.func 146) #[] #[]), (.int .i64 0), (.slice none 0 0), .nilFunc, (.int .i64 2), (.slice none 0 0), (.func (.func 147) #[] #[]), (.int .i64 0), (.slice none 0 0), .nilFunc], .blk b5 9 [(mkS p_text)], .blk b4 81 [(.slice ao2 l2.length cap2)], .blk b3 29 [(.int .i64 4)], .blk b2 3 [(.int .i64 i1)], .blk b1 81 [(.slice none 0 0)]] H2, ?_, (s.select [3, 4, 0, 1, 2, 5, 6, 7, 8, 9, 10] (by decide) rfl)⟩)
        refine after_ret ?_
        refine block_ret (then_ret ?_)
        obtain rfl := Option.some.inj hm
        refine retQ_retM (i := 0) rfl results44 (Res.cell rfl (box_load (i := 8) isAgg81 rfl) (Res.cell rfl (box_load (i := 7) isAgg3 rfl) (Res.cell rfl (box_load (i := 6) isAgg29 rfl) Res.nil))) rfl (fun w' s => ⟨s.below, ?_⟩)
        exact ⟨none, 0, rfl, SL.nil _ _ _, Nat.le_refl _⟩
       exact ALs.nil
      exact ALs.nil
     exact ALs.nil
    replace hm := ite_f hc8 hm
    refine WP.skip (tn (WP.region (Vl 7 isAgg81 rfl (V rfl (ov_load_whole (i := 0) isAgg89 sizeOf89 rfl rfl rfl rfl) ?_))))
    have rl5 : RL H2 encToken ([(Token.mk 0 [] i1)] : List Token) [(.int .i64 0), (mkS []), (.int .i64 i1)] := RL.cons (cs := [(.int .i64 0), (mkS []), (.int .i64 i1)]) (xs := []) rfl (RL.nil _ _)
    refine ws rfl (os_buildSlice (cs := [(.int .i64 0), (mkS []), (.int .i64 i1)]) (E := 89) (sz := 3) rfl rfl (fun _ => by kernel_rfl) rfl (by decide) (fun b13 => ?_))
    obtain ⟨l3, e3, hm⟩ := bind_some hm
    refine ws rfl (os_app (i := 3) (j := 0) (En := encToken) (xs := xs1) (ys := [(.int .i64 0), (mkS []), (.int .i64 i1)]) underlying81 (by kernel_rfl : (prog.info? 89).map (fun i => (i.zero, i.size, i.bytes)) = some (some (.agg #[(.int .i64 0), (mkS []), (.int .i64 0)]), (encToken).size, 32)) rfl (by decide) rfl rfl rfl rfl rfl rfl rl4 rl5 e3 (fun ao3 cap3 rl6 => ?_))
    refine ws0 rfl (os_store (i := 8) (vs := [(.slice ao3 (l2 ++ ([(Token.mk 0 [] i1)] : List Token)).length cap3)]) (cs' := [(.slice ao3 (l2 ++ ([(Token.mk 0 [] i1)] : List Token)).length cap3)]) sizeOf81 rfl rfl rfl rfl rfl rfl rfl rfl rfl ?_)
    refine WL.nil (bn ?_)
    refine round_normal (i := 4) rfl ?_
    refine WL.nil (tn (WP.ret (then_ret (block_ret (then_ret (block_ret (then_ret ?_)))))))
    refine retQ_ret (v := (.tuple #[])) results120 Res.nil rfl (fun w' s => ⟨St w H [.obj l1 (R1 .ready none), .obj D1 (.deferred (some [])), .row 89 (encToken).size ([(Token.mk 0 [] i1)] : List Token).length (.slice (some ⟨b13, 0, none⟩) ([(Token.mk 0 [] i1)] : List Token).length 1) [(.int .i64 0), (mkS []), (.int .i64 i1)], .blk b12 89 [(.int .i64 0), (mkS []), (.int .i64 i1)], .blk b11 176 [(.int .i64 0), (.slice none 0 0), .nilFunc], .row 89 (encToken).size (l2 ++ ([(Token.mk 0 [] i1)] : List Token)).length (.slice ao3 (l2 ++ ([(Token.mk 0 [] i1)] : List Token)).length cap3) (xs1 ++ [(.int .i64 0), (mkS []), (.int .i64 i1)]), .blk b9 177 [(.int .i64 0), (.slice none 0 0), .nilFunc, (.int .i64 0), (.slice (some ⟨b7, 0, none⟩) ([1, 2, 3] : List Int).length 3), (.func (.func 111) #[] #[]), (.int .i64 1), (.slice (some ⟨b8, 0, none⟩) ([2] : List Int).length 1), (.func (.func 146) #[] #[]), (.int .i64 0), (.slice none 0 0), .nilFunc, (.int .i64 2), (.slice none 0 0), (.func (.func 147) #[] #[]), (.int .i64 0), (.slice none 0 0), .nilFunc], .blk b5 9 [(mkS p_text)], .blk b4 81 [(.slice ao3 (l2 ++ ([(Token.mk 0 [] i1)] : List Token)).length cap3)], .blk b3 29 [(.int .i64 0)], .blk b2 3 [(.int .i64 0)], .blk b1 81 [(.slice none 0 0)]] H2, ?_, (s.select [4, 5, 0, 1, 2, 3, 6, 7, 8, 9, 10, 11] (by decide) rfl)⟩)
    refine after_normal ?_
    refine bn (tn (WP.seq (WP.region (Vl 7 isAgg81 rfl ?_))))
    refine ws0 rfl (os_store (i := 10) (vs := [(.slice ao3 (l2 ++ ([(Token.mk 0 [] i1)] : List Token)).length cap3)]) (cs' := [(.slice ao3 (l2 ++ ([(Token.mk 0 [] i1)] : List Token)).length cap3)]) sizeOf81 rfl rfl rfl rfl rfl rfl rfl rfl rfl ?_)
    refine ws0 rfl (os_store (i := 9) (vs := [(.int .i64 0)]) (cs' := [(.int .i64 0)]) sizeOf3 rfl rfl rfl rfl rfl rfl rfl rfl rfl ?_)
    refine ws0 rfl (os_store (i := 8) (vs := [(.int .i64 0)]) (cs' := [(.int .i64 0)]) sizeOf29 rfl rfl rfl rfl rfl rfl rfl rfl rfl ?_)
    refine WL.nil (tn (WP.ret ?_))
    obtain rfl := Option.some.inj hm
    refine retQ_retM (i := 0) rfl results44 (Res.cell rfl (box_load (i := 9) isAgg81 rfl) (Res.cell rfl (box_load (i := 8) isAgg3 rfl) (Res.cell rfl (box_load (i := 7) isAgg29 rfl) Res.nil))) rfl (fun w' s => ⟨s.below, ?_⟩)
    obtain ⟨h4, hc9⟩ := s.ret_row (i := 3) rfl rl6
    exact ⟨ao3, cap3, rfl, h4, hc9⟩
   replace hm := ite_f hc7 hm
   rcases Bool.eq_false_or_eq_true (r1 == 1) with hc10 | hc10
   ·
    replace hm := ite_t hc10 hm
    refine V rfl (ov_indexAddr_at (j := 1) underlying177 sizeOf176 rfl rfl rfl (eq_of_beq hc10) rfl) (V rfl (ov_load_boxes (i := 3) (vs := [(.int .i64 0), (.slice (some ⟨b7, 0, none⟩) ([1, 2, 3] : List Int).length 3), (.func (.func 111) #[] #[])]) isAgg176 sizeOf176 rfl rfl rfl rfl (part_of rfl)) ?_)
    refine ws rfl (os_alloc (cs := [(.int .i64 0), (.slice none 0 0), .nilFunc]) zeroValue176 rfl rfl (fun b14 => ?_))
    refine ws0 rfl (os_store (i := 0) (vs := [(.int .i64 0), (.slice (some ⟨b7, 0, none⟩) ([1, 2, 3] : List Int).length 3), (.func (.func 111) #[] #[])]) (cs' := [(.int .i64 0), (.slice (some ⟨b7, 0, none⟩) ([1, 2, 3] : List Int).length 3), (.func (.func 111) #[] #[])]) sizeOf176 rfl rfl rfl rfl rfl rfl rfl rfl rfl ?_)
    refine WL.nil (tn (WP.seq (WP.seq (WP.region (V rfl (ov_fieldAddr underlying176 rfl rfl rfl sizeOf165 rfl rfl) (Vl 0 isAgg165 rfl (V rfl (ov_binOp (r := .bool false) rfl rfl rfl eqGuard_fn (fun _ => by kernel_rfl)) (WL.nil (tn (WP.cond_false rfl (WP.skip (tn (WP.seq ?_)))))))))))))
    refine WP.region_draws (by kernel_rfl) (by kernel_rfl) (fun _ s => s.drew) ?_
    refine qf rfl (ov_load_box (i := 5) isAgg9 rfl rfl rfl rfl) ?_
    refine qf rfl (ov_move rfl rfl) ?_
    obtain ⟨s1, e4, hm⟩ := bind_some hm
    refine qf rfl (ov_slice_string_from underlying9 rfl rfl rfl e4) ?_
    refine qf rfl (ov_fieldAddr underlying176 rfl rfl rfl sizeOf174 rfl rfl) ?_
    refine qf rfl (ov_load_box (i := 0) isAgg174 rfl rfl rfl rfl) ?_
    obtain ⟨r2, e5, hm⟩ := bind_some hm
    refine QL.quiet (Runs.free rfl) rfl rfl (oq_con (r := (.int .i64 r2)) call122 rfl rfl (fun w' s => ⟨_, (lexer_run_con s1 ([1, 2, 3] : List Int) (some ⟨b7, 0, none⟩) 3  w' H2 s.hold h2 hc3 hG r2 e5)⟩)) ?_
    refine qf rfl (ov_max rfl rfl rfl) ?_
    refine qf rfl (ov_assign rfl rfl) ?_
    refine QL.nil ?_
    refine tn (WP.seq (WP.region (Vl 5 isAgg9 rfl (Vm rfl (Vm rfl (Vm rfl (V rfl (ov_add rfl rfl rfl) ?_)))))))
    obtain ⟨s2, e6, hm⟩ := bind_some hm
    refine V rfl (ov_slice_string underlying9 rfl rfl rfl rfl e6) (Va rfl (WL.nil (tn (WP.seq (WP.seq (WP.region (V rfl (ov_fieldAddr underlying176 rfl rfl rfl sizeOf165 rfl rfl) (Vl 0 isAgg165 rfl (Vm rfl ?_)))))))))
    obtain ⟨r3, e7, hm⟩ := bind_some hm
    refine wo rfl (oq_conv (r := (.int .i64 r3)) call111 rfl (cap := []) rfl rfl (fun w' s => ⟨_, (lexer_Word_con s2  w' H2 s.hold hG r3 e7)⟩)) ?_
    refine Va rfl (WL.nil (tn (WP.seq (WP.region (Vm rfl (V rfl (ov_fieldAddr underlying176 rfl rfl rfl sizeOf3 rfl rfl) (Vl 0 isAgg3 rfl (Vm rfl (Vm rfl (V rfl (ov_build (r := (.agg #[(.int .i64 0), (mkS s2), (.int .i64 i1)])) rfl rfl (fun _ => by kernel_rfl)) (Vm rfl ?_)))))))))))
    refine WL.yield (i := 2) (vs := [(.agg #[(.int .i64 0), (mkS s2), (.int .i64 i1)]), (.int .i64 r3)]) (Runs.free rfl) rfl rfl rfl rfl rfl hr1 rfl rfl rfl ?_
    refine WP.seq (WP.region ?_)
    refine ws rfl (os_alloc (cs := [(.int .i64 0), (mkS []), (.int .i64 0)]) zeroValue89 rfl rfl (fun b15 => ?_))
    refine ws0 rfl (os_store (i := 0) (vs := [(.int .i64 0), (mkS s2), (.int .i64 i1)]) (cs' := [(.int .i64 0), (mkS s2), (.int .i64 i1)]) sizeOf89 rfl rfl rfl rfl rfl rfl rfl rfl rfl ?_)
    refine WL.nil (tn (WP.region (Va rfl (WL.nil (tn ?_)))))
    refine begin_of (i := 3) rfl ?_
    refine WP.block (WP.seq (WP.seq (WP.region (Vm rfl (V rfl (ov_neq rfl rfl rfl) (WL.nil (tn ?_)))))))
    refine WP.cond rfl (fun hc11 => ?_) (fun hc11 => ?_)
    ·
     replace hm := ite_t hc11 hm
     refine WP.seq ?_
     refine WP.region_anyF (S₀ := St w H [.blk b15 89 [(.int .i64 0), (mkS s2), (.int .i64 i1)], .blk b14 176 [(.int .i64 0), (.slice (some ⟨b7, 0, none⟩) ([1, 2, 3] : List Int).length 3), (.func (.func 111) #[] #[])], .row 89 (encToken).size l2.length (.slice ao2 l2.length cap2) xs1, .obj l1 (R1 .busy none), .obj D1 (.deferred (some [])), .blk b9 177 [(.int .i64 0), (.slice none 0 0), .nilFunc, (.int .i64 0), (.slice (some ⟨b7, 0, none⟩) ([1, 2, 3] : List Int).length 3), (.func (.func 111) #[] #[]), (.int .i64 1), (.slice (some ⟨b8, 0, none⟩) ([2] : List Int).length 1), (.func (.func 146) #[] #[]), (.int .i64 0), (.slice none 0 0), .nilFunc, (.int .i64 2), (.slice none 0 0), (.func (.func 147) #[] #[]), (.int .i64 0), (.slice none 0 0), .nilFunc], .blk b5 9 [(mkS p_text)], .blk b4 81 [(.slice ao2 l2.length cap2)]] H2) 6 rfl (by kernel_rfl) (by kernel_rfl) (fun w' s => (s.select [0, 1, 2, 3, 4, 5, 6, 7] (by decide) rfl)) (fun _ s => s.drew) ?_
     refine TQ 0 (by kernel_rfl) rfl (ov_fieldAddr underlying89 rfl rfl rfl sizeOf3 rfl rfl) (TQ 1 (by kernel_rfl) rfl (ov_load_box (i := 0) isAgg3 rfl rfl rfl rfl) (TQ 2 (by kernel_rfl) rfl (ov_move rfl rfl) ?_))
     refine AL.any (rs := [3]) (by kernel_rfl) (by decide) ?_
     refine ALs.cons0 (i := 3) rfl (Runs.free rfl) rfl ?_ ?_
     ·
      refine os_store (i := 10) (vs := [(.slice none 0 0)]) (cs' := [(.slice none 0 0)]) sizeOf81 rfl rfl rfl rfl rfl rfl rfl rfl rfl ?_
      refine ⟨fun w' s => (s.select [0, 1, 2, 3, 4, 5, 6, 7] (by decide) rfl), ?_⟩
      refine AL.any (rs := [4]) (by kernel_rfl) (by decide) ?_
      refine ALs.cons0 (i := 4) rfl (Runs.free rfl) rfl ?_ ?_
      ·
       refine os_store (i := 9) (vs := [(.int .i64 i1)]) (cs' := [(.int .i64 i1)]) sizeOf3 rfl rfl rfl rfl rfl rfl rfl rfl rfl ?_
       refine ⟨fun w' s => (s.select [0, 1, 2, 3, 4, 5, 6, 7] (by decide) rfl), ?_⟩
       refine AL.any (rs := [5]) (by kernel_rfl) (by decide) ?_
       refine ALs.cons0 (i := 5) rfl (Runs.free rfl) rfl ?_ ?_
       ·
        refine os_store (i := 8) (vs := [(.int .i64 r3)]) (cs' := [(.int .i64 r3)]) sizeOf29 rfl rfl rfl rfl rfl rfl rfl rfl rfl ?_
        refine ⟨fun w' s => (s.select [0, 1, 2, 3, 4, 5, 6, 7] (by decide) rfl), ?_⟩
        refine AL.done (by kernel_rfl) ?_
        refine tn (WP.ret (then_ret (block_ret ?_)))
        refine round_ret (i := 3) rfl ?_
        refine V rfl (ov_not rfl rfl) (Vm rfl (Vi rfl (Idle.no rfl rfl rfl rfl) (Vi rfl (Idle.no rfl rfl rfl rfl) (V rfl (ov_pick_true rfl (guard_eq rfl rfl) rfl) (WL.nil (tn (WP.cond_true rfl (WP.ret (then_ret (block_ret (then_ret (block_ret (then_ret ?_)))))))))))))
        refine retQ_ret (v := (.tuple #[])) results120 Res.nil rfl (fun w' s => ⟨St w H [.obj l1 (R1 .done (some .ret)), .obj D1 (.deferred (some [])), .blk b15 89 [(.int .i64 0), (mkS s2), (.int .i64 i1)], .blk b14 176 [(.int .i64 0), (.slice (some ⟨b7, 0, none⟩) ([1, 2, 3] : List Int).length 3), (.func (.func 111) #[] #[])], .row 89 (encToken).size l2.length (.slice ao2 l2.length cap2) xs1, .blk b9 177 [(.int .i64 0), (.slice none 0 0), .nilFunc, (.int .i64 0), (.slice (some ⟨b7, 0, none⟩) ([1, 2, 3] : List Int).length 3), (.func (.func 111) #[] #[]), (.int .i64 1), (.slice (some ⟨b8, 0, none⟩) ([2] : List Int).length 1), (.func (.func 146) #[] #[]), (.int .i64 0), (.slice none 0 0), .nilFunc, (.int .i64 2), (.slice none 0 0), (.func (.func 147) #[] #[]), (.int .i64 0), (.slice none 0 0), .nilFunc], .blk b5 9 [(mkS p_text)], .blk b4 81 [(.slice ao2 l2.length cap2)], .blk b3 29 [(.int .i64 r3)], .blk b2 3 [(.int .i64 i1)], .blk b1 81 [(.slice none 0 0)]] H2, ?_, (s.select [3, 4, 0, 1, 2, 5, 6, 7, 8, 9, 10] (by decide) rfl)⟩)
        refine after_ret ?_
        refine block_ret (then_ret ?_)
        obtain rfl := Option.some.inj hm
        refine retQ_retM (i := 0) rfl results44 (Res.cell rfl (box_load (i := 8) isAgg81 rfl) (Res.cell rfl (box_load (i := 7) isAgg3 rfl) (Res.cell rfl (box_load (i := 6) isAgg29 rfl) Res.nil))) rfl (fun w' s => ⟨s.below, ?_⟩)
        exact ⟨none, 0, rfl, SL.nil _ _ _, Nat.le_refl _⟩
       exact ALs.nil
      exact ALs.nil
     exact ALs.nil
    replace hm := ite_f hc11 hm
    refine WP.skip (tn (WP.region (Vl 7 isAgg81 rfl (V rfl (ov_load_whole (i := 0) isAgg89 sizeOf89 rfl rfl rfl rfl) ?_))))
    have rl7 : RL H2 encToken ([(Token.mk 0 s2 i1)] : List Token) [(.int .i64 0), (mkS s2), (.int .i64 i1)] := RL.cons (cs := [(.int .i64 0), (mkS s2), (.int .i64 i1)]) (xs := []) rfl (RL.nil _ _)
    refine ws rfl (os_buildSlice (cs := [(.int .i64 0), (mkS s2), (.int .i64 i1)]) (E := 89) (sz := 3) rfl rfl (fun _ => by kernel_rfl) rfl (by decide) (fun b16 => ?_))
    obtain ⟨l4, e8, hm⟩ := bind_some hm
    refine ws rfl (os_app (i := 3) (j := 0) (En := encToken) (xs := xs1) (ys := [(.int .i64 0), (mkS s2), (.int .i64 i1)]) underlying81 (by kernel_rfl : (prog.info? 89).map (fun i => (i.zero, i.size, i.bytes)) = some (some (.agg #[(.int .i64 0), (mkS []), (.int .i64 0)]), (encToken).size, 32)) rfl (by decide) rfl rfl rfl rfl rfl rfl rl4 rl7 e8 (fun ao4 cap4 rl8 => ?_))
    refine ws0 rfl (os_store (i := 8) (vs := [(.slice ao4 (l2 ++ ([(Token.mk 0 s2 i1)] : List Token)).length cap4)]) (cs' := [(.slice ao4 (l2 ++ ([(Token.mk 0 s2 i1)] : List Token)).length cap4)]) sizeOf81 rfl rfl rfl rfl rfl rfl rfl rfl rfl ?_)
    refine WL.nil (bn ?_)
    refine round_normal (i := 4) rfl ?_
    refine V rfl (ov_not rfl rfl) (Vm rfl ?_)
    refine wy rfl rfl (ov_move rfl rfl) ?_
    refine wy rfl rfl (ov_neq rfl rfl rfl) ?_
    refine V rfl (ov_pick_false rfl (guard_eq rfl rfl) rfl) (WL.nil (tn ?_))
    refine WP.cond rfl (fun hc12 => ?_) (fun hc12 => ?_)
    ·
     replace hm := ite_t hc12 hm
     refine WP.ret (then_ret (block_ret (then_ret (block_ret (then_ret ?_)))))
     refine retQ_ret (v := (.tuple #[])) results120 Res.nil rfl (fun w' s => ⟨St w H [.obj l1 (R1 .ready none), .obj D1 (.deferred (some [])), .row 89 (encToken).size ([(Token.mk 0 s2 i1)] : List Token).length (.slice (some ⟨b16, 0, none⟩) ([(Token.mk 0 s2 i1)] : List Token).length 1) [(.int .i64 0), (mkS s2), (.int .i64 i1)], .blk b15 89 [(.int .i64 0), (mkS s2), (.int .i64 i1)], .blk b14 176 [(.int .i64 0), (.slice (some ⟨b7, 0, none⟩) ([1, 2, 3] : List Int).length 3), (.func (.func 111) #[] #[])], .row 89 (encToken).size (l2 ++ ([(Token.mk 0 s2 i1)] : List Token)).length (.slice ao4 (l2 ++ ([(Token.mk 0 s2 i1)] : List Token)).length cap4) (xs1 ++ [(.int .i64 0), (mkS s2), (.int .i64 i1)]), .blk b9 177 [(.int .i64 0), (.slice none 0 0), .nilFunc, (.int .i64 0), (.slice (some ⟨b7, 0, none⟩) ([1, 2, 3] : List Int).length 3), (.func (.func 111) #[] #[]), (.int .i64 1), (.slice (some ⟨b8, 0, none⟩) ([2] : List Int).length 1), (.func (.func 146) #[] #[]), (.int .i64 0), (.slice none 0 0), .nilFunc, (.int .i64 2), (.slice none 0 0), (.func (.func 147) #[] #[]), (.int .i64 0), (.slice none 0 0), .nilFunc], .blk b5 9 [(mkS p_text)], .blk b4 81 [(.slice ao4 (l2 ++ ([(Token.mk 0 s2 i1)] : List Token)).length cap4)], .blk b3 29 [(.int .i64 0)], .blk b2 3 [(.int .i64 0)], .blk b1 81 [(.slice none 0 0)]] H2, ?_, (s.select [4, 5, 0, 1, 2, 3, 6, 7, 8, 9, 10, 11] (by decide) rfl)⟩)
     refine after_normal ?_
     refine bn (tn (WP.seq (WP.region (Vl 7 isAgg81 rfl ?_))))
     refine ws0 rfl (os_store (i := 10) (vs := [(.slice ao4 (l2 ++ ([(Token.mk 0 s2 i1)] : List Token)).length cap4)]) (cs' := [(.slice ao4 (l2 ++ ([(Token.mk 0 s2 i1)] : List Token)).length cap4)]) sizeOf81 rfl rfl rfl rfl rfl rfl rfl rfl rfl ?_)
     refine ws0 rfl (os_store (i := 9) (vs := [(.int .i64 0)]) (cs' := [(.int .i64 0)]) sizeOf3 rfl rfl rfl rfl rfl rfl rfl rfl rfl ?_)
     refine ws0 rfl (os_store (i := 8) (vs := [(.int .i64 0)]) (cs' := [(.int .i64 0)]) sizeOf29 rfl rfl rfl rfl rfl rfl rfl rfl rfl ?_)
     refine WL.nil (tn (WP.ret ?_))
     obtain rfl := Option.some.inj hm
     refine retQ_retM (i := 0) rfl results44 (Res.cell rfl (box_load (i := 9) isAgg81 rfl) (Res.cell rfl (box_load (i := 8) isAgg3 rfl) (Res.cell rfl (box_load (i := 7) isAgg29 rfl) Res.nil))) rfl (fun w' s => ⟨s.below, ?_⟩)
     obtain ⟨h5, hc13⟩ := s.ret_row (i := 3) rfl rl8
     exact ⟨ao4, cap4, rfl, h5, hc13⟩
    replace hm := ite_f hc12 hm
    refine WP.skip (tn (WP.region (Vm rfl (Vm rfl (V rfl (ov_add rfl rfl rfl) (Va rfl (WL.nil (bn (tn ?_)))))))))
    exact ⟨(IntKind.wrap .i64 (i1 + (if r2 > 1 then r2 else 1))), (l2 ++ ([(Token.mk 0 s2 i1)] : List Token)), ao4, cap4, (xs1 ++ [(.int .i64 0), (mkS s2), (.int .i64 i1)]), rl8, (Sub.all rfl), fun w' s => (s.select [3, 4, 5, 6, 7, 8, 9, 10, 11] (by decide) rfl), hm⟩
   replace hm := ite_f hc10 hm
   rcases Bool.eq_false_or_eq_true (r1 == 2) with hc14 | hc14
   ·
    replace hm := ite_t hc14 hm
    refine V rfl (ov_indexAddr_at (j := 2) underlying177 sizeOf176 rfl rfl rfl (eq_of_beq hc14) rfl) (V rfl (ov_load_boxes (i := 3) (vs := [(.int .i64 1), (.slice (some ⟨b8, 0, none⟩) ([2] : List Int).length 1), (.func (.func 146) #[] #[])]) isAgg176 sizeOf176 rfl rfl rfl rfl (part_of rfl)) ?_)
    refine ws rfl (os_alloc (cs := [(.int .i64 0), (.slice none 0 0), .nilFunc]) zeroValue176 rfl rfl (fun b17 => ?_))
    refine ws0 rfl (os_store (i := 0) (vs := [(.int .i64 1), (.slice (some ⟨b8, 0, none⟩) ([2] : List Int).length 1), (.func (.func 146) #[] #[])]) (cs' := [(.int .i64 1), (.slice (some ⟨b8, 0, none⟩) ([2] : List Int).length 1), (.func (.func 146) #[] #[])]) sizeOf176 rfl rfl rfl rfl rfl rfl rfl rfl rfl ?_)
    refine WL.nil (tn (WP.seq (WP.seq (WP.region (V rfl (ov_fieldAddr underlying176 rfl rfl rfl sizeOf165 rfl rfl) (Vl 0 isAgg165 rfl (V rfl (ov_binOp (r := .bool false) rfl rfl rfl eqGuard_fn (fun _ => by kernel_rfl)) (WL.nil (tn (WP.cond_false rfl (WP.skip (tn (WP.seq ?_)))))))))))))
    refine WP.region_draws (by kernel_rfl) (by kernel_rfl) (fun _ s => s.drew) ?_
    refine qf rfl (ov_load_box (i := 5) isAgg9 rfl rfl rfl rfl) ?_
    refine qf rfl (ov_move rfl rfl) ?_
    obtain ⟨s3, e9, hm⟩ := bind_some hm
    refine qf rfl (ov_slice_string_from underlying9 rfl rfl rfl e9) ?_
    refine qf rfl (ov_fieldAddr underlying176 rfl rfl rfl sizeOf174 rfl rfl) ?_
    refine qf rfl (ov_load_box (i := 0) isAgg174 rfl rfl rfl rfl) ?_
    obtain ⟨r4, e10, hm⟩ := bind_some hm
    refine QL.quiet (Runs.free rfl) rfl rfl (oq_con (r := (.int .i64 r4)) call122 rfl rfl (fun w' s => ⟨_, (lexer_run_con s3 ([2] : List Int) (some ⟨b8, 0, none⟩) 1  w' H2 s.hold h3 hc4 hG r4 e10)⟩)) ?_
    refine qf rfl (ov_max rfl rfl rfl) ?_
    refine qf rfl (ov_assign rfl rfl) ?_
    refine QL.nil ?_
    refine tn (WP.seq (WP.region (Vl 5 isAgg9 rfl (Vm rfl (Vm rfl (Vm rfl (V rfl (ov_add rfl rfl rfl) ?_)))))))
    obtain ⟨s4, e11, hm⟩ := bind_some hm
    refine V rfl (ov_slice_string underlying9 rfl rfl rfl rfl e11) (Va rfl (WL.nil (tn (WP.seq (WP.seq (WP.region (V rfl (ov_fieldAddr underlying176 rfl rfl rfl sizeOf165 rfl rfl) (Vl 0 isAgg165 rfl (Vm rfl ?_)))))))))
    obtain ⟨r5, e12, hm⟩ := bind_some hm
    refine wo rfl (oq_conv (r := (.int .i64 r5)) call146 rfl (cap := []) rfl rfl (fun w' s => ⟨_, (lexer_Number_con s4  w' H2 s.hold hG r5 e12)⟩)) ?_
    refine Va rfl (WL.nil (tn (WP.seq (WP.region (Vm rfl (V rfl (ov_fieldAddr underlying176 rfl rfl rfl sizeOf3 rfl rfl) (Vl 0 isAgg3 rfl (Vm rfl (Vm rfl (V rfl (ov_build (r := (.agg #[(.int .i64 1), (mkS s4), (.int .i64 i1)])) rfl rfl (fun _ => by kernel_rfl)) (Vm rfl ?_)))))))))))
    refine WL.yield (i := 2) (vs := [(.agg #[(.int .i64 1), (mkS s4), (.int .i64 i1)]), (.int .i64 r5)]) (Runs.free rfl) rfl rfl rfl rfl rfl hr1 rfl rfl rfl ?_
    refine WP.seq (WP.region ?_)
    refine ws rfl (os_alloc (cs := [(.int .i64 0), (mkS []), (.int .i64 0)]) zeroValue89 rfl rfl (fun b18 => ?_))
    refine ws0 rfl (os_store (i := 0) (vs := [(.int .i64 1), (mkS s4), (.int .i64 i1)]) (cs' := [(.int .i64 1), (mkS s4), (.int .i64 i1)]) sizeOf89 rfl rfl rfl rfl rfl rfl rfl rfl rfl ?_)
    refine WL.nil (tn (WP.region (Va rfl (WL.nil (tn ?_)))))
    refine begin_of (i := 3) rfl ?_
    refine WP.block (WP.seq (WP.seq (WP.region (Vm rfl (V rfl (ov_neq rfl rfl rfl) (WL.nil (tn ?_)))))))
    refine WP.cond rfl (fun hc15 => ?_) (fun hc15 => ?_)
    ·
     replace hm := ite_t hc15 hm
     refine WP.seq ?_
     refine WP.region_anyF (S₀ := St w H [.blk b18 89 [(.int .i64 1), (mkS s4), (.int .i64 i1)], .blk b17 176 [(.int .i64 1), (.slice (some ⟨b8, 0, none⟩) ([2] : List Int).length 1), (.func (.func 146) #[] #[])], .row 89 (encToken).size l2.length (.slice ao2 l2.length cap2) xs1, .obj l1 (R1 .busy none), .obj D1 (.deferred (some [])), .blk b9 177 [(.int .i64 0), (.slice none 0 0), .nilFunc, (.int .i64 0), (.slice (some ⟨b7, 0, none⟩) ([1, 2, 3] : List Int).length 3), (.func (.func 111) #[] #[]), (.int .i64 1), (.slice (some ⟨b8, 0, none⟩) ([2] : List Int).length 1), (.func (.func 146) #[] #[]), (.int .i64 0), (.slice none 0 0), .nilFunc, (.int .i64 2), (.slice none 0 0), (.func (.func 147) #[] #[]), (.int .i64 0), (.slice none 0 0), .nilFunc], .blk b5 9 [(mkS p_text)], .blk b4 81 [(.slice ao2 l2.length cap2)]] H2) 6 rfl (by kernel_rfl) (by kernel_rfl) (fun w' s => (s.select [0, 1, 2, 3, 4, 5, 6, 7] (by decide) rfl)) (fun _ s => s.drew) ?_
     refine TQ 0 (by kernel_rfl) rfl (ov_fieldAddr underlying89 rfl rfl rfl sizeOf3 rfl rfl) (TQ 1 (by kernel_rfl) rfl (ov_load_box (i := 0) isAgg3 rfl rfl rfl rfl) (TQ 2 (by kernel_rfl) rfl (ov_move rfl rfl) ?_))
     refine AL.any (rs := [3]) (by kernel_rfl) (by decide) ?_
     refine ALs.cons0 (i := 3) rfl (Runs.free rfl) rfl ?_ ?_
     ·
      refine os_store (i := 10) (vs := [(.slice none 0 0)]) (cs' := [(.slice none 0 0)]) sizeOf81 rfl rfl rfl rfl rfl rfl rfl rfl rfl ?_
      refine ⟨fun w' s => (s.select [0, 1, 2, 3, 4, 5, 6, 7] (by decide) rfl), ?_⟩
      refine AL.any (rs := [4]) (by kernel_rfl) (by decide) ?_
      refine ALs.cons0 (i := 4) rfl (Runs.free rfl) rfl ?_ ?_
      ·
       refine os_store (i := 9) (vs := [(.int .i64 i1)]) (cs' := [(.int .i64 i1)]) sizeOf3 rfl rfl rfl rfl rfl rfl rfl rfl rfl ?_
       refine ⟨fun w' s => (s.select [0, 1, 2, 3, 4, 5, 6, 7] (by decide) rfl), ?_⟩
       refine AL.any (rs := [5]) (by kernel_rfl) (by decide) ?_
       refine ALs.cons0 (i := 5) rfl (Runs.free rfl) rfl ?_ ?_
       ·
        refine os_store (i := 8) (vs := [(.int .i64 r5)]) (cs' := [(.int .i64 r5)]) sizeOf29 rfl rfl rfl rfl rfl rfl rfl rfl rfl ?_
        refine ⟨fun w' s => (s.select [0, 1, 2, 3, 4, 5, 6, 7] (by decide) rfl), ?_⟩
        refine AL.done (by kernel_rfl) ?_
        refine tn (WP.ret (then_ret (block_ret ?_)))
        refine round_ret (i := 3) rfl ?_
        refine V rfl (ov_not rfl rfl) (Vm rfl (Vi rfl (Idle.no rfl rfl rfl rfl) (Vi rfl (Idle.no rfl rfl rfl rfl) (V rfl (ov_pick_true rfl (guard_eq rfl rfl) rfl) (WL.nil (tn (WP.cond_true rfl (WP.ret (then_ret (block_ret (then_ret (block_ret (then_ret ?_)))))))))))))
        refine retQ_ret (v := (.tuple #[])) results120 Res.nil rfl (fun w' s => ⟨St w H [.obj l1 (R1 .done (some .ret)), .obj D1 (.deferred (some [])), .blk b18 89 [(.int .i64 1), (mkS s4), (.int .i64 i1)], .blk b17 176 [(.int .i64 1), (.slice (some ⟨b8, 0, none⟩) ([2] : List Int).length 1), (.func (.func 146) #[] #[])], .row 89 (encToken).size l2.length (.slice ao2 l2.length cap2) xs1, .blk b9 177 [(.int .i64 0), (.slice none 0 0), .nilFunc, (.int .i64 0), (.slice (some ⟨b7, 0, none⟩) ([1, 2, 3] : List Int).length 3), (.func (.func 111) #[] #[]), (.int .i64 1), (.slice (some ⟨b8, 0, none⟩) ([2] : List Int).length 1), (.func (.func 146) #[] #[]), (.int .i64 0), (.slice none 0 0), .nilFunc, (.int .i64 2), (.slice none 0 0), (.func (.func 147) #[] #[]), (.int .i64 0), (.slice none 0 0), .nilFunc], .blk b5 9 [(mkS p_text)], .blk b4 81 [(.slice ao2 l2.length cap2)], .blk b3 29 [(.int .i64 r5)], .blk b2 3 [(.int .i64 i1)], .blk b1 81 [(.slice none 0 0)]] H2, ?_, (s.select [3, 4, 0, 1, 2, 5, 6, 7, 8, 9, 10] (by decide) rfl)⟩)
        refine after_ret ?_
        refine block_ret (then_ret ?_)
        obtain rfl := Option.some.inj hm
        refine retQ_retM (i := 0) rfl results44 (Res.cell rfl (box_load (i := 8) isAgg81 rfl) (Res.cell rfl (box_load (i := 7) isAgg3 rfl) (Res.cell rfl (box_load (i := 6) isAgg29 rfl) Res.nil))) rfl (fun w' s => ⟨s.below, ?_⟩)
        exact ⟨none, 0, rfl, SL.nil _ _ _, Nat.le_refl _⟩
       exact ALs.nil
      exact ALs.nil
     exact ALs.nil
    replace hm := ite_f hc15 hm
    refine WP.skip (tn (WP.region (Vl 7 isAgg81 rfl (V rfl (ov_load_whole (i := 0) isAgg89 sizeOf89 rfl rfl rfl rfl) ?_))))
    have rl9 : RL H2 encToken ([(Token.mk 1 s4 i1)] : List Token) [(.int .i64 1), (mkS s4), (.int .i64 i1)] := RL.cons (cs := [(.int .i64 1), (mkS s4), (.int .i64 i1)]) (xs := []) rfl (RL.nil _ _)
    refine ws rfl (os_buildSlice (cs := [(.int .i64 1), (mkS s4), (.int .i64 i1)]) (E := 89) (sz := 3) rfl rfl (fun _ => by kernel_rfl) rfl (by decide) (fun b19 => ?_))
    obtain ⟨l5, e13, hm⟩ := bind_some hm
    refine ws rfl (os_app (i := 3) (j := 0) (En := encToken) (xs := xs1) (ys := [(.int .i64 1), (mkS s4), (.int .i64 i1)]) underlying81 (by kernel_rfl : (prog.info? 89).map (fun i => (i.zero, i.size, i.bytes)) = some (some (.agg #[(.int .i64 0), (mkS []), (.int .i64 0)]), (encToken).size, 32)) rfl (by decide) rfl rfl rfl rfl rfl rfl rl4 rl9 e13 (fun ao5 cap5 rl10 => ?_))
    refine ws0 rfl (os_store (i := 8) (vs := [(.slice ao5 (l2 ++ ([(Token.mk 1 s4 i1)] : List Token)).length cap5)]) (cs' := [(.slice ao5 (l2 ++ ([(Token.mk 1 s4 i1)] : List Token)).length cap5)]) sizeOf81 rfl rfl rfl rfl rfl rfl rfl rfl rfl ?_)
    refine WL.nil (bn ?_)
    refine round_normal (i := 4) rfl ?_
    refine V rfl (ov_not rfl rfl) (Vm rfl ?_)
    refine wy rfl rfl (ov_move rfl rfl) ?_
    refine wy rfl rfl (ov_neq rfl rfl rfl) ?_
    refine V rfl (ov_pick_false rfl (guard_eq rfl rfl) rfl) (WL.nil (tn ?_))
    refine WP.cond rfl (fun hc16 => ?_) (fun hc16 => ?_)
    ·
     replace hm := ite_t hc16 hm
     refine WP.ret (then_ret (block_ret (then_ret (block_ret (then_ret ?_)))))
     refine retQ_ret (v := (.tuple #[])) results120 Res.nil rfl (fun w' s => ⟨St w H [.obj l1 (R1 .ready none), .obj D1 (.deferred (some [])), .row 89 (encToken).size ([(Token.mk 1 s4 i1)] : List Token).length (.slice (some ⟨b19, 0, none⟩) ([(Token.mk 1 s4 i1)] : List Token).length 1) [(.int .i64 1), (mkS s4), (.int .i64 i1)], .blk b18 89 [(.int .i64 1), (mkS s4), (.int .i64 i1)], .blk b17 176 [(.int .i64 1), (.slice (some ⟨b8, 0, none⟩) ([2] : List Int).length 1), (.func (.func 146) #[] #[])], .row 89 (encToken).size (l2 ++ ([(Token.mk 1 s4 i1)] : List Token)).length (.slice ao5 (l2 ++ ([(Token.mk 1 s4 i1)] : List Token)).length cap5) (xs1 ++ [(.int .i64 1), (mkS s4), (.int .i64 i1)]), .blk b9 177 [(.int .i64 0), (.slice none 0 0), .nilFunc, (.int .i64 0), (.slice (some ⟨b7, 0, none⟩) ([1, 2, 3] : List Int).length 3), (.func (.func 111) #[] #[]), (.int .i64 1), (.slice (some ⟨b8, 0, none⟩) ([2] : List Int).length 1), (.func (.func 146) #[] #[]), (.int .i64 0), (.slice none 0 0), .nilFunc, (.int .i64 2), (.slice none 0 0), (.func (.func 147) #[] #[]), (.int .i64 0), (.slice none 0 0), .nilFunc], .blk b5 9 [(mkS p_text)], .blk b4 81 [(.slice ao5 (l2 ++ ([(Token.mk 1 s4 i1)] : List Token)).length cap5)], .blk b3 29 [(.int .i64 0)], .blk b2 3 [(.int .i64 0)], .blk b1 81 [(.slice none 0 0)]] H2, ?_, (s.select [4, 5, 0, 1, 2, 3, 6, 7, 8, 9, 10, 11] (by decide) rfl)⟩)
     refine after_normal ?_
     refine bn (tn (WP.seq (WP.region (Vl 7 isAgg81 rfl ?_))))
     refine ws0 rfl (os_store (i := 10) (vs := [(.slice ao5 (l2 ++ ([(Token.mk 1 s4 i1)] : List Token)).length cap5)]) (cs' := [(.slice ao5 (l2 ++ ([(Token.mk 1 s4 i1)] : List Token)).length cap5)]) sizeOf81 rfl rfl rfl rfl rfl rfl rfl rfl rfl ?_)
     refine ws0 rfl (os_store (i := 9) (vs := [(.int .i64 0)]) (cs' := [(.int .i64 0)]) sizeOf3 rfl rfl rfl rfl rfl rfl rfl rfl rfl ?_)
     refine ws0 rfl (os_store (i := 8) (vs := [(.int .i64 0)]) (cs' := [(.int .i64 0)]) sizeOf29 rfl rfl rfl rfl rfl rfl rfl rfl rfl ?_)
     refine WL.nil (tn (WP.ret ?_))
     obtain rfl := Option.some.inj hm
     refine retQ_retM (i := 0) rfl results44 (Res.cell rfl (box_load (i := 9) isAgg81 rfl) (Res.cell rfl (box_load (i := 8) isAgg3 rfl) (Res.cell rfl (box_load (i := 7) isAgg29 rfl) Res.nil))) rfl (fun w' s => ⟨s.below, ?_⟩)
     obtain ⟨h6, hc17⟩ := s.ret_row (i := 3) rfl rl10
     exact ⟨ao5, cap5, rfl, h6, hc17⟩
    replace hm := ite_f hc16 hm
    refine WP.skip (tn (WP.region (Vm rfl (Vm rfl (V rfl (ov_add rfl rfl rfl) (Va rfl (WL.nil (bn (tn ?_)))))))))
    exact ⟨(IntKind.wrap .i64 (i1 + (if r4 > 1 then r4 else 1))), (l2 ++ ([(Token.mk 1 s4 i1)] : List Token)), ao5, cap5, (xs1 ++ [(.int .i64 1), (mkS s4), (.int .i64 i1)]), rl10, (Sub.all rfl), fun w' s => (s.select [3, 4, 5, 6, 7, 8, 9, 10, 11] (by decide) rfl), hm⟩
   replace hm := ite_f hc14 hm
   rcases Bool.eq_false_or_eq_true (r1 == 3) with hc18 | hc18
   ·
    replace hm := ite_t hc18 hm
    refine V rfl (ov_indexAddr_at (j := 3) underlying177 sizeOf176 rfl rfl rfl (eq_of_beq hc18) rfl) (V rfl (ov_load_boxes (i := 3) (vs := [(.int .i64 0), (.slice none 0 0), .nilFunc]) isAgg176 sizeOf176 rfl rfl rfl rfl (part_of rfl)) ?_)
    refine ws rfl (os_alloc (cs := [(.int .i64 0), (.slice none 0 0), .nilFunc]) zeroValue176 rfl rfl (fun b20 => ?_))
    refine ws0 rfl (os_store (i := 0) (vs := [(.int .i64 0), (.slice none 0 0), .nilFunc]) (cs' := [(.int .i64 0), (.slice none 0 0), .nilFunc]) sizeOf176 rfl rfl rfl rfl rfl rfl rfl rfl rfl ?_)
    refine WL.nil (tn (WP.seq (WP.seq (WP.region (V rfl (ov_fieldAddr underlying176 rfl rfl rfl sizeOf165 rfl rfl) (Vl 0 isAgg165 rfl (V rfl (ov_binOp (r := .bool true) rfl rfl rfl eqGuard_nofn (fun _ => by kernel_rfl)) (WL.nil (tn (WP.cond_true rfl (WP.seq (WP.region (Vm rfl ?_)))))))))))))
    refine Vm rfl (V rfl (ov_build (r := (.agg #[(.int .i64 0), (mkS []), (.int .i64 i1)])) rfl rfl (fun _ => by kernel_rfl)) ?_)
    refine WL.yield (i := 2) (vs := [(.agg #[(.int .i64 0), (mkS []), (.int .i64 i1)]), (.int .i64 4)]) (Runs.free rfl) rfl rfl rfl rfl rfl hr1 rfl rfl rfl ?_
    refine WP.seq (WP.region ?_)
    refine ws rfl (os_alloc (cs := [(.int .i64 0), (mkS []), (.int .i64 0)]) zeroValue89 rfl rfl (fun b21 => ?_))
    refine ws0 rfl (os_store (i := 0) (vs := [(.int .i64 0), (mkS []), (.int .i64 i1)]) (cs' := [(.int .i64 0), (mkS []), (.int .i64 i1)]) sizeOf89 rfl rfl rfl rfl rfl rfl rfl rfl rfl ?_)
    refine WL.nil (tn (WP.region (Va rfl (WL.nil (tn ?_)))))
    refine begin_of (i := 3) rfl ?_
    refine WP.block (WP.seq (WP.seq (WP.region (Vm rfl (V rfl (ov_neq rfl rfl rfl) (WL.nil (tn ?_)))))))
    refine WP.cond rfl (fun hc19 => ?_) (fun hc19 => ?_)
    ·
     replace hm := ite_t hc19 hm
     refine WP.seq ?_
     refine WP.region_anyF (S₀ := St w H [.blk b21 89 [(.int .i64 0), (mkS []), (.int .i64 i1)], .blk b20 176 [(.int .i64 0), (.slice none 0 0), .nilFunc], .row 89 (encToken).size l2.length (.slice ao2 l2.length cap2) xs1, .obj l1 (R1 .busy none), .obj D1 (.deferred (some [])), .blk b9 177 [(.int .i64 0), (.slice none 0 0), .nilFunc, (.int .i64 0), (.slice (some ⟨b7, 0, none⟩) ([1, 2, 3] : List Int).length 3), (.func (.func 111) #[] #[]), (.int .i64 1), (.slice (some ⟨b8, 0, none⟩) ([2] : List Int).length 1), (.func (.func 146) #[] #[]), (.int .i64 0), (.slice none 0 0), .nilFunc, (.int .i64 2), (.slice none 0 0), (.func (.func 147) #[] #[]), (.int .i64 0), (.slice none 0 0), .nilFunc], .blk b5 9 [(mkS p_text)], .blk b4 81 [(.slice ao2 l2.length cap2)]] H2) 6 rfl (by kernel_rfl) (by kernel_rfl) (fun w' s => (s.select [0, 1, 2, 3, 4, 5, 6, 7] (by decide) rfl)) (fun _ s => s.drew) ?_
     refine TQ 0 (by kernel_rfl) rfl (ov_fieldAddr underlying89 rfl rfl rfl sizeOf3 rfl rfl) (TQ 1 (by kernel_rfl) rfl (ov_load_box (i := 0) isAgg3 rfl rfl rfl rfl) (TQ 2 (by kernel_rfl) rfl (ov_move rfl rfl) ?_))
     refine AL.any (rs := [3]) (by kernel_rfl) (by decide) ?_
     refine ALs.cons0 (i := 3) rfl (Runs.free rfl) rfl ?_ ?_
     ·
      refine os_store (i := 10) (vs := [(.slice none 0 0)]) (cs' := [(.slice none 0 0)]) sizeOf81 rfl rfl rfl rfl rfl rfl rfl rfl rfl ?_
      refine ⟨fun w' s => (s.select [0, 1, 2, 3, 4, 5, 6, 7] (by decide) rfl), ?_⟩
      refine AL.any (rs := [4]) (by kernel_rfl) (by decide) ?_
      refine ALs.cons0 (i := 4) rfl (Runs.free rfl) rfl ?_ ?_
      ·
       refine os_store (i := 9) (vs := [(.int .i64 i1)]) (cs' := [(.int .i64 i1)]) sizeOf3 rfl rfl rfl rfl rfl rfl rfl rfl rfl ?_
       refine ⟨fun w' s => (s.select [0, 1, 2, 3, 4, 5, 6, 7] (by decide) rfl), ?_⟩
       refine AL.any (rs := [5]) (by kernel_rfl) (by decide) ?_
       refine ALs.cons0 (i := 5) rfl (Runs.free rfl) rfl ?_ ?_
       ·
        refine os_store (i := 8) (vs := [(.int .i64 4)]) (cs' := [(.int .i64 4)]) sizeOf29 rfl rfl rfl rfl rfl rfl rfl rfl rfl ?_
        refine ⟨fun w' s => (s.select [0, 1, 2, 3, 4, 5, 6, 7] (by decide) rfl), ?_⟩
        refine AL.done (by kernel_rfl) ?_
        refine tn (WP.ret (then_ret (block_ret ?_)))
        refine round_ret (i := 3) rfl ?_
        refine WL.nil (tn (WP.ret (then_ret (block_ret (then_ret (block_ret (then_ret ?_)))))))
        refine retQ_ret (v := (.tuple #[])) results120 Res.nil rfl (fun w' s => ⟨St w H [.obj l1 (R1 .done (some .ret)), .obj D1 (.deferred (some [])), .blk b21 89 [(.int .i64 0), (mkS []), (.int .i64 i1)], .blk b20 176 [(.int .i64 0), (.slice none 0 0), .nilFunc], .row 89 (encToken).size l2.length (.slice ao2 l2.length cap2) xs1, .blk b9 177 [(.int .i64 0), (.slice none 0 0), .nilFunc, (.int .i64 0), (.slice (some ⟨b7, 0, none⟩) ([1, 2, 3] : List Int).length 3), (.func (.func 111) #[] #[]), (.int .i64 1), (.slice (some ⟨b8, 0, none⟩) ([2] : List Int).length 1), (.func (.func 146) #[] #[]), (.int .i64 0), (.slice none 0 0), .nilFunc, (.int .i64 2), (.slice none 0 0), (.func (.func 147) #[] #[]), (.int .i64 0), (.slice none 0 0), .nilFunc], .blk b5 9 [(mkS p_text)], .blk b4 81 [(.slice ao2 l2.length cap2)], .blk b3 29 [(.int .i64 4)], .blk b2 3 [(.int .i64 i1)], .blk b1 81 [(.slice none 0 0)]] H2, ?_, (s.select [3, 4, 0, 1, 2, 5, 6, 7, 8, 9, 10] (by decide) rfl)⟩)
        refine after_ret ?_
        refine block_ret (then_ret ?_)
        obtain rfl := Option.some.inj hm
        refine retQ_retM (i := 0) rfl results44 (Res.cell rfl (box_load (i := 8) isAgg81 rfl) (Res.cell rfl (box_load (i := 7) isAgg3 rfl) (Res.cell rfl (box_load (i := 6) isAgg29 rfl) Res.nil))) rfl (fun w' s => ⟨s.below, ?_⟩)
        exact ⟨none, 0, rfl, SL.nil _ _ _, Nat.le_refl _⟩
       exact ALs.nil
      exact ALs.nil
     exact ALs.nil
    replace hm := ite_f hc19 hm
    refine WP.skip (tn (WP.region (Vl 7 isAgg81 rfl (V rfl (ov_load_whole (i := 0) isAgg89 sizeOf89 rfl rfl rfl rfl) ?_))))
    have rl11 : RL H2 encToken ([(Token.mk 0 [] i1)] : List Token) [(.int .i64 0), (mkS []), (.int .i64 i1)] := RL.cons (cs := [(.int .i64 0), (mkS []), (.int .i64 i1)]) (xs := []) rfl (RL.nil _ _)
    refine ws rfl (os_buildSlice (cs := [(.int .i64 0), (mkS []), (.int .i64 i1)]) (E := 89) (sz := 3) rfl rfl (fun _ => by kernel_rfl) rfl (by decide) (fun b22 => ?_))
    obtain ⟨l6, e14, hm⟩ := bind_some hm
    refine ws rfl (os_app (i := 3) (j := 0) (En := encToken) (xs := xs1) (ys := [(.int .i64 0), (mkS []), (.int .i64 i1)]) underlying81 (by kernel_rfl : (prog.info? 89).map (fun i => (i.zero, i.size, i.bytes)) = some (some (.agg #[(.int .i64 0), (mkS []), (.int .i64 0)]), (encToken).size, 32)) rfl (by decide) rfl rfl rfl rfl rfl rfl rl4 rl11 e14 (fun ao6 cap6 rl12 => ?_))
    refine ws0 rfl (os_store (i := 8) (vs := [(.slice ao6 (l2 ++ ([(Token.mk 0 [] i1)] : List Token)).length cap6)]) (cs' := [(.slice ao6 (l2 ++ ([(Token.mk 0 [] i1)] : List Token)).length cap6)]) sizeOf81 rfl rfl rfl rfl rfl rfl rfl rfl rfl ?_)
    refine WL.nil (bn ?_)
    refine round_normal (i := 4) rfl ?_
    refine WL.nil (tn (WP.ret (then_ret (block_ret (then_ret (block_ret (then_ret ?_)))))))
    refine retQ_ret (v := (.tuple #[])) results120 Res.nil rfl (fun w' s => ⟨St w H [.obj l1 (R1 .ready none), .obj D1 (.deferred (some [])), .row 89 (encToken).size ([(Token.mk 0 [] i1)] : List Token).length (.slice (some ⟨b22, 0, none⟩) ([(Token.mk 0 [] i1)] : List Token).length 1) [(.int .i64 0), (mkS []), (.int .i64 i1)], .blk b21 89 [(.int .i64 0), (mkS []), (.int .i64 i1)], .blk b20 176 [(.int .i64 0), (.slice none 0 0), .nilFunc], .row 89 (encToken).size (l2 ++ ([(Token.mk 0 [] i1)] : List Token)).length (.slice ao6 (l2 ++ ([(Token.mk 0 [] i1)] : List Token)).length cap6) (xs1 ++ [(.int .i64 0), (mkS []), (.int .i64 i1)]), .blk b9 177 [(.int .i64 0), (.slice none 0 0), .nilFunc, (.int .i64 0), (.slice (some ⟨b7, 0, none⟩) ([1, 2, 3] : List Int).length 3), (.func (.func 111) #[] #[]), (.int .i64 1), (.slice (some ⟨b8, 0, none⟩) ([2] : List Int).length 1), (.func (.func 146) #[] #[]), (.int .i64 0), (.slice none 0 0), .nilFunc, (.int .i64 2), (.slice none 0 0), (.func (.func 147) #[] #[]), (.int .i64 0), (.slice none 0 0), .nilFunc], .blk b5 9 [(mkS p_text)], .blk b4 81 [(.slice ao6 (l2 ++ ([(Token.mk 0 [] i1)] : List Token)).length cap6)], .blk b3 29 [(.int .i64 0)], .blk b2 3 [(.int .i64 0)], .blk b1 81 [(.slice none 0 0)]] H2, ?_, (s.select [4, 5, 0, 1, 2, 3, 6, 7, 8, 9, 10, 11] (by decide) rfl)⟩)
    refine after_normal ?_
    refine bn (tn (WP.seq (WP.region (Vl 7 isAgg81 rfl ?_))))
    refine ws0 rfl (os_store (i := 10) (vs := [(.slice ao6 (l2 ++ ([(Token.mk 0 [] i1)] : List Token)).length cap6)]) (cs' := [(.slice ao6 (l2 ++ ([(Token.mk 0 [] i1)] : List Token)).length cap6)]) sizeOf81 rfl rfl rfl rfl rfl rfl rfl rfl rfl ?_)
    refine ws0 rfl (os_store (i := 9) (vs := [(.int .i64 0)]) (cs' := [(.int .i64 0)]) sizeOf3 rfl rfl rfl rfl rfl rfl rfl rfl rfl ?_)
    refine ws0 rfl (os_store (i := 8) (vs := [(.int .i64 0)]) (cs' := [(.int .i64 0)]) sizeOf29 rfl rfl rfl rfl rfl rfl rfl rfl rfl ?_)
    refine WL.nil (tn (WP.ret ?_))
    obtain rfl := Option.some.inj hm
    refine retQ_retM (i := 0) rfl results44 (Res.cell rfl (box_load (i := 9) isAgg81 rfl) (Res.cell rfl (box_load (i := 8) isAgg3 rfl) (Res.cell rfl (box_load (i := 7) isAgg29 rfl) Res.nil))) rfl (fun w' s => ⟨s.below, ?_⟩)
    obtain ⟨h7, hc20⟩ := s.ret_row (i := 3) rfl rl12
    exact ⟨ao6, cap6, rfl, h7, hc20⟩
   replace hm := ite_f hc18 hm
   rcases Bool.eq_false_or_eq_true (r1 == 4) with hc21 | hc21
   ·
    replace hm := ite_t hc21 hm
    refine V rfl (ov_indexAddr_at (j := 4) underlying177 sizeOf176 rfl rfl rfl (eq_of_beq hc21) rfl) (V rfl (ov_load_boxes (i := 3) (vs := [(.int .i64 2), (.slice none 0 0), (.func (.func 147) #[] #[])]) isAgg176 sizeOf176 rfl rfl rfl rfl (part_of rfl)) ?_)
    refine ws rfl (os_alloc (cs := [(.int .i64 0), (.slice none 0 0), .nilFunc]) zeroValue176 rfl rfl (fun b23 => ?_))
    refine ws0 rfl (os_store (i := 0) (vs := [(.int .i64 2), (.slice none 0 0), (.func (.func 147) #[] #[])]) (cs' := [(.int .i64 2), (.slice none 0 0), (.func (.func 147) #[] #[])]) sizeOf176 rfl rfl rfl rfl rfl rfl rfl rfl rfl ?_)
    refine WL.nil (tn (WP.seq (WP.seq (WP.region (V rfl (ov_fieldAddr underlying176 rfl rfl rfl sizeOf165 rfl rfl) (Vl 0 isAgg165 rfl (V rfl (ov_binOp (r := .bool false) rfl rfl rfl eqGuard_fn (fun _ => by kernel_rfl)) (WL.nil (tn (WP.cond_false rfl (WP.skip (tn (WP.seq ?_)))))))))))))
    refine WP.region_draws (by kernel_rfl) (by kernel_rfl) (fun _ s => s.drew) ?_
    refine qf rfl (ov_load_box (i := 5) isAgg9 rfl rfl rfl rfl) ?_
    refine qf rfl (ov_move rfl rfl) ?_
    obtain ⟨s5, e15, hm⟩ := bind_some hm
    refine qf rfl (ov_slice_string_from underlying9 rfl rfl rfl e15) ?_
    refine qf rfl (ov_fieldAddr underlying176 rfl rfl rfl sizeOf174 rfl rfl) ?_
    refine qf rfl (ov_load_box (i := 0) isAgg174 rfl rfl rfl rfl) ?_
    obtain ⟨r6, e16, hm⟩ := bind_some hm
    refine QL.quiet (Runs.free rfl) rfl rfl (oq_con (r := (.int .i64 r6)) call122 rfl rfl (fun w' s => ⟨_, (lexer_run_con s5 [] none 0  w' H2 s.hold (SL.nil _ _ _) (Nat.le_refl _) hG r6 e16)⟩)) ?_
    refine qf rfl (ov_max rfl rfl rfl) ?_
    refine qf rfl (ov_assign rfl rfl) ?_
    refine QL.nil ?_
    refine tn (WP.seq (WP.region (Vl 5 isAgg9 rfl (Vm rfl (Vm rfl (Vm rfl (V rfl (ov_add rfl rfl rfl) ?_)))))))
    obtain ⟨s6, e17, hm⟩ := bind_some hm
    refine V rfl (ov_slice_string underlying9 rfl rfl rfl rfl e17) (Va rfl (WL.nil (tn (WP.seq (WP.seq (WP.region (V rfl (ov_fieldAddr underlying176 rfl rfl rfl sizeOf165 rfl rfl) (Vl 0 isAgg165 rfl (Vm rfl ?_)))))))))
    refine ws rfl (os_inline (cap := []) (vs := [(mkS s6)]) call147 rfl rfl rfl func147 rfl 3 ntmps147 rfl (fun w' s => ?_))
    refine WP.seq (WP.region (Va rfl (WL.nil (tn (WP.seq (WP.region (Va rfl (WL.nil (tn (WP.ret ?_))))))))))
    refine retQ_ret (v := (.int .i64 0)) results147 (Res.tmp rfl Res.nil) rfl (fun w' s => ⟨_, ?_, s⟩)
    refine Va rfl (WL.nil (tn (WP.seq (WP.region (Vm rfl (V rfl (ov_fieldAddr underlying176 rfl rfl rfl sizeOf3 rfl rfl) (Vl 0 isAgg3 rfl (Vm rfl (Vm rfl (V rfl (ov_build (r := (.agg #[(.int .i64 2), (mkS s6), (.int .i64 i1)])) rfl rfl (fun _ => by kernel_rfl)) (Vm rfl ?_)))))))))))
    refine WL.yield (i := 2) (vs := [(.agg #[(.int .i64 2), (mkS s6), (.int .i64 i1)]), (.int .i64 0)]) (Runs.free rfl) rfl rfl rfl rfl rfl hr1 rfl rfl rfl ?_
    refine WP.seq (WP.region ?_)
    refine ws rfl (os_alloc (cs := [(.int .i64 0), (mkS []), (.int .i64 0)]) zeroValue89 rfl rfl (fun b24 => ?_))
    refine ws0 rfl (os_store (i := 0) (vs := [(.int .i64 2), (mkS s6), (.int .i64 i1)]) (cs' := [(.int .i64 2), (mkS s6), (.int .i64 i1)]) sizeOf89 rfl rfl rfl rfl rfl rfl rfl rfl rfl ?_)
    refine WL.nil (tn (WP.region (Va rfl (WL.nil (tn ?_)))))
    refine begin_of (i := 3) rfl ?_
    refine WP.block (WP.seq (WP.seq (WP.region (Vm rfl (V rfl (ov_neq rfl rfl rfl) (WL.nil (tn ?_)))))))
    refine WP.cond rfl (fun hc22 => ?_) (fun hc22 => ?_)
    ·
     replace hm := ite_t hc22 hm
     refine WP.seq ?_
     refine WP.region_anyF (S₀ := St w H [.blk b24 89 [(.int .i64 2), (mkS s6), (.int .i64 i1)], .blk b23 176 [(.int .i64 2), (.slice none 0 0), (.func (.func 147) #[] #[])], .row 89 (encToken).size l2.length (.slice ao2 l2.length cap2) xs1, .obj l1 (R1 .busy none), .obj D1 (.deferred (some [])), .blk b9 177 [(.int .i64 0), (.slice none 0 0), .nilFunc, (.int .i64 0), (.slice (some ⟨b7, 0, none⟩) ([1, 2, 3] : List Int).length 3), (.func (.func 111) #[] #[]), (.int .i64 1), (.slice (some ⟨b8, 0, none⟩) ([2] : List Int).length 1), (.func (.func 146) #[] #[]), (.int .i64 0), (.slice none 0 0), .nilFunc, (.int .i64 2), (.slice none 0 0), (.func (.func 147) #[] #[]), (.int .i64 0), (.slice none 0 0), .nilFunc], .blk b5 9 [(mkS p_text)], .blk b4 81 [(.slice ao2 l2.length cap2)], .blk b3 29 [(.int .i64 0)]] H2) 6 rfl (by kernel_rfl) (by kernel_rfl) (fun w' s => (s.select [0, 1, 2, 3, 4, 5, 6, 7, 8] (by decide) rfl)) (fun _ s => s.drew) ?_
     refine TQ 0 (by kernel_rfl) rfl (ov_fieldAddr underlying89 rfl rfl rfl sizeOf3 rfl rfl) (TQ 1 (by kernel_rfl) rfl (ov_load_box (i := 0) isAgg3 rfl rfl rfl rfl) (TQ 2 (by kernel_rfl) rfl (ov_move rfl rfl) ?_))
     refine AL.any (rs := [3]) (by kernel_rfl) (by decide) ?_
     refine ALs.cons0 (i := 3) rfl (Runs.free rfl) rfl ?_ ?_
     ·
      refine os_store (i := 10) (vs := [(.slice none 0 0)]) (cs' := [(.slice none 0 0)]) sizeOf81 rfl rfl rfl rfl rfl rfl rfl rfl rfl ?_
      refine ⟨fun w' s => (s.select [0, 1, 2, 3, 4, 5, 6, 7, 8] (by decide) rfl), ?_⟩
      refine AL.any (rs := [4]) (by kernel_rfl) (by decide) ?_
      refine ALs.cons0 (i := 4) rfl (Runs.free rfl) rfl ?_ ?_
      ·
       refine os_store (i := 9) (vs := [(.int .i64 i1)]) (cs' := [(.int .i64 i1)]) sizeOf3 rfl rfl rfl rfl rfl rfl rfl rfl rfl ?_
       refine ⟨fun w' s => (s.select [0, 1, 2, 3, 4, 5, 6, 7, 8] (by decide) rfl), ?_⟩
       refine AL.any (rs := [5]) (by kernel_rfl) (by decide) ?_
       refine ALs.cons0 (i := 5) rfl (Runs.free rfl) rfl ?_ ?_
       ·
        refine os_store (i := 8) (vs := [(.int .i64 0)]) (cs' := [(.int .i64 0)]) sizeOf29 rfl rfl rfl rfl rfl rfl rfl rfl rfl ?_
        refine ⟨fun w' s => (s.select [0, 1, 2, 3, 4, 5, 6, 7, 8] (by decide) rfl), ?_⟩
        refine AL.done (by kernel_rfl) ?_
        refine tn (WP.ret (then_ret (block_ret ?_)))
        refine round_ret (i := 3) rfl ?_
        refine V rfl (ov_not rfl rfl) (Vm rfl (Vi rfl (Idle.no rfl rfl rfl rfl) (Vi rfl (Idle.no rfl rfl rfl rfl) (V rfl (ov_pick_true rfl (guard_eq rfl rfl) rfl) (WL.nil (tn (WP.cond_true rfl (WP.ret (then_ret (block_ret (then_ret (block_ret (then_ret ?_)))))))))))))
        refine retQ_ret (v := (.tuple #[])) results120 Res.nil rfl (fun w' s => ⟨St w H [.obj l1 (R1 .done (some .ret)), .obj D1 (.deferred (some [])), .blk b24 89 [(.int .i64 2), (mkS s6), (.int .i64 i1)], .blk b23 176 [(.int .i64 2), (.slice none 0 0), (.func (.func 147) #[] #[])], .row 89 (encToken).size l2.length (.slice ao2 l2.length cap2) xs1, .blk b9 177 [(.int .i64 0), (.slice none 0 0), .nilFunc, (.int .i64 0), (.slice (some ⟨b7, 0, none⟩) ([1, 2, 3] : List Int).length 3), (.func (.func 111) #[] #[]), (.int .i64 1), (.slice (some ⟨b8, 0, none⟩) ([2] : List Int).length 1), (.func (.func 146) #[] #[]), (.int .i64 0), (.slice none 0 0), .nilFunc, (.int .i64 2), (.slice none 0 0), (.func (.func 147) #[] #[]), (.int .i64 0), (.slice none 0 0), .nilFunc], .blk b5 9 [(mkS p_text)], .blk b4 81 [(.slice ao2 l2.length cap2)], .blk b3 29 [(.int .i64 0)], .blk b2 3 [(.int .i64 i1)], .blk b1 81 [(.slice none 0 0)]] H2, ?_, (s.select [3, 4, 0, 1, 2, 5, 6, 7, 8, 9, 10] (by decide) rfl)⟩)
        refine after_ret ?_
        refine block_ret (then_ret ?_)
        obtain rfl := Option.some.inj hm
        refine retQ_retM (i := 0) rfl results44 (Res.cell rfl (box_load (i := 8) isAgg81 rfl) (Res.cell rfl (box_load (i := 7) isAgg3 rfl) (Res.cell rfl (box_load (i := 6) isAgg29 rfl) Res.nil))) rfl (fun w' s => ⟨s.below, ?_⟩)
        exact ⟨none, 0, rfl, SL.nil _ _ _, Nat.le_refl _⟩
       exact ALs.nil
      exact ALs.nil
     exact ALs.nil
    replace hm := ite_f hc22 hm
    refine WP.skip (tn (WP.region (Vl 7 isAgg81 rfl (V rfl (ov_load_whole (i := 0) isAgg89 sizeOf89 rfl rfl rfl rfl) ?_))))
    have rl13 : RL H2 encToken ([(Token.mk 2 s6 i1)] : List Token) [(.int .i64 2), (mkS s6), (.int .i64 i1)] := RL.cons (cs := [(.int .i64 2), (mkS s6), (.int .i64 i1)]) (xs := []) rfl (RL.nil _ _)
    refine ws rfl (os_buildSlice (cs := [(.int .i64 2), (mkS s6), (.int .i64 i1)]) (E := 89) (sz := 3) rfl rfl (fun _ => by kernel_rfl) rfl (by decide) (fun b25 => ?_))
    obtain ⟨l7, e18, hm⟩ := bind_some hm
    refine ws rfl (os_app (i := 3) (j := 0) (En := encToken) (xs := xs1) (ys := [(.int .i64 2), (mkS s6), (.int .i64 i1)]) underlying81 (by kernel_rfl : (prog.info? 89).map (fun i => (i.zero, i.size, i.bytes)) = some (some (.agg #[(.int .i64 0), (mkS []), (.int .i64 0)]), (encToken).size, 32)) rfl (by decide) rfl rfl rfl rfl rfl rfl rl4 rl13 e18 (fun ao7 cap7 rl14 => ?_))
    refine ws0 rfl (os_store (i := 8) (vs := [(.slice ao7 (l2 ++ ([(Token.mk 2 s6 i1)] : List Token)).length cap7)]) (cs' := [(.slice ao7 (l2 ++ ([(Token.mk 2 s6 i1)] : List Token)).length cap7)]) sizeOf81 rfl rfl rfl rfl rfl rfl rfl rfl rfl ?_)
    refine WL.nil (bn ?_)
    refine round_normal (i := 4) rfl ?_
    refine V rfl (ov_not rfl rfl) (Vm rfl ?_)
    refine wy rfl rfl (ov_move rfl rfl) ?_
    refine wy rfl rfl (ov_neq rfl rfl rfl) ?_
    refine V rfl (ov_pick_false rfl (guard_eq rfl rfl) rfl) (WL.nil (tn ?_))
    refine WP.cond rfl (fun hc23 => ?_) (fun hc23 => ?_)
    ·
     replace hm := ite_t hc23 hm
     refine WP.ret (then_ret (block_ret (then_ret (block_ret (then_ret ?_)))))
     refine retQ_ret (v := (.tuple #[])) results120 Res.nil rfl (fun w' s => ⟨St w H [.obj l1 (R1 .ready none), .obj D1 (.deferred (some [])), .row 89 (encToken).size ([(Token.mk 2 s6 i1)] : List Token).length (.slice (some ⟨b25, 0, none⟩) ([(Token.mk 2 s6 i1)] : List Token).length 1) [(.int .i64 2), (mkS s6), (.int .i64 i1)], .blk b24 89 [(.int .i64 2), (mkS s6), (.int .i64 i1)], .blk b23 176 [(.int .i64 2), (.slice none 0 0), (.func (.func 147) #[] #[])], .row 89 (encToken).size (l2 ++ ([(Token.mk 2 s6 i1)] : List Token)).length (.slice ao7 (l2 ++ ([(Token.mk 2 s6 i1)] : List Token)).length cap7) (xs1 ++ [(.int .i64 2), (mkS s6), (.int .i64 i1)]), .blk b9 177 [(.int .i64 0), (.slice none 0 0), .nilFunc, (.int .i64 0), (.slice (some ⟨b7, 0, none⟩) ([1, 2, 3] : List Int).length 3), (.func (.func 111) #[] #[]), (.int .i64 1), (.slice (some ⟨b8, 0, none⟩) ([2] : List Int).length 1), (.func (.func 146) #[] #[]), (.int .i64 0), (.slice none 0 0), .nilFunc, (.int .i64 2), (.slice none 0 0), (.func (.func 147) #[] #[]), (.int .i64 0), (.slice none 0 0), .nilFunc], .blk b5 9 [(mkS p_text)], .blk b4 81 [(.slice ao7 (l2 ++ ([(Token.mk 2 s6 i1)] : List Token)).length cap7)], .blk b3 29 [(.int .i64 0)], .blk b2 3 [(.int .i64 0)], .blk b1 81 [(.slice none 0 0)]] H2, ?_, (s.select [4, 5, 0, 1, 2, 3, 6, 7, 8, 9, 10, 11] (by decide) rfl)⟩)
     refine after_normal ?_
     refine bn (tn (WP.seq (WP.region (Vl 7 isAgg81 rfl ?_))))
     refine ws0 rfl (os_store (i := 10) (vs := [(.slice ao7 (l2 ++ ([(Token.mk 2 s6 i1)] : List Token)).length cap7)]) (cs' := [(.slice ao7 (l2 ++ ([(Token.mk 2 s6 i1)] : List Token)).length cap7)]) sizeOf81 rfl rfl rfl rfl rfl rfl rfl rfl rfl ?_)
     refine ws0 rfl (os_store (i := 9) (vs := [(.int .i64 0)]) (cs' := [(.int .i64 0)]) sizeOf3 rfl rfl rfl rfl rfl rfl rfl rfl rfl ?_)
     refine ws0 rfl (os_store (i := 8) (vs := [(.int .i64 0)]) (cs' := [(.int .i64 0)]) sizeOf29 rfl rfl rfl rfl rfl rfl rfl rfl rfl ?_)
     refine WL.nil (tn (WP.ret ?_))
     obtain rfl := Option.some.inj hm
     refine retQ_retM (i := 0) rfl results44 (Res.cell rfl (box_load (i := 9) isAgg81 rfl) (Res.cell rfl (box_load (i := 8) isAgg3 rfl) (Res.cell rfl (box_load (i := 7) isAgg29 rfl) Res.nil))) rfl (fun w' s => ⟨s.below, ?_⟩)
     obtain ⟨h8, hc24⟩ := s.ret_row (i := 3) rfl rl14
     exact ⟨ao7, cap7, rfl, h8, hc24⟩
    replace hm := ite_f hc23 hm
    refine WP.skip (tn (WP.region (Vm rfl (Vm rfl (V rfl (ov_add rfl rfl rfl) (Va rfl (WL.nil (bn (tn ?_)))))))))
    exact ⟨(IntKind.wrap .i64 (i1 + (if r6 > 1 then r6 else 1))), (l2 ++ ([(Token.mk 2 s6 i1)] : List Token)), ao7, cap7, (xs1 ++ [(.int .i64 2), (mkS s6), (.int .i64 i1)]), rl14, (Sub.all rfl), fun w' s => (s.select [3, 4, 5, 6, 7, 8, 9, 10, 11] (by decide) rfl), hm⟩
   replace hm := ite_f hc21 hm
   rcases Bool.eq_false_or_eq_true (r1 == 5) with hc25 | hc25
   ·
    replace hm := ite_t hc25 hm
    refine V rfl (ov_indexAddr_at (j := 5) underlying177 sizeOf176 rfl rfl rfl (eq_of_beq hc25) rfl) (V rfl (ov_load_boxes (i := 3) (vs := [(.int .i64 0), (.slice none 0 0), .nilFunc]) isAgg176 sizeOf176 rfl rfl rfl rfl (part_of rfl)) ?_)
    refine ws rfl (os_alloc (cs := [(.int .i64 0), (.slice none 0 0), .nilFunc]) zeroValue176 rfl rfl (fun b26 => ?_))
    refine ws0 rfl (os_store (i := 0) (vs := [(.int .i64 0), (.slice none 0 0), .nilFunc]) (cs' := [(.int .i64 0), (.slice none 0 0), .nilFunc]) sizeOf176 rfl rfl rfl rfl rfl rfl rfl rfl rfl ?_)
    refine WL.nil (tn (WP.seq (WP.seq (WP.region (V rfl (ov_fieldAddr underlying176 rfl rfl rfl sizeOf165 rfl rfl) (Vl 0 isAgg165 rfl (V rfl (ov_binOp (r := .bool true) rfl rfl rfl eqGuard_nofn (fun _ => by kernel_rfl)) (WL.nil (tn (WP.cond_true rfl (WP.seq (WP.region (Vm rfl ?_)))))))))))))
    refine Vm rfl (V rfl (ov_build (r := (.agg #[(.int .i64 0), (mkS []), (.int .i64 i1)])) rfl rfl (fun _ => by kernel_rfl)) ?_)
    refine WL.yield (i := 2) (vs := [(.agg #[(.int .i64 0), (mkS []), (.int .i64 i1)]), (.int .i64 4)]) (Runs.free rfl) rfl rfl rfl rfl rfl hr1 rfl rfl rfl ?_
    refine WP.seq (WP.region ?_)
    refine ws rfl (os_alloc (cs := [(.int .i64 0), (mkS []), (.int .i64 0)]) zeroValue89 rfl rfl (fun b27 => ?_))
    refine ws0 rfl (os_store (i := 0) (vs := [(.int .i64 0), (mkS []), (.int .i64 i1)]) (cs' := [(.int .i64 0), (mkS []), (.int .i64 i1)]) sizeOf89 rfl rfl rfl rfl rfl rfl rfl rfl rfl ?_)
    refine WL.nil (tn (WP.region (Va rfl (WL.nil (tn ?_)))))
    refine begin_of (i := 3) rfl ?_
    refine WP.block (WP.seq (WP.seq (WP.region (Vm rfl (V rfl (ov_neq rfl rfl rfl) (WL.nil (tn ?_)))))))
    refine WP.cond rfl (fun hc26 => ?_) (fun hc26 => ?_)
    ·
     replace hm := ite_t hc26 hm
     refine WP.seq ?_
     refine WP.region_anyF (S₀ := St w H [.blk b27 89 [(.int .i64 0), (mkS []), (.int .i64 i1)], .blk b26 176 [(.int .i64 0), (.slice none 0 0), .nilFunc], .row 89 (encToken).size l2.length (.slice ao2 l2.length cap2) xs1, .obj l1 (R1 .busy none), .obj D1 (.deferred (some [])), .blk b9 177 [(.int .i64 0), (.slice none 0 0), .nilFunc, (.int .i64 0), (.slice (some ⟨b7, 0, none⟩) ([1, 2, 3] : List Int).length 3), (.func (.func 111) #[] #[]), (.int .i64 1), (.slice (some ⟨b8, 0, none⟩) ([2] : List Int).length 1), (.func (.func 146) #[] #[]), (.int .i64 0), (.slice none 0 0), .nilFunc, (.int .i64 2), (.slice none 0 0), (.func (.func 147) #[] #[]), (.int .i64 0), (.slice none 0 0), .nilFunc], .blk b5 9 [(mkS p_text)], .blk b4 81 [(.slice ao2 l2.length cap2)]] H2) 6 rfl (by kernel_rfl) (by kernel_rfl) (fun w' s => (s.select [0, 1, 2, 3, 4, 5, 6, 7] (by decide) rfl)) (fun _ s => s.drew) ?_
     refine TQ 0 (by kernel_rfl) rfl (ov_fieldAddr underlying89 rfl rfl rfl sizeOf3 rfl rfl) (TQ 1 (by kernel_rfl) rfl (ov_load_box (i := 0) isAgg3 rfl rfl rfl rfl) (TQ 2 (by kernel_rfl) rfl (ov_move rfl rfl) ?_))
     refine AL.any (rs := [3]) (by kernel_rfl) (by decide) ?_
     refine ALs.cons0 (i := 3) rfl (Runs.free rfl) rfl ?_ ?_
     ·
      refine os_store (i := 10) (vs := [(.slice none 0 0)]) (cs' := [(.slice none 0 0)]) sizeOf81 rfl rfl rfl rfl rfl rfl rfl rfl rfl ?_
      refine ⟨fun w' s => (s.select [0, 1, 2, 3, 4, 5, 6, 7] (by decide) rfl), ?_⟩
      refine AL.any (rs := [4]) (by kernel_rfl) (by decide) ?_
      refine ALs.cons0 (i := 4) rfl (Runs.free rfl) rfl ?_ ?_
      ·
       refine os_store (i := 9) (vs := [(.int .i64 i1)]) (cs' := [(.int .i64 i1)]) sizeOf3 rfl rfl rfl rfl rfl rfl rfl rfl rfl ?_
       refine ⟨fun w' s => (s.select [0, 1, 2, 3, 4, 5, 6, 7] (by decide) rfl), ?_⟩
       refine AL.any (rs := [5]) (by kernel_rfl) (by decide) ?_
       refine ALs.cons0 (i := 5) rfl (Runs.free rfl) rfl ?_ ?_
       ·
        refine os_store (i := 8) (vs := [(.int .i64 4)]) (cs' := [(.int .i64 4)]) sizeOf29 rfl rfl rfl rfl rfl rfl rfl rfl rfl ?_
        refine ⟨fun w' s => (s.select [0, 1, 2, 3, 4, 5, 6, 7] (by decide) rfl), ?_⟩
        refine AL.done (by kernel_rfl) ?_
        refine tn (WP.ret (then_ret (block_ret ?_)))
        refine round_ret (i := 3) rfl ?_
        refine WL.nil (tn (WP.ret (then_ret (block_ret (then_ret (block_ret (then_ret ?_)))))))
        refine retQ_ret (v := (.tuple #[])) results120 Res.nil rfl (fun w' s => ⟨St w H [.obj l1 (R1 .done (some .ret)), .obj D1 (.deferred (some [])), .blk b27 89 [(.int .i64 0), (mkS []), (.int .i64 i1)], .blk b26 176 [(.int .i64 0), (.slice none 0 0), .nilFunc], .row 89 (encToken).size l2.length (.slice ao2 l2.length cap2) xs1, .blk b9 177 [(.int .i64 0), (.slice none 0 0), .nilFunc, (.int .i64 0), (.slice (some ⟨b7, 0, none⟩) ([1, 2, 3] : List Int).length 3), (.func (.func 111) #[] #[]), (.int .i64 1), (.slice (some ⟨b8, 0, none⟩) ([2] : List Int).length 1), (.func (.func 146) #[] #[]), (.int .i64 0), (.slice none 0 0), .nilFunc, (.int .i64 2), (.slice none 0 0), (.func (.func 147) #[] #[]), (.int .i64 0), (.slice none 0 0), .nilFunc], .blk b5 9 [(mkS p_text)], .blk b4 81 [(.slice ao2 l2.length cap2)], .blk b3 29 [(.int .i64 4)], .blk b2 3 [(.int .i64 i1)], .blk b1 81 [(.slice none 0 0)]] H2, ?_, (s.select [3, 4, 0, 1, 2, 5, 6, 7, 8, 9, 10] (by decide) rfl)⟩)
        refine after_ret ?_
        refine block_ret (then_ret ?_)
        obtain rfl := Option.some.inj hm
        refine retQ_retM (i := 0) rfl results44 (Res.cell rfl (box_load (i := 8) isAgg81 rfl) (Res.cell rfl (box_load (i := 7) isAgg3 rfl) (Res.cell rfl (box_load (i := 6) isAgg29 rfl) Res.nil))) rfl (fun w' s => ⟨s.below, ?_⟩)
        exact ⟨none, 0, rfl, SL.nil _ _ _, Nat.le_refl _⟩
       exact ALs.nil
      exact ALs.nil
     exact ALs.nil
    replace hm := ite_f hc26 hm
    refine WP.skip (tn (WP.region (Vl 7 isAgg81 rfl (V rfl (ov_load_whole (i := 0) isAgg89 sizeOf89 rfl rfl rfl rfl) ?_))))
    have rl15 : RL H2 encToken ([(Token.mk 0 [] i1)] : List Token) [(.int .i64 0), (mkS []), (.int .i64 i1)] := RL.cons (cs := [(.int .i64 0), (mkS []), (.int .i64 i1)]) (xs := []) rfl (RL.nil _ _)
    refine ws rfl (os_buildSlice (cs := [(.int .i64 0), (mkS []), (.int .i64 i1)]) (E := 89) (sz := 3) rfl rfl (fun _ => by kernel_rfl) rfl (by decide) (fun b28 => ?_))
    obtain ⟨l8, e19, hm⟩ := bind_some hm
    refine ws rfl (os_app (i := 3) (j := 0) (En := encToken) (xs := xs1) (ys := [(.int .i64 0), (mkS []), (.int .i64 i1)]) underlying81 (by kernel_rfl : (prog.info? 89).map (fun i => (i.zero, i.size, i.bytes)) = some (some (.agg #[(.int .i64 0), (mkS []), (.int .i64 0)]), (encToken).size, 32)) rfl (by decide) rfl rfl rfl rfl rfl rfl rl4 rl15 e19 (fun ao8 cap8 rl16 => ?_))
    refine ws0 rfl (os_store (i := 8) (vs := [(.slice ao8 (l2 ++ ([(Token.mk 0 [] i1)] : List Token)).length cap8)]) (cs' := [(.slice ao8 (l2 ++ ([(Token.mk 0 [] i1)] : List Token)).length cap8)]) sizeOf81 rfl rfl rfl rfl rfl rfl rfl rfl rfl ?_)
    refine WL.nil (bn ?_)
    refine round_normal (i := 4) rfl ?_
    refine WL.nil (tn (WP.ret (then_ret (block_ret (then_ret (block_ret (then_ret ?_)))))))
    refine retQ_ret (v := (.tuple #[])) results120 Res.nil rfl (fun w' s => ⟨St w H [.obj l1 (R1 .ready none), .obj D1 (.deferred (some [])), .row 89 (encToken).size ([(Token.mk 0 [] i1)] : List Token).length (.slice (some ⟨b28, 0, none⟩) ([(Token.mk 0 [] i1)] : List Token).length 1) [(.int .i64 0), (mkS []), (.int .i64 i1)], .blk b27 89 [(.int .i64 0), (mkS []), (.int .i64 i1)], .blk b26 176 [(.int .i64 0), (.slice none 0 0), .nilFunc], .row 89 (encToken).size (l2 ++ ([(Token.mk 0 [] i1)] : List Token)).length (.slice ao8 (l2 ++ ([(Token.mk 0 [] i1)] : List Token)).length cap8) (xs1 ++ [(.int .i64 0), (mkS []), (.int .i64 i1)]), .blk b9 177 [(.int .i64 0), (.slice none 0 0), .nilFunc, (.int .i64 0), (.slice (some ⟨b7, 0, none⟩) ([1, 2, 3] : List Int).length 3), (.func (.func 111) #[] #[]), (.int .i64 1), (.slice (some ⟨b8, 0, none⟩) ([2] : List Int).length 1), (.func (.func 146) #[] #[]), (.int .i64 0), (.slice none 0 0), .nilFunc, (.int .i64 2), (.slice none 0 0), (.func (.func 147) #[] #[]), (.int .i64 0), (.slice none 0 0), .nilFunc], .blk b5 9 [(mkS p_text)], .blk b4 81 [(.slice ao8 (l2 ++ ([(Token.mk 0 [] i1)] : List Token)).length cap8)], .blk b3 29 [(.int .i64 0)], .blk b2 3 [(.int .i64 0)], .blk b1 81 [(.slice none 0 0)]] H2, ?_, (s.select [4, 5, 0, 1, 2, 3, 6, 7, 8, 9, 10, 11] (by decide) rfl)⟩)
    refine after_normal ?_
    refine bn (tn (WP.seq (WP.region (Vl 7 isAgg81 rfl ?_))))
    refine ws0 rfl (os_store (i := 10) (vs := [(.slice ao8 (l2 ++ ([(Token.mk 0 [] i1)] : List Token)).length cap8)]) (cs' := [(.slice ao8 (l2 ++ ([(Token.mk 0 [] i1)] : List Token)).length cap8)]) sizeOf81 rfl rfl rfl rfl rfl rfl rfl rfl rfl ?_)
    refine ws0 rfl (os_store (i := 9) (vs := [(.int .i64 0)]) (cs' := [(.int .i64 0)]) sizeOf3 rfl rfl rfl rfl rfl rfl rfl rfl rfl ?_)
    refine ws0 rfl (os_store (i := 8) (vs := [(.int .i64 0)]) (cs' := [(.int .i64 0)]) sizeOf29 rfl rfl rfl rfl rfl rfl rfl rfl rfl ?_)
    refine WL.nil (tn (WP.ret ?_))
    obtain rfl := Option.some.inj hm
    refine retQ_retM (i := 0) rfl results44 (Res.cell rfl (box_load (i := 9) isAgg81 rfl) (Res.cell rfl (box_load (i := 8) isAgg3 rfl) (Res.cell rfl (box_load (i := 7) isAgg29 rfl) Res.nil))) rfl (fun w' s => ⟨s.below, ?_⟩)
    obtain ⟨h9, hc27⟩ := s.ret_row (i := 3) rfl rl16
    exact ⟨ao8, cap8, rfl, h9, hc27⟩
   replace hm := ite_f hc25 hm
   exact (none_some hm).elim
  replace hm := ite_f hc5 hm
  refine WP.exit (then_exit (then_exit (block_here (tn ?_))))
  exact ⟨l2, ao2, cap2, xs1, rl4, (Sub.all rfl), fun w' s => s, hm⟩
 rintro g' S' ⟨l9, ao9, cap9, xs2, rl17, hsub2, hS2, hm⟩
 refine WP.sub hsub2 (WP.weaken hS2 ?_)
 replace hm := (congrFun hk1 l9).symm.trans hm
 refine WP.region (Vm rfl (Vl 4 isAgg9 rfl (V rfl (ov_len_string underlying9 rfl rfl) (V rfl (ov_build (r := (.agg #[(.int .i64 3), (mkS []), (.int .i64 (p_text.length : Int))])) rfl rfl (fun _ => by kernel_rfl)) ?_))))
 refine WL.yield (i := 1) (vs := [(.agg #[(.int .i64 3), (mkS []), (.int .i64 (p_text.length : Int))]), (.int .i64 0)]) (Runs.free rfl) rfl rfl rfl rfl rfl hr1 rfl rfl rfl ?_
 refine WP.seq (WP.region ?_)
 refine ws rfl (os_alloc (cs := [(.int .i64 0), (mkS []), (.int .i64 0)]) zeroValue89 rfl rfl (fun b29 => ?_))
 refine ws0 rfl (os_store (i := 0) (vs := [(.int .i64 3), (mkS []), (.int .i64 (p_text.length : Int))]) (cs' := [(.int .i64 3), (mkS []), (.int .i64 (p_text.length : Int))]) sizeOf89 rfl rfl rfl rfl rfl rfl rfl rfl rfl ?_)
 refine WL.nil (tn (WP.region (Va rfl (WL.nil (tn ?_)))))
 refine begin_of (i := 2) rfl ?_
 refine WP.block (WP.seq (WP.seq (WP.region (Vm rfl (V rfl (ov_neq rfl rfl rfl) (WL.nil (tn ?_)))))))
 refine WP.cond rfl (fun hc28 => ?_) (fun hc28 => ?_)
 ·
  replace hm := ite_t hc28 hm
  refine WP.seq ?_
  refine WP.region_anyF (S₀ := St w H [.blk b29 89 [(.int .i64 3), (mkS []), (.int .i64 (p_text.length : Int))], .row 89 (encToken).size l9.length (.slice ao9 l9.length cap9) xs2, .obj l1 (R1 .busy none), .obj D1 (.deferred (some [])), .blk b9 177 [(.int .i64 0), (.slice none 0 0), .nilFunc, (.int .i64 0), (.slice (some ⟨b7, 0, none⟩) ([1, 2, 3] : List Int).length 3), (.func (.func 111) #[] #[]), (.int .i64 1), (.slice (some ⟨b8, 0, none⟩) ([2] : List Int).length 1), (.func (.func 146) #[] #[]), (.int .i64 0), (.slice none 0 0), .nilFunc, (.int .i64 2), (.slice none 0 0), (.func (.func 147) #[] #[]), (.int .i64 0), (.slice none 0 0), .nilFunc], .blk b5 9 [(mkS p_text)], .blk b4 81 [(.slice ao9 l9.length cap9)], .blk b3 29 [(.int .i64 0)]] H2) 6 rfl (by kernel_rfl) (by kernel_rfl) (fun w' s => (s.select [0, 1, 2, 3, 4, 5, 6, 7] (by decide) rfl)) (fun _ s => s.drew) ?_
  refine TQ 0 (by kernel_rfl) rfl (ov_fieldAddr underlying89 rfl rfl rfl sizeOf3 rfl rfl) (TQ 1 (by kernel_rfl) rfl (ov_load_box (i := 0) isAgg3 rfl rfl rfl rfl) (TQ 2 (by kernel_rfl) rfl (ov_move rfl rfl) ?_))
  refine AL.any (rs := [3]) (by kernel_rfl) (by decide) ?_
  refine ALs.cons0 (i := 3) rfl (Runs.free rfl) rfl ?_ ?_
  ·
   refine os_store (i := 9) (vs := [(.slice none 0 0)]) (cs' := [(.slice none 0 0)]) sizeOf81 rfl rfl rfl rfl rfl rfl rfl rfl rfl ?_
   refine ⟨fun w' s => (s.select [0, 1, 2, 3, 4, 5, 6, 7] (by decide) rfl), ?_⟩
   refine AL.any (rs := [4]) (by kernel_rfl) (by decide) ?_
   refine ALs.cons0 (i := 4) rfl (Runs.free rfl) rfl ?_ ?_
   ·
    refine os_store (i := 8) (vs := [(.int .i64 (p_text.length : Int))]) (cs' := [(.int .i64 (p_text.length : Int))]) sizeOf3 rfl rfl rfl rfl rfl rfl rfl rfl rfl ?_
    refine ⟨fun w' s => (s.select [0, 1, 2, 3, 4, 5, 6, 7] (by decide) rfl), ?_⟩
    refine AL.any (rs := [5]) (by kernel_rfl) (by decide) ?_
    refine ALs.cons0 (i := 5) rfl (Runs.free rfl) rfl ?_ ?_
    ·
     refine os_store (i := 7) (vs := [(.int .i64 0)]) (cs' := [(.int .i64 0)]) sizeOf29 rfl rfl rfl rfl rfl rfl rfl rfl rfl ?_
     refine ⟨fun w' s => (s.select [0, 1, 2, 3, 4, 5, 6, 7] (by decide) rfl), ?_⟩
     refine AL.done (by kernel_rfl) ?_
     refine tn (WP.ret (then_ret (block_ret ?_)))
     refine round_ret (i := 2) rfl ?_
     refine WL.nil ?_
     refine retQ_end (v := (.tuple #[])) results120 Res.nil rfl (fun w' s => ⟨St w H [.obj l1 (R1 .done (some .ret)), .obj D1 (.deferred (some [])), .blk b29 89 [(.int .i64 3), (mkS []), (.int .i64 (p_text.length : Int))], .row 89 (encToken).size l9.length (.slice ao9 l9.length cap9) xs2, .blk b9 177 [(.int .i64 0), (.slice none 0 0), .nilFunc, (.int .i64 0), (.slice (some ⟨b7, 0, none⟩) ([1, 2, 3] : List Int).length 3), (.func (.func 111) #[] #[]), (.int .i64 1), (.slice (some ⟨b8, 0, none⟩) ([2] : List Int).length 1), (.func (.func 146) #[] #[]), (.int .i64 0), (.slice none 0 0), .nilFunc, (.int .i64 2), (.slice none 0 0), (.func (.func 147) #[] #[]), (.int .i64 0), (.slice none 0 0), .nilFunc], .blk b5 9 [(mkS p_text)], .blk b4 81 [(.slice ao9 l9.length cap9)], .blk b3 29 [(.int .i64 0)], .blk b2 3 [(.int .i64 (p_text.length : Int))], .blk b1 81 [(.slice none 0 0)]] H2, ?_, (s.select [2, 3, 0, 1, 4, 5, 6, 7, 8, 9] (by decide) rfl)⟩)
     refine after_ret ?_
     refine block_ret (then_ret ?_)
     obtain rfl := Option.some.inj hm
     refine retQ_retM (i := 0) rfl results44 (Res.cell rfl (box_load (i := 7) isAgg81 rfl) (Res.cell rfl (box_load (i := 6) isAgg3 rfl) (Res.cell rfl (box_load (i := 5) isAgg29 rfl) Res.nil))) rfl (fun w' s => ⟨s.below, ?_⟩)
     exact ⟨none, 0, rfl, SL.nil _ _ _, Nat.le_refl _⟩
    exact ALs.nil
   exact ALs.nil
  exact ALs.nil
 replace hm := ite_f hc28 hm
 refine WP.skip (tn (WP.region (Vl 6 isAgg81 rfl (V rfl (ov_load_whole (i := 0) isAgg89 sizeOf89 rfl rfl rfl rfl) ?_))))
 have rl18 : RL H2 encToken ([(Token.mk 3 [] (p_text.length : Int))] : List Token) [(.int .i64 3), (mkS []), (.int .i64 (p_text.length : Int))] := RL.cons (cs := [(.int .i64 3), (mkS []), (.int .i64 (p_text.length : Int))]) (xs := []) rfl (RL.nil _ _)
 refine ws rfl (os_buildSlice (cs := [(.int .i64 3), (mkS []), (.int .i64 (p_text.length : Int))]) (E := 89) (sz := 3) rfl rfl (fun _ => by kernel_rfl) rfl (by decide) (fun b30 => ?_))
 obtain ⟨l10, e20, hm⟩ := bind_some hm
 refine ws rfl (os_app (i := 2) (j := 0) (En := encToken) (xs := xs2) (ys := [(.int .i64 3), (mkS []), (.int .i64 (p_text.length : Int))]) underlying81 (by kernel_rfl : (prog.info? 89).map (fun i => (i.zero, i.size, i.bytes)) = some (some (.agg #[(.int .i64 0), (mkS []), (.int .i64 0)]), (encToken).size, 32)) rfl (by decide) rfl rfl rfl rfl rfl rfl rl17 rl18 e20 (fun ao10 cap10 rl19 => ?_))
 refine ws0 rfl (os_store (i := 7) (vs := [(.slice ao10 (l9 ++ ([(Token.mk 3 [] (p_text.length : Int))] : List Token)).length cap10)]) (cs' := [(.slice ao10 (l9 ++ ([(Token.mk 3 [] (p_text.length : Int))] : List Token)).length cap10)]) sizeOf81 rfl rfl rfl rfl rfl rfl rfl rfl rfl ?_)
 refine WL.nil (bn ?_)
 refine round_normal (i := 3) rfl ?_
 refine WL.nil ?_
 refine retQ_end (v := (.tuple #[])) results120 Res.nil rfl (fun w' s => ⟨St w H [.obj l1 (R1 .ready none), .obj D1 (.deferred (some [])), .row 89 (encToken).size ([(Token.mk 3 [] (p_text.length : Int))] : List Token).length (.slice (some ⟨b30, 0, none⟩) ([(Token.mk 3 [] (p_text.length : Int))] : List Token).length 1) [(.int .i64 3), (mkS []), (.int .i64 (p_text.length : Int))], .blk b29 89 [(.int .i64 3), (mkS []), (.int .i64 (p_text.length : Int))], .row 89 (encToken).size (l9 ++ ([(Token.mk 3 [] (p_text.length : Int))] : List Token)).length (.slice ao10 (l9 ++ ([(Token.mk 3 [] (p_text.length : Int))] : List Token)).length cap10) (xs2 ++ [(.int .i64 3), (mkS []), (.int .i64 (p_text.length : Int))]), .blk b9 177 [(.int .i64 0), (.slice none 0 0), .nilFunc, (.int .i64 0), (.slice (some ⟨b7, 0, none⟩) ([1, 2, 3] : List Int).length 3), (.func (.func 111) #[] #[]), (.int .i64 1), (.slice (some ⟨b8, 0, none⟩) ([2] : List Int).length 1), (.func (.func 146) #[] #[]), (.int .i64 0), (.slice none 0 0), .nilFunc, (.int .i64 2), (.slice none 0 0), (.func (.func 147) #[] #[]), (.int .i64 0), (.slice none 0 0), .nilFunc], .blk b5 9 [(mkS p_text)], .blk b4 81 [(.slice ao10 (l9 ++ ([(Token.mk 3 [] (p_text.length : Int))] : List Token)).length cap10)], .blk b3 29 [(.int .i64 0)], .blk b2 3 [(.int .i64 0)], .blk b1 81 [(.slice none 0 0)]] H2, ?_, (s.select [3, 4, 0, 1, 2, 5, 6, 7, 8, 9, 10] (by decide) rfl)⟩)
 refine after_normal ?_
 refine bn (tn (WP.seq (WP.region (Vl 6 isAgg81 rfl ?_))))
 refine ws0 rfl (os_store (i := 9) (vs := [(.slice ao10 (l9 ++ ([(Token.mk 3 [] (p_text.length : Int))] : List Token)).length cap10)]) (cs' := [(.slice ao10 (l9 ++ ([(Token.mk 3 [] (p_text.length : Int))] : List Token)).length cap10)]) sizeOf81 rfl rfl rfl rfl rfl rfl rfl rfl rfl ?_)
 refine ws0 rfl (os_store (i := 8) (vs := [(.int .i64 0)]) (cs' := [(.int .i64 0)]) sizeOf3 rfl rfl rfl rfl rfl rfl rfl rfl rfl ?_)
 refine ws0 rfl (os_store (i := 7) (vs := [(.int .i64 0)]) (cs' := [(.int .i64 0)]) sizeOf29 rfl rfl rfl rfl rfl rfl rfl rfl rfl ?_)
 refine WL.nil (tn (WP.ret ?_))
 obtain rfl := Option.some.inj hm
 refine retQ_retM (i := 0) rfl results44 (Res.cell rfl (box_load (i := 8) isAgg81 rfl) (Res.cell rfl (box_load (i := 7) isAgg3 rfl) (Res.cell rfl (box_load (i := 6) isAgg29 rfl) Res.nil))) rfl (fun w' s => ⟨s.below, ?_⟩)
 obtain ⟨h10, hc29⟩ := s.ret_row (i := 2) rfl rl19
 exact ⟨ao10, cap10, rfl, h10, hc29⟩
end Go.Proofs.YtgpfgnpdbmbknaaGreatDoor.W
