import Derived.Test.YtkgijoddkibapaaGreatDoorPlain
import Derived.Test.YtkgijoddkibapaaGreatDoorEqs
import Derived.Test.YtkgijoddkibapaaGreatDoorProg
import Derived.Test.YtkgijoddkibapaaGreatDoorExt
import Derived.Test.YtkgijoddkibapaaGreatDoorBuild
import Derived.Test.YtkgijoddkibapaaGreatDoorClone
import Derived.Test.YtkgijoddkibapaaGreatDoorSteps
set_option linter.unusedVariables false
set_option maxRecDepth 100000
set_option maxHeartbeats 4000000
namespace Go.Proofs.YtkgijoddkibapaaGreatDoor.W
open Go Go.RowKit Go.Proofs.Tryz
theorem program_single_steps_1_con {σ : Type} (step : σ → Step → Option (Bool × σ)) {w0 : World} {H0 : Heap} {y : Value} {T T' : σ → Heap → List Ent → Prop} (hY : Yields prog w0 H0 y encSeqStep step T T') (p_m : MSingle) (z : σ) (bc1 : Nat) (ao1 : Option Addr) (cap1 : Nat) (fr tl : List Ent) (H : Heap) (h1 : SL H encStroke ao1 p_m.step.strokes) (hc1 : p_m.step.strokes.length ≤ cap1) (hb1 : RowAt H (some ⟨bc1, 0, none⟩) 0 [(.slice ao1 p_m.step.strokes.length cap1), (.int .i64 p_m.step.wait)]) (hT : TH hY z H tl) (hG : Glob H) (r : (Bool × σ)) (hm : program_single_steps_1 step p_m z = some r) :
  BCon prog 172 [y, (pB bc1 0)] w0 H0 (fr ++ tl) H (fun v H' ms' => v = .tuple #[] ∧ IterR hY fr r H' ms') := by
 unfold program_single_steps_1 at hm
 refine bcon_of func172 rfl 7 ntmps172 rfl ?_
 refine WP.region (Vm rfl (V rfl (ov_fieldAddrE (ao := (some ⟨bc1, 0, none⟩)) (k := 0) underlying204 rfl rfl rfl sizeOf55 rfl rfl) ?_))
 refine V rfl (ov_load_elems (vs := [(.slice ao1 p_m.step.strokes.length cap1), (.int .i64 p_m.step.wait)]) isAgg55 sizeOf55 rfl rfl rfl hb1 ⟨_, rfl⟩) ?_
 obtain ⟨r1, e1, hm⟩ := bind_some hm
 refine WL.yields2 (r := r1) (fr) (Runs.free rfl) rfl rfl rfl rfl rfl hY e1 ⟨ao1, cap1, rfl, h1, hc1⟩ hT ?_ ?_
 ·
  intro hc2 H1 tl1 hle1 hT1
  replace hm := ite_t hc2 hm
  refine WL.weaken (S₁ := St w0 H0 ((fr ++ tl1)) H1) (fun _ s => s) ?_
  refine WL.nil ?_
  obtain rfl := Option.some.inj hm
  refine retQ_end results172 Res.nil rfl (fun w' s => ⟨H1, _, hle1, ⟨rfl, tl1, rfl, hT1⟩, s⟩)
 intro hc3 H2 tl2 hle2 hT2
 replace hm := ite_f hc3 hm
 refine WL.weaken (S₁ := St w0 H0 ((fr ++ tl2)) H2) (fun _ s => s) ?_
 refine WL.nil ?_
 obtain rfl := Option.some.inj hm
 refine retQ_end results172 Res.nil rfl (fun w' s => ⟨H2, _, hle2, ⟨rfl, tl2, rfl, hT2⟩, s⟩)
theorem program_list_steps_1_con {σ : Type} (step : σ → Step → Option (Bool × σ)) {w0 : World} {H0 : Heap} {y : Value} {T T' : σ → Heap → List Ent → Prop} (hY : Yields prog w0 H0 y encSeqStep step T T') (self : (σ → Step → Option (Bool × σ)) → Motion → (List (List UInt8)) → σ → Option (Bool × σ)) (hself : ∀ (stp : σ → Step → Option (Bool × σ)) {y' : Value} {T1 T1' : σ → Heap → List Ent → Prop} (hY1 : Yields prog w0 H0 y' encSeqStep stp T1 T1') (m : Motion) (on : List (List UInt8)) (z : σ) (v : Value) (H : Heap) (hI : IterRep H m on v) (hG : Glob H) (tl : List Ent) (hT : TH hY1 z H tl) (r : Bool × σ) (hm : self stp m on z = some r), VIter prog w0 H0 v hY1 tl H r) (p_m : MList) (p_on : (List (List UInt8))) (z : σ) (bc1 : Nat) (ao1 : Option Addr) (cap1 : Nat) (bc2 : Nat) (ao2 : Option Addr) (cap2 : Nat) (fr tl : List Ent) (H : Heap) (h1 : SL H encMotion ao1 p_m.parts) (hc1 : p_m.parts.length ≤ cap1) (h2 : SL H encStr ao2 p_on) (hc2 : p_on.length ≤ cap2) (hb1 : RowAt H (some ⟨bc1, 0, none⟩) 0 [(.slice ao1 p_m.parts.length cap1)]) (hb2 : RowAt H (some ⟨bc2, 0, none⟩) 0 [(.slice ao2 p_on.length cap2)]) (hT : TH hY z H tl) (hG : Glob H) (r : (Bool × σ)) (hm : program_list_steps_1 step self p_m p_on z = some r) :
  BCon prog 174 [y, (pB bc1 0), (pB bc2 0)] w0 H0 (fr ++ tl) H (fun v H' ms' => v = .tuple #[] ∧ IterR hY fr r H' ms') := by
 unfold program_list_steps_1 at hm
 refine bconM_of func174 rfl 23 ntmps174 rfl ?_
 refine WP.weaken (S₁ := St w0 H0 (((dS [] ++ fr) ++ tl)) H) (fun _ s => s) ?_
 refine WP.seq (WP.region ?_)
 refine ws rfl (os_box (cs := [y]) rfl rfl hY.cells (fun b1 => ?_))
 refine WL.nil (tn (WP.seq (WP.region (V rfl (ov_fieldAddrE (ao := (some ⟨bc1, 0, none⟩)) (k := 0) underlying206 rfl rfl rfl sizeOf202 rfl rfl) ?_))))
 refine V rfl (ov_load_elem (v := (.slice ao1 p_m.parts.length cap1)) isAgg202 rfl rfl hb1) (V rfl (ov_len_slice underlying202 rfl rfl) (Vm rfl (WL.nil (tn (WP.block ?_)))))
 refine WP.loop (fun m1 g' S' => ∃ (z1 : σ) (tl1 : List Ent) (H1 : Heap) (i1 : Int) (Ds1 : List Nat), TH hY z1 H1 tl1 ∧ Le H H1 ∧ Sub [(2, (pE (some ⟨bc2, 0, none⟩) 0)), (3, (pB b1 0)), (8, (.slice ao1 p_m.parts.length cap1)), (9, (.int .i64 (p_m.parts.length : Int))), (10, (.int .i64 i1)), (1000000007, (marksV Ds1))] g' ∧ (∀ w', S' w' → St w0 H0 (.blk b1 144 [y] :: ((dS Ds1 ++ fr) ++ tl1)) H1 w') ∧ program_list_steps_1_loop1 p_m p_on self step m1 z1 i1 = some r) ((Int.toNat ((p_m.parts.length : Int) - 0) + 1)) ⟨z, tl, H, 0, [], hT, (Le.refl _), (Sub.all rfl), fun w' s => s, hm⟩ ?_ ?_
 ·
  rintro g' S' ⟨_, _, _, _, _, _, _, _, _, hm⟩
  exact none_some hm
 rintro m1 g' S' ⟨z1, tl1, H1, i1, Ds1, hT1, hle1, hsub1, hS1, hm⟩
 refine WP.sub hsub1 (WP.weaken hS1 ?_)
 rw [program_list_steps_1_loop1] at hm
 replace hb2 := hb2.mono hle1
 replace h1 := h1.mono hle1
 replace hG := hG.mono hle1
 replace h2 := h2.mono hle1
 refine WP.seq (WP.region (V rfl (ov_lss rfl rfl rfl) (WL.nil (tn (WP.seq ?_)))))
 refine WP.cond rfl (fun hc3 => ?_) (fun hc3 => ?_)
 ·
  replace hm := ite_t hc3 hm
  refine WP.skip (tn (WP.seq (WP.block (WP.seq (WP.region ?_)))))
  obtain ⟨x1, e1, hm⟩ := bind_some hm
  obtain ⟨h4, h5, h6, cs1, h7, h8⟩ := h1.get e1 (by decide)
  obtain ⟨t1, c1, rfl, h3⟩ := h7
  refine V rfl (ov_indexAddr underlying202 sizeOf180 rfl rfl rfl h4 h5 h6) (V rfl (ov_load_elem (v := (.iface t1 c1)) isAgg180 rfl rfl h8) (Va rfl (WL.nil (tn (WP.seq (WP.region (Vm rfl (V rfl (ov_load_elem (v := (.slice ao2 p_on.length cap2)) isAgg41 rfl rfl hb2) ?_))))))))
  obtain ⟨r1, e2, hm⟩ := bind_some hm
  refine ws rfl (os_invoke rfl rfl rfl (fun w' s => steps_con 600 hc2 x1 t1 c1 w' H1 s.hold h3 h2 hG r1 e2) (fun v1 H2 hle2 h9 => ?_))
  replace hG := hG.mono hle2
  replace hT1 := hT1.mono hle2
  refine WL.nil (tn (WP.block ?_))
  obtain ⟨r3, e4, hm⟩ := bind_some hm
  refine WP.rangeCM rfl (fun l1 D1 R1 hr1 w2 hs2 => ?_)
  have hY1 : Yields prog w0 H0 (.func (.yield l1) #[] #[]) encSeqStep (program_list_steps_1_rng2 step) (fun (q1 : σ) (H3 : Heap) (ms : List Ent) => ∃ (tl2 : List Ent), Le H2 H3 ∧ TH hY q1 H3 tl2 ∧ ms = (.obj l1 (R1 .ready none) :: .obj D1 (.deferred (some [])) :: .blk b1 144 [y] :: ((dS Ds1 ++ fr) ++ tl2))) (fun (q1 : σ) (H3 : Heap) (ms : List Ent) => ∃ (tl2 : List Ent), Le H2 H3 ∧ TH' hY q1 H3 tl2 ∧ ms = (.obj l1 (R1 .done (some .ret)) :: .obj D1 (.deferred (some [])) :: .blk b1 144 [y] :: ((dS Ds1 ++ fr) ++ tl2))) := by
   refine ⟨?_, ?_, _, rfl, ?_⟩
   ·
    rintro q1 Ha Hb msx k ⟨tl2, h0, hT2, rfl⟩; exact ⟨tl2, h0.trans k, hT2.mono k, rfl⟩
   ·
    rintro q1 Ha Hb msx k ⟨tl2, h0, hT2, rfl⟩; exact ⟨tl2, h0.trans k, hT2.mono k, rfl⟩
   ·
    rintro q1 xx1 bq1 q2 vs H3 ms fr1 hm ⟨ao3, cap3, rfl, h10, hc4⟩ ⟨tl2, hle3, hT2, rfl⟩ w1 hs1
    unfold program_list_steps_1_rng2 at hm
    replace h9 := h9.mono hle3
    replace hG := hG.mono hle3
    replace hT1 := hT1.mono hle3
    refine yields_call (i := 0) (vs := [(.agg #[(.slice ao3 xx1.strokes.length cap3), (.int .i64 xx1.wait)])]) (b := bq1) (q := q2) (T := (fun (q1 : σ) (H3 : Heap) (ms : List Ent) => ∃ (tl2 : List Ent), Le H2 H3 ∧ TH hY q1 H3 tl2 ∧ ms = (.obj l1 (R1 .ready none) :: .obj D1 (.deferred (some [])) :: .blk b1 144 [y] :: ((dS Ds1 ++ fr) ++ tl2)))) (T' := (fun (q1 : σ) (H3 : Heap) (ms : List Ent) => ∃ (tl2 : List Ent), Le H2 H3 ∧ TH' hY q1 H3 tl2 ∧ ms = (.obj l1 (R1 .done (some .ret)) :: .obj D1 (.deferred (some [])) :: .blk b1 144 [y] :: ((dS Ds1 ++ fr) ++ tl2)))) hr1 hs1 rfl rfl rfl ?_
    refine WP.weaken (S₁ := St w0 H0 (.obj l1 (R1 .ready none) :: .obj D1 (.deferred (some [])) :: .blk b1 144 [y] :: (((dS Ds1 ++ fr) ++ fr1) ++ tl2)) H3) (fun _ s => St.frin (e := [.obj l1 (R1 .ready none), .obj D1 (.deferred (some [])), .blk b1 144 [y]]) s) ?_
    refine WP.region ?_
    refine ws rfl (os_alloc (cs := [(.slice none 0 0), (.int .i64 0)]) zeroValue55 rfl rfl (fun b2 => ?_))
    refine ws0 rfl (os_store (i := 0) (vs := [(.slice ao3 xx1.strokes.length cap3), (.int .i64 xx1.wait)]) (cs' := [(.slice ao3 xx1.strokes.length cap3), (.int .i64 xx1.wait)]) sizeOf55 rfl rfl rfl rfl rfl rfl rfl rfl rfl ?_)
    refine WL.nil (tn ?_)
    refine begin_of (i := 1) rfl ?_
    refine WP.block (WP.seq (WP.region (Vl 3 isAgg144 rfl (V rfl (ov_load_whole (i := 0) isAgg55 sizeOf55 rfl rfl rfl rfl) ?_))))
    obtain ⟨r2, e3, hm⟩ := bind_some hm
    refine WL.yields2 (r := r2) (.blk b2 55 [(.slice ao3 xx1.strokes.length cap3), (.int .i64 xx1.wait)] :: .obj l1 (R1 .busy none) :: .obj D1 (.deferred (some [])) :: .blk b1 144 [y] :: ((dS Ds1 ++ fr) ++ fr1)) (Runs.free rfl) rfl rfl rfl rfl rfl hY e3 ⟨ao3, cap3, rfl, h10, hc4⟩ hT2 ?_ ?_
    ·
     intro hc5 H4 tl3 hle4 hT3
     replace hm := ite_t hc5 hm
     replace h9 := h9.mono hle4
     replace hG := hG.mono hle4
     refine WL.weaken (S₁ := St w0 H0 (.blk b2 55 [(.slice ao3 xx1.strokes.length cap3), (.int .i64 xx1.wait)] :: .obj l1 (R1 .busy none) :: .obj D1 (.deferred (some [])) :: .blk b1 144 [y] :: (((dS Ds1 ++ fr) ++ fr1) ++ tl3)) H4) (fun _ s => s) ?_
     refine V rfl (ov_not rfl rfl) (WL.nil (tn (WP.cond_false rfl (WP.skip (bn ?_)))))
     refine round_normal (i := 1) rfl ?_
     obtain ⟨rfl, rfl⟩ := Prod.mk.inj (Option.some.inj hm)
     exact ⟨rfl, H4, ([.obj l1 (R1 .ready none), .obj D1 (.deferred (some [])), .blk b1 144 [y]] ++ ((dS Ds1 ++ fr) ++ tl3)), hle4, condT ⟨tl3, (hle3.trans hle4), hT3, rfl⟩, fun w' s => St.frout (e := [.obj l1 (R1 .ready none), .obj D1 (.deferred (some [])), .blk b1 144 [y]]) (s.selectT 4 [1, 2, 3] (by decide) rfl rfl)⟩
    ·
     intro hc6 H5 tl4 hle5 hT4
     replace hm := ite_f hc6 hm
     replace h9 := h9.mono hle5
     replace hG := hG.mono hle5
     refine WL.weaken (S₁ := St w0 H0 (.blk b2 55 [(.slice ao3 xx1.strokes.length cap3), (.int .i64 xx1.wait)] :: .obj l1 (R1 .busy none) :: .obj D1 (.deferred (some [])) :: .blk b1 144 [y] :: (((dS Ds1 ++ fr) ++ fr1) ++ tl4)) H5) (fun _ s => s) ?_
     refine V rfl (ov_not rfl rfl) (WL.nil (tn (WP.cond_true rfl (WP.ret (block_ret ?_)))))
     refine round_ret (i := 1) rfl ?_
     obtain ⟨rfl, rfl⟩ := Prod.mk.inj (Option.some.inj hm)
     exact ⟨rfl, H5, ([.obj l1 (R1 .done (some .ret)), .obj D1 (.deferred (some [])), .blk b1 144 [y]] ++ ((dS Ds1 ++ fr) ++ tl4)), hle5, condF ⟨tl4, (hle3.trans hle5), hT4, rfl⟩, fun w' s => St.frout (e := [.obj l1 (R1 .done (some .ret)), .obj D1 (.deferred (some [])), .blk b1 144 [y]]) (s.selectT 4 [1, 2, 3] (by decide) rfl rfl)⟩
  have hT5 : TH hY1 z1 H2 (.obj l1 (R1 .ready none) :: .obj D1 (.deferred (some [])) :: .blk b1 144 [y] :: ((dS Ds1 ++ fr) ++ tl1)) := ⟨tl1, Le.refl _, hT1, rfl⟩
  refine VCalls.mono ((hself (program_list_steps_1_rng2 step) hY1 r1 p_on z1 v1 H2 h9 hG (.obj l1 (R1 .ready none) :: .obj D1 (.deferred (some [])) :: .blk b1 144 [y] :: ((dS Ds1 ++ fr) ++ tl1)) hT5 r3 e4) [] w2 hs2) ?_
  rintro e w3 ⟨rv1, H6, ms1, rfl, hle6, ⟨tl5, rfl, hT6⟩, hs3⟩
  refine ⟨_, rfl, ?_⟩
  rcases Bool.eq_false_or_eq_true r3.1 with hc7 | hc7
  ·
   replace hm := ite_t hc7 hm
   obtain ⟨tl6, hle7, hT7, rfl⟩ := cond_t hc7 hT6
   refine ⟨St w0 H0 (.obj l1 (R1 .ready none) :: .obj D1 (.deferred (some [])) :: .blk b1 144 [y] :: ((dS Ds1 ++ fr) ++ tl6)) H6, ?_, hs3⟩
   refine afterM_normal (S' := St w0 H0 (.blk b1 144 [y] :: ((dS (D1 :: Ds1) ++ fr) ++ tl6)) H6) (fun _ s => St.dsin (e := [.blk b1 144 [y]]) s) ?_
   refine bn (bn (tn (WP.region (V rfl (ov_add rfl rfl rfl) (Vm rfl (WL.nil (tn ?_)))))))
   exact ⟨r3.2, tl6, H6, (IntKind.wrap .i64 (i1 + 1)), (D1 :: Ds1), hT7, ((hle1.trans hle2).trans hle6), (Sub.all rfl), fun w' s => s, hm⟩
  replace hm := ite_f hc7 hm
  obtain ⟨tl7, hle8, hT8, rfl⟩ := cond_f hc7 hT6
  refine ⟨St w0 H0 (.obj l1 (R1 .done (some .ret)) :: .obj D1 (.deferred (some [])) :: .blk b1 144 [y] :: ((dS Ds1 ++ fr) ++ tl7)) H6, ?_, hs3⟩
  refine afterM_ret (S' := St w0 H0 (.blk b1 144 [y] :: ((dS (D1 :: Ds1) ++ fr) ++ tl7)) H6) (fun _ s => St.dsin (e := [.blk b1 144 [y]]) s) ?_
  refine block_ret (block_ret (then_ret (then_ret (block_ret ?_))))
  obtain rfl := Option.some.inj hm
  refine retM_ret (Ds := (D1 :: Ds1)) (fr := fr) (t := tl7) (g := _) [.blk b1 144 [y]] results174 Res.nil rfl (fun w' s => ⟨H6, _, ((hle1.trans hle2).trans hle6), ⟨rfl, tl7, rfl, hT8⟩, (s.selectT 1 [] (by decide) rfl rfl)⟩)
 replace hm := ite_f hc3 hm
 refine WP.exit (then_exit (then_exit (block_here ?_)))
 obtain rfl := Option.some.inj hm
 refine retM_end (Ds := Ds1) (fr := fr) (t := tl1) (g := _) [.blk b1 144 [y]] results174 Res.nil rfl (fun w' s => ⟨H1, _, hle1, ⟨rfl, tl1, rfl, hT1⟩, (s.selectT 1 [] (by decide) rfl rfl)⟩)
theorem program_repeat_steps_1_con {σ : Type} (step : σ → Step → Option (Bool × σ)) {w0 : World} {H0 : Heap} {y : Value} {T T' : σ → Heap → List Ent → Prop} (hY : Yields prog w0 H0 y encSeqStep step T T') (self : (σ → Step → Option (Bool × σ)) → Motion → (List (List UInt8)) → σ → Option (Bool × σ)) (hself : ∀ (stp : σ → Step → Option (Bool × σ)) {y' : Value} {T1 T1' : σ → Heap → List Ent → Prop} (hY1 : Yields prog w0 H0 y' encSeqStep stp T1 T1') (m : Motion) (on : List (List UInt8)) (z : σ) (v : Value) (H : Heap) (hI : IterRep H m on v) (hG : Glob H) (tl : List Ent) (hT : TH hY1 z H tl) (r : Bool × σ) (hm : self stp m on z = some r), VIter prog w0 H0 v hY1 tl H r) (p_m : MRepeat) (p_on : (List (List UInt8))) (z : σ) (bc1 : Nat) (t1 : TypeId) (c1 : Value) (bc2 : Nat) (ao1 : Option Addr) (cap1 : Nat) (fr tl : List Ent) (H : Heap) (h1 : MotionRep H p_m.part (.iface t1 c1)) (h2 : SL H encStr ao1 p_on) (hc1 : p_on.length ≤ cap1) (hb1 : RowAt H (some ⟨bc1, 0, none⟩) 0 [(.int .i64 p_m.count), (.iface t1 c1)]) (hb2 : RowAt H (some ⟨bc2, 0, none⟩) 0 [(.slice ao1 p_on.length cap1)]) (hT : TH hY z H tl) (hG : Glob H) (r : (Bool × σ)) (hm : program_repeat_steps_1 step self p_m p_on z = some r) :
  BCon prog 176 [y, (pB bc1 0), (pB bc2 0)] w0 H0 (fr ++ tl) H (fun v H' ms' => v = .tuple #[] ∧ IterR hY fr r H' ms') := by
 unfold program_repeat_steps_1 at hm
 refine bconM_of func176 rfl 19 ntmps176 rfl ?_
 refine WP.weaken (S₁ := St w0 H0 (((dS [] ++ fr) ++ tl)) H) (fun _ s => s) ?_
 refine WP.seq (WP.region ?_)
 refine ws rfl (os_box (cs := [y]) rfl rfl hY.cells (fun b1 => ?_))
 refine WL.nil (tn (WP.seq (WP.region (V rfl (ov_fieldAddrE (ao := (some ⟨bc1, 0, none⟩)) (k := 0) underlying208 rfl rfl rfl sizeOf3 rfl rfl) ?_))))
 refine V rfl (ov_load_elem (v := (.int .i64 p_m.count)) isAgg3 rfl rfl (hb1.one (off := 0) rfl)) (Vm rfl (WL.nil (tn (WP.block ?_))))
 refine WP.loop (fun m1 g' S' => ∃ (z1 : σ) (tl1 : List Ent) (H1 : Heap) (i1 : Int) (Ds1 : List Nat), TH hY z1 H1 tl1 ∧ Le H H1 ∧ Sub [(1, (pE (some ⟨bc1, 0, none⟩) 0)), (2, (pE (some ⟨bc2, 0, none⟩) 0)), (3, (pB b1 0)), (6, (.int .i64 p_m.count)), (7, (.int .i64 i1)), (1000000007, (marksV Ds1))] g' ∧ (∀ w', S' w' → St w0 H0 (.blk b1 144 [y] :: ((dS Ds1 ++ fr) ++ tl1)) H1 w') ∧ program_repeat_steps_1_loop1 p_m p_on self step m1 z1 i1 = some r) ((Int.toNat (p_m.count - 0) + 1)) ⟨z, tl, H, 0, [], hT, (Le.refl _), (Sub.all rfl), fun w' s => s, hm⟩ ?_ ?_
 ·
  rintro g' S' ⟨_, _, _, _, _, _, _, _, _, hm⟩
  exact none_some hm
 rintro m1 g' S' ⟨z1, tl1, H1, i1, Ds1, hT1, hle1, hsub1, hS1, hm⟩
 refine WP.sub hsub1 (WP.weaken hS1 ?_)
 rw [program_repeat_steps_1_loop1] at hm
 replace hb1 := hb1.mono hle1
 replace hb2 := hb2.mono hle1
 replace hG := hG.mono hle1
 replace h1 := h1.mono hle1
 replace h2 := h2.mono hle1
 refine WP.seq (WP.region (V rfl (ov_lss rfl rfl rfl) (WL.nil (tn (WP.seq ?_)))))
 refine WP.cond rfl (fun hc2 => ?_) (fun hc2 => ?_)
 ·
  replace hm := ite_t hc2 hm
  refine WP.skip (tn (WP.seq (WP.block (WP.seq (WP.region (V rfl (ov_fieldAddrE (ao := (some ⟨bc1, 0, none⟩)) (k := 0) underlying208 rfl rfl rfl sizeOf180 rfl rfl) ?_))))))
  refine V rfl (ov_load_elem (v := (.iface t1 c1)) isAgg180 rfl rfl (hb1.one (off := 1) rfl)) (V rfl (ov_load_elem (v := (.slice ao1 p_on.length cap1)) isAgg41 rfl rfl hb2) ?_)
  obtain ⟨r1, e1, hm⟩ := bind_some hm
  refine ws rfl (os_invoke rfl rfl rfl (fun w' s => steps_con 600 hc1 p_m.part t1 c1 w' H1 s.hold h1 h2 hG r1 e1) (fun v1 H2 hle2 h3 => ?_))
  replace hG := hG.mono hle2
  replace hT1 := hT1.mono hle2
  refine WL.nil (tn (WP.block ?_))
  obtain ⟨r3, e3, hm⟩ := bind_some hm
  refine WP.rangeCM rfl (fun l1 D1 R1 hr1 w2 hs2 => ?_)
  have hY1 : Yields prog w0 H0 (.func (.yield l1) #[] #[]) encSeqStep (program_repeat_steps_1_rng2 step) (fun (q1 : σ) (H3 : Heap) (ms : List Ent) => ∃ (tl2 : List Ent), Le H2 H3 ∧ TH hY q1 H3 tl2 ∧ ms = (.obj l1 (R1 .ready none) :: .obj D1 (.deferred (some [])) :: .blk b1 144 [y] :: ((dS Ds1 ++ fr) ++ tl2))) (fun (q1 : σ) (H3 : Heap) (ms : List Ent) => ∃ (tl2 : List Ent), Le H2 H3 ∧ TH' hY q1 H3 tl2 ∧ ms = (.obj l1 (R1 .done (some .ret)) :: .obj D1 (.deferred (some [])) :: .blk b1 144 [y] :: ((dS Ds1 ++ fr) ++ tl2))) := by
   refine ⟨?_, ?_, _, rfl, ?_⟩
   ·
    rintro q1 Ha Hb msx k ⟨tl2, h0, hT2, rfl⟩; exact ⟨tl2, h0.trans k, hT2.mono k, rfl⟩
   ·
    rintro q1 Ha Hb msx k ⟨tl2, h0, hT2, rfl⟩; exact ⟨tl2, h0.trans k, hT2.mono k, rfl⟩
   ·
    rintro q1 xx1 bq1 q2 vs H3 ms fr1 hm ⟨ao2, cap2, rfl, h4, hc3⟩ ⟨tl2, hle3, hT2, rfl⟩ w1 hs1
    unfold program_repeat_steps_1_rng2 at hm
    replace h3 := h3.mono hle3
    replace hG := hG.mono hle3
    replace hT1 := hT1.mono hle3
    refine yields_call (i := 0) (vs := [(.agg #[(.slice ao2 xx1.strokes.length cap2), (.int .i64 xx1.wait)])]) (b := bq1) (q := q2) (T := (fun (q1 : σ) (H3 : Heap) (ms : List Ent) => ∃ (tl2 : List Ent), Le H2 H3 ∧ TH hY q1 H3 tl2 ∧ ms = (.obj l1 (R1 .ready none) :: .obj D1 (.deferred (some [])) :: .blk b1 144 [y] :: ((dS Ds1 ++ fr) ++ tl2)))) (T' := (fun (q1 : σ) (H3 : Heap) (ms : List Ent) => ∃ (tl2 : List Ent), Le H2 H3 ∧ TH' hY q1 H3 tl2 ∧ ms = (.obj l1 (R1 .done (some .ret)) :: .obj D1 (.deferred (some [])) :: .blk b1 144 [y] :: ((dS Ds1 ++ fr) ++ tl2)))) hr1 hs1 rfl rfl rfl ?_
    refine WP.weaken (S₁ := St w0 H0 (.obj l1 (R1 .ready none) :: .obj D1 (.deferred (some [])) :: .blk b1 144 [y] :: (((dS Ds1 ++ fr) ++ fr1) ++ tl2)) H3) (fun _ s => St.frin (e := [.obj l1 (R1 .ready none), .obj D1 (.deferred (some [])), .blk b1 144 [y]]) s) ?_
    refine WP.region ?_
    refine ws rfl (os_alloc (cs := [(.slice none 0 0), (.int .i64 0)]) zeroValue55 rfl rfl (fun b2 => ?_))
    refine ws0 rfl (os_store (i := 0) (vs := [(.slice ao2 xx1.strokes.length cap2), (.int .i64 xx1.wait)]) (cs' := [(.slice ao2 xx1.strokes.length cap2), (.int .i64 xx1.wait)]) sizeOf55 rfl rfl rfl rfl rfl rfl rfl rfl rfl ?_)
    refine WL.nil (tn ?_)
    refine begin_of (i := 1) rfl ?_
    refine WP.block (WP.seq (WP.region (Vl 3 isAgg144 rfl (V rfl (ov_load_whole (i := 0) isAgg55 sizeOf55 rfl rfl rfl rfl) ?_))))
    obtain ⟨r2, e2, hm⟩ := bind_some hm
    refine WL.yields2 (r := r2) (.blk b2 55 [(.slice ao2 xx1.strokes.length cap2), (.int .i64 xx1.wait)] :: .obj l1 (R1 .busy none) :: .obj D1 (.deferred (some [])) :: .blk b1 144 [y] :: ((dS Ds1 ++ fr) ++ fr1)) (Runs.free rfl) rfl rfl rfl rfl rfl hY e2 ⟨ao2, cap2, rfl, h4, hc3⟩ hT2 ?_ ?_
    ·
     intro hc4 H4 tl3 hle4 hT3
     replace hm := ite_t hc4 hm
     replace h3 := h3.mono hle4
     replace hG := hG.mono hle4
     refine WL.weaken (S₁ := St w0 H0 (.blk b2 55 [(.slice ao2 xx1.strokes.length cap2), (.int .i64 xx1.wait)] :: .obj l1 (R1 .busy none) :: .obj D1 (.deferred (some [])) :: .blk b1 144 [y] :: (((dS Ds1 ++ fr) ++ fr1) ++ tl3)) H4) (fun _ s => s) ?_
     refine V rfl (ov_not rfl rfl) (WL.nil (tn (WP.cond_false rfl (WP.skip (bn ?_)))))
     refine round_normal (i := 1) rfl ?_
     obtain ⟨rfl, rfl⟩ := Prod.mk.inj (Option.some.inj hm)
     exact ⟨rfl, H4, ([.obj l1 (R1 .ready none), .obj D1 (.deferred (some [])), .blk b1 144 [y]] ++ ((dS Ds1 ++ fr) ++ tl3)), hle4, condT ⟨tl3, (hle3.trans hle4), hT3, rfl⟩, fun w' s => St.frout (e := [.obj l1 (R1 .ready none), .obj D1 (.deferred (some [])), .blk b1 144 [y]]) (s.selectT 4 [1, 2, 3] (by decide) rfl rfl)⟩
    ·
     intro hc5 H5 tl4 hle5 hT4
     replace hm := ite_f hc5 hm
     replace h3 := h3.mono hle5
     replace hG := hG.mono hle5
     refine WL.weaken (S₁ := St w0 H0 (.blk b2 55 [(.slice ao2 xx1.strokes.length cap2), (.int .i64 xx1.wait)] :: .obj l1 (R1 .busy none) :: .obj D1 (.deferred (some [])) :: .blk b1 144 [y] :: (((dS Ds1 ++ fr) ++ fr1) ++ tl4)) H5) (fun _ s => s) ?_
     refine V rfl (ov_not rfl rfl) (WL.nil (tn (WP.cond_true rfl (WP.ret (block_ret ?_)))))
     refine round_ret (i := 1) rfl ?_
     obtain ⟨rfl, rfl⟩ := Prod.mk.inj (Option.some.inj hm)
     exact ⟨rfl, H5, ([.obj l1 (R1 .done (some .ret)), .obj D1 (.deferred (some [])), .blk b1 144 [y]] ++ ((dS Ds1 ++ fr) ++ tl4)), hle5, condF ⟨tl4, (hle3.trans hle5), hT4, rfl⟩, fun w' s => St.frout (e := [.obj l1 (R1 .done (some .ret)), .obj D1 (.deferred (some [])), .blk b1 144 [y]]) (s.selectT 4 [1, 2, 3] (by decide) rfl rfl)⟩
  have hT5 : TH hY1 z1 H2 (.obj l1 (R1 .ready none) :: .obj D1 (.deferred (some [])) :: .blk b1 144 [y] :: ((dS Ds1 ++ fr) ++ tl1)) := ⟨tl1, Le.refl _, hT1, rfl⟩
  refine VCalls.mono ((hself (program_repeat_steps_1_rng2 step) hY1 r1 p_on z1 v1 H2 h3 hG (.obj l1 (R1 .ready none) :: .obj D1 (.deferred (some [])) :: .blk b1 144 [y] :: ((dS Ds1 ++ fr) ++ tl1)) hT5 r3 e3) [] w2 hs2) ?_
  rintro e w3 ⟨rv1, H6, ms1, rfl, hle6, ⟨tl5, rfl, hT6⟩, hs3⟩
  refine ⟨_, rfl, ?_⟩
  rcases Bool.eq_false_or_eq_true r3.1 with hc6 | hc6
  ·
   replace hm := ite_t hc6 hm
   obtain ⟨tl6, hle7, hT7, rfl⟩ := cond_t hc6 hT6
   refine ⟨St w0 H0 (.obj l1 (R1 .ready none) :: .obj D1 (.deferred (some [])) :: .blk b1 144 [y] :: ((dS Ds1 ++ fr) ++ tl6)) H6, ?_, hs3⟩
   refine afterM_normal (S' := St w0 H0 (.blk b1 144 [y] :: ((dS (D1 :: Ds1) ++ fr) ++ tl6)) H6) (fun _ s => St.dsin (e := [.blk b1 144 [y]]) s) ?_
   refine bn (bn (tn (WP.region (V rfl (ov_add rfl rfl rfl) (Vm rfl (WL.nil (tn ?_)))))))
   exact ⟨r3.2, tl6, H6, (IntKind.wrap .i64 (i1 + 1)), (D1 :: Ds1), hT7, ((hle1.trans hle2).trans hle6), (Sub.all rfl), fun w' s => s, hm⟩
  replace hm := ite_f hc6 hm
  obtain ⟨tl7, hle8, hT8, rfl⟩ := cond_f hc6 hT6
  refine ⟨St w0 H0 (.obj l1 (R1 .done (some .ret)) :: .obj D1 (.deferred (some [])) :: .blk b1 144 [y] :: ((dS Ds1 ++ fr) ++ tl7)) H6, ?_, hs3⟩
  refine afterM_ret (S' := St w0 H0 (.blk b1 144 [y] :: ((dS (D1 :: Ds1) ++ fr) ++ tl7)) H6) (fun _ s => St.dsin (e := [.blk b1 144 [y]]) s) ?_
  refine block_ret (block_ret (then_ret (then_ret (block_ret ?_))))
  obtain rfl := Option.some.inj hm
  refine retM_ret (Ds := (D1 :: Ds1)) (fr := fr) (t := tl7) (g := _) [.blk b1 144 [y]] results176 Res.nil rfl (fun w' s => ⟨H6, _, ((hle1.trans hle2).trans hle6), ⟨rfl, tl7, rfl, hT8⟩, (s.selectT 1 [] (by decide) rfl rfl)⟩)
 replace hm := ite_f hc2 hm
 refine WP.exit (then_exit (then_exit (block_here ?_)))
 obtain rfl := Option.some.inj hm
 refine retM_end (Ds := Ds1) (fr := fr) (t := tl1) (g := _) [.blk b1 144 [y]] results176 Res.nil rfl (fun w' s => ⟨H1, _, hle1, ⟨rfl, tl1, rfl, hT1⟩, (s.selectT 1 [] (by decide) rfl rfl)⟩)
end Go.Proofs.YtkgijoddkibapaaGreatDoor.W
