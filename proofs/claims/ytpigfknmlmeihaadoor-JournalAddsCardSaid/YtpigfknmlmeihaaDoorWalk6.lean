/- The walks. Written by our own program gen.py; Lean checks it. -/
import Derived.Test.YtpigfknmlmeihaaDoorPlain
import Derived.Test.YtpigfknmlmeihaaDoorEqs
import Derived.Test.YtpigfknmlmeihaaDoorProg
import Derived.Test.YtpigfknmlmeihaaDoorExt
import Derived.Test.YtpigfknmlmeihaaDoorClone
import Derived.Test.YtpigfknmlmeihaaDoorInsert
import Derived.Test.YtpigfknmlmeihaaDoorBuild
import Derived.Test.YtpigfknmlmeihaaDoorWalk5
set_option linter.unusedVariables false
set_option maxRecDepth 100000
set_option maxHeartbeats 4000000
namespace Go.Proofs.YtpigfknmlmeihaaDoor.W
open Go Go.RowKit
theorem ref58_Lined_con (p_l : (List Entry)) (ao1 : Option Addr) (cap1 : Nat) (w : World) (H : Heap) (hH : Le H (hp w)) (h1 : SL H encEntry ao1 p_l) (hc1 : p_l.length ≤ cap1) (hG : Glob H) (r : (List UInt8)) (hm : ref58_Lined p_l = some r) :
    Con Tryd.prog 53 [(.slice ao1 p_l.length cap1)] w H (fun v _ => v = (mkS r)) := by
  unfold ref58_Lined at hm
  refine con_of hH Tryd.func53 rfl 27 Tryd.ntmps53 rfl ?_
  refine WP.seq ?_
  refine WP.region ?_
  refine WL.quiet (Runs.free rfl) rfl rfl (OV.quiet (ov_assign rfl rfl)) ?_
  refine WL.nil ?_
  refine then_normal ?_
  refine WP.seq ?_
  refine WP.region ?_
  refine WL.quiet (Runs.free rfl) rfl rfl (OV.quiet (ov_assign rfl rfl)) ?_
  refine WL.quiet (Runs.free rfl) rfl rfl (OV.quiet (ov_assign rfl rfl)) ?_
  refine WL.quiet (Runs.free rfl) rfl rfl (OV.quiet (ov_assign rfl rfl)) ?_
  refine WL.nil ?_
  refine then_normal ?_
  obtain ⟨k1, hk1, hm⟩ := joinK_some hm
  refine WP.seq_join (fun g' S' => ∃ (s3 : (List UInt8)), Sub [(3, (mkS s3))] g' ∧ (∀ w', S' w' → St w H [] H w') ∧ k1 s3 = some r) ?_ ?_
  · skip
    refine WP.seq ?_
    refine WP.region ?_
    refine WL.quiet (Runs.free rfl) rfl rfl (OV.quiet (ov_assign rfl rfl)) ?_
    refine WL.nil ?_
    refine then_normal ?_
    refine WP.block ?_
    refine WP.loop (fun m1 g' S' => ∃ (s1 : (List UInt8)) (i1 : Int) (i2 : Int), Sub [(0, (.slice ao1 p_l.length cap1)), (3, (mkS s1)), (4, (.int .i64 i1)), (6, (.int .i64 i2))] g' ∧ (∀ w', S' w' → St w H [] H w') ∧ ref58_Lined_loop1 p_l k1 m1 s1 i1 i2 = some r) ((Int.toNat ((p_l.length : Int) - 0) + 1)) ⟨[], 0, 0, (Sub.cons rfl (Sub.cons rfl (Sub.cons rfl (Sub.cons rfl (Sub.nil _))))), fun w' s => s, hm⟩ ?_ ?_
    · rintro g' S' ⟨_, _, _, _, _, hm⟩
      exact none_some hm
    · rintro m1 g' S' ⟨s1, i1, i2, hsub1, hS1, hm⟩
      refine WP.sub hsub1 (WP.weaken hS1 ?_)
      rw [ref58_Lined_loop1] at hm
      refine WP.seq ?_
      refine WP.seq ?_
      refine WP.region ?_
      refine WL.quiet (Runs.free rfl) rfl rfl (OV.quiet (ov_move rfl rfl)) ?_
      refine WL.quiet (Runs.free rfl) rfl rfl (OV.quiet (ov_move rfl rfl)) ?_
      refine WL.quiet (Runs.free rfl) rfl rfl (OV.quiet (ov_len_slice Tryd.underlying58 rfl rfl)) ?_
      refine WL.quiet (Runs.free rfl) rfl rfl (OV.quiet (ov_lss rfl rfl rfl)) ?_
      refine WL.nil ?_
      refine then_normal ?_
      refine WP.cond rfl (fun hc2 => ?_) (fun hc2 => ?_)
      · replace hm := ite_t hc2 hm
        refine WP.skip ?_
        refine then_normal ?_
        refine WP.seq ?_
        refine WP.block ?_
        refine WP.seq ?_
        refine WP.region ?_
        refine WL.quiet (Runs.free rfl) rfl rfl (OV.quiet (ov_move rfl rfl)) ?_
        refine WL.quiet (Runs.free rfl) rfl rfl (OV.quiet (ov_move rfl rfl)) ?_
        refine WL.quiet (Runs.free rfl) rfl rfl (OV.quiet (ov_move rfl rfl)) ?_
        obtain ⟨x1, e1, hm⟩ := bind_some hm
        obtain ⟨h2, h3, h4, cs1, h5, h6⟩ := h1.get e1 (by decide)
        obtain rfl : cs1 = [(.int .i64 x1.kind), (mkS x1.name), (.int .i64 x1.count), (.int .i64 x1.strokes)] := h5
        refine WL.quiet (Runs.free rfl) rfl rfl (OV.quiet (ov_indexAddr Tryd.underlying58 Tryd.sizeOf38 rfl rfl rfl h2 h3 h4)) ?_
        refine WL.quiet (Runs.free rfl) rfl rfl (OV.quiet (ov_load_elems (vs := [(.int .i64 x1.kind), (mkS x1.name), (.int .i64 x1.count), (.int .i64 x1.strokes)]) Tryd.isAgg38 Tryd.sizeOf38 rfl rfl rfl h6 h4)) ?_
        obtain ⟨r1, e2, hm⟩ := bind_some hm
        refine WL.quiet (Runs.free rfl) rfl rfl (oq_con (r := (mkS r1)) Tryd.call73 rfl rfl (fun w' s => ⟨_, (ref58_Written_con x1  w' H s.hold hG r1 e2)⟩)) ?_
        obtain ⟨r2, e3, hm⟩ := bind_some hm
        refine WL.quiet (Runs.free rfl) rfl rfl (oq_con (r := (.tuple #[(mkS r2.1), (.int .i64 r2.2)])) Tryd.call72 rfl rfl (fun w' s => ⟨_, (ref58_Line_con i1 r1  w' H s.hold hG r2 e3)⟩)) ?_
        refine WL.quiet (Runs.free rfl) rfl rfl (OV.quiet (ov_move rfl rfl)) ?_
        refine WL.quiet (Runs.free rfl) rfl rfl (OV.quiet (ov_extract rfl rfl rfl)) ?_
        refine WL.quiet (Runs.free rfl) rfl rfl (OV.quiet (ov_extract rfl rfl rfl)) ?_
        refine WL.quiet (Runs.free rfl) rfl rfl (OV.quiet (ov_assign rfl rfl)) ?_
        refine WL.quiet (Runs.free rfl) rfl rfl (OV.quiet (ov_assign rfl rfl)) ?_
        refine WL.nil ?_
        refine then_normal ?_
        refine WP.region ?_
        refine WL.quiet (Runs.free rfl) rfl rfl (OV.quiet (ov_move rfl rfl)) ?_
        refine WL.quiet (Runs.free rfl) rfl rfl (OV.quiet (ov_move rfl rfl)) ?_
        obtain ⟨s2, e4, hm⟩ := bind_some hm
        refine WL.quiet (Runs.free rfl) rfl rfl (OV.quiet (ov_sadd' e4 rfl rfl rfl)) ?_
        refine WL.quiet (Runs.free rfl) rfl rfl (OV.quiet (ov_assign rfl rfl)) ?_
        refine WL.nil ?_
        refine block_normal ?_
        refine then_normal ?_
        refine WP.region ?_
        refine WL.quiet (Runs.free rfl) rfl rfl (OV.quiet (ov_move rfl rfl)) ?_
        refine WL.quiet (Runs.free rfl) rfl rfl (OV.quiet (ov_add rfl rfl rfl)) ?_
        refine WL.quiet (Runs.free rfl) rfl rfl (OV.quiet (ov_assign rfl rfl)) ?_
        refine WL.nil ?_
        refine then_normal ?_
        exact ⟨s2, r2.2, (IntKind.wrap .i64 (i2 + 1)), (Sub.cons rfl (Sub.cons rfl (Sub.cons rfl (Sub.cons rfl (Sub.nil _))))), fun w' s => s, hm⟩
      · replace hm := ite_f hc2 hm
        refine WP.exit ?_
        refine then_exit ?_
        refine then_exit ?_
        refine block_here ?_
        refine then_normal ?_
        exact ⟨s1, (Sub.cons rfl (Sub.nil _)), fun w' s => s, hm⟩
  · rintro g' S' ⟨s3, hsub2, hS2, hm⟩
    refine WP.sub hsub2 (WP.weaken hS2 ?_)
    replace hm := (congrFun hk1 s3).symm.trans hm
    refine WP.seq ?_
    refine WP.region ?_
    refine WL.quiet (Runs.free rfl) rfl rfl (OV.quiet (ov_move rfl rfl)) ?_
    refine WL.quiet (Runs.free rfl) rfl rfl (OV.quiet (ov_assign rfl rfl)) ?_
    refine WL.nil ?_
    refine then_normal ?_
    refine WP.ret ?_
    obtain rfl := Option.some.inj hm
    refine retQ_ret Tryd.results53 (Res.tmp rfl Res.nil) rfl (fun w' s => ⟨s.below, ?_⟩)
    exact rfl

theorem ref58_Log_con (p_l : (List Entry)) (ao1 : Option Addr) (cap1 : Nat) (w : World) (H : Heap) (hH : Le H (hp w)) (h1 : SL H encEntry ao1 p_l) (hc1 : p_l.length ≤ cap1) (hG : Glob H) (r : ((List UInt8) × Int)) (hm : ref58_Log p_l = some r) :
    Con Tryd.prog 28 [(.slice ao1 p_l.length cap1)] w H (fun v _ => v = (.tuple #[(mkS r.1), (.int .i64 r.2)])) := by
  unfold ref58_Log at hm
  refine con_of hH Tryd.func28 rfl 23 Tryd.ntmps28 rfl ?_
  refine WP.seq ?_
  refine WP.region ?_
  refine WL.quiet (Runs.free rfl) rfl rfl (OV.quiet (ov_assign rfl rfl)) ?_
  refine WL.quiet (Runs.free rfl) rfl rfl (OV.quiet (ov_assign rfl rfl)) ?_
  refine WL.nil ?_
  refine then_normal ?_
  refine WP.seq ?_
  refine WP.seq ?_
  refine WP.region ?_
  refine WL.quiet (Runs.free rfl) rfl rfl (OV.quiet (ov_move rfl rfl)) ?_
  obtain ⟨r1, e1, hm⟩ := bind_some hm
  refine WL.step (Runs.free rfl) rfl rfl (os_con Tryd.call26 rfl rfl (fun w' s => (ref58_Run_con p_l ao1 cap1  w' H s.hold h1 hc1 hG r1 e1)) (fun rr1 H1 hle1 hR1 => ?_))
  replace h1 := h1.mono hle1
  replace hG := hG.mono hle1
  obtain ⟨ao2, cap2, rfl, h2, hc2⟩ := hR1
  refine WL.quiet (Runs.free rfl) rfl rfl (OV.quiet (ov_move rfl rfl)) ?_
  refine WL.quiet (Runs.free rfl) rfl rfl (OV.quiet (ov_extract rfl rfl rfl)) ?_
  refine WL.quiet (Runs.free rfl) rfl rfl (OV.quiet (ov_extract rfl rfl rfl)) ?_
  refine WL.quiet (Runs.free rfl) rfl rfl (OV.quiet (ov_extract rfl rfl rfl)) ?_
  refine WL.step (Runs.free rfl) rfl rfl (os_alloc (cs := [(.slice none 0 0), (.int .i64 0)]) Tryd.zeroValue34 rfl rfl (fun b1 => ?_))
  refine WL.step0 (Runs.free rfl) rfl (os_store (i := 0) (vs := [(.slice ao2 r1.1.items.length cap2), (.int .i64 r1.1.cycles)]) (cs' := [(.slice ao2 r1.1.items.length cap2), (.int .i64 r1.1.cycles)]) Tryd.sizeOf34 rfl rfl rfl rfl rfl rfl rfl rfl rfl ?_)
  refine WL.quiet (Runs.free rfl) rfl rfl (OV.quiet (ov_assign rfl rfl)) ?_
  refine WL.quiet (Runs.free rfl) rfl rfl (OV.quiet (ov_assign rfl rfl)) ?_
  refine WL.nil ?_
  refine then_normal ?_
  refine WP.seq ?_
  refine WP.region ?_
  refine WL.quiet (Runs.free rfl) rfl rfl (OV.quiet (ov_move rfl rfl)) ?_
  refine WL.quiet (Runs.free rfl) rfl rfl (OV.quiet (ov_neq rfl rfl rfl)) ?_
  refine WL.nil ?_
  refine then_normal ?_
  refine WP.cond rfl (fun hc3 => ?_) (fun hc3 => ?_)
  · replace hm := ite_t hc3 hm
    refine WP.seq ?_
    refine WP.region ?_
    refine WL.quiet (Runs.free rfl) rfl rfl (OV.quiet (ov_move rfl rfl)) ?_
    refine WL.quiet (Runs.free rfl) rfl rfl (OV.quiet (ov_assign rfl rfl)) ?_
    refine WL.quiet (Runs.free rfl) rfl rfl (OV.quiet (ov_assign rfl rfl)) ?_
    refine WL.nil ?_
    refine then_normal ?_
    refine WP.ret ?_
    refine then_ret ?_
    obtain rfl := Option.some.inj hm
    refine retQ_ret Tryd.results28 (Res.tmp rfl (Res.tmp rfl Res.nil)) rfl (fun w' s => ⟨s.below, ?_⟩)
    exact rfl
  · replace hm := ite_f hc3 hm
    refine WP.skip ?_
    refine then_normal ?_
    refine WP.seq ?_
    refine WP.region ?_
    refine WL.quiet (Runs.free rfl) rfl rfl (OV.quiet (ov_move rfl rfl)) ?_
    obtain ⟨r2, e2, hm⟩ := bind_some hm
    refine WL.quiet (Runs.free rfl) rfl rfl (oq_con (r := (mkS r2)) Tryd.call53 rfl rfl (fun w' s => ⟨_, (ref58_Lined_con p_l ao1 cap1  w' H1 s.hold h1 hc1 hG r2 e2)⟩)) ?_
    refine WL.quiet (Runs.free rfl) rfl rfl (OV.quiet (ov_assign rfl rfl)) ?_
    refine WL.nil ?_
    refine then_normal ?_
    refine WP.seq ?_
    refine WP.seq ?_
    refine WP.region ?_
    refine WL.quiet (Runs.free rfl) rfl rfl (OV.quiet (ov_move rfl rfl)) ?_
    refine WL.quiet (Runs.free rfl) rfl rfl (OV.quiet (ov_len_string Tryd.underlying9 rfl rfl)) ?_
    refine WL.quiet (Runs.free rfl) rfl rfl (OV.quiet (ov_gtr rfl rfl rfl)) ?_
    refine WL.nil ?_
    refine then_normal ?_
    refine WP.cond rfl (fun hc4 => ?_) (fun hc4 => ?_)
    · replace hm := ite_t hc4 hm
      refine WP.seq ?_
      refine WP.region ?_
      refine WL.quiet (Runs.free rfl) rfl rfl (OV.quiet (ov_assign rfl rfl)) ?_
      refine WL.quiet (Runs.free rfl) rfl rfl (OV.quiet (ov_assign rfl rfl)) ?_
      refine WL.nil ?_
      refine then_normal ?_
      refine WP.ret ?_
      refine then_ret ?_
      obtain rfl := Option.some.inj hm
      refine retQ_ret Tryd.results28 (Res.tmp rfl (Res.tmp rfl Res.nil)) rfl (fun w' s => ⟨s.below, ?_⟩)
      exact rfl
    · replace hm := ite_f hc4 hm
      refine WP.skip ?_
      refine then_normal ?_
      refine WP.seq ?_
      refine WP.region ?_
      refine WL.quiet (Runs.free rfl) rfl rfl (OV.quiet (ov_move rfl rfl)) ?_
      refine WL.quiet (Runs.free rfl) rfl rfl (OV.quiet (ov_assign rfl rfl)) ?_
      refine WL.quiet (Runs.free rfl) rfl rfl (OV.quiet (ov_assign rfl rfl)) ?_
      refine WL.nil ?_
      refine then_normal ?_
      refine WP.ret ?_
      obtain rfl := Option.some.inj hm
      refine retQ_ret Tryd.results28 (Res.tmp rfl (Res.tmp rfl Res.nil)) rfl (fun w' s => ⟨s.below, ?_⟩)
      exact rfl

theorem law58_JournalRuns_con (p_l : (List Entry)) (ao1 : Option Addr) (cap1 : Nat) (w : World) (H : Heap) (hH : Le H (hp w)) (h1 : SL H encEntry ao1 p_l) (hc1 : p_l.length ≤ cap1) (hG : Glob H) (r : Bool) (hm : law58_JournalRuns p_l = some r) :
    Con Tryd.prog 5 [(.slice ao1 p_l.length cap1)] w H (fun v _ => v = (.bool r)) := by
  unfold law58_JournalRuns at hm
  refine con_of hH Tryd.func5 rfl 69 Tryd.ntmps5 rfl ?_
  refine WP.seq ?_
  refine WP.region ?_
  refine WL.quiet (Runs.free rfl) rfl rfl (OV.quiet (ov_assign rfl rfl)) ?_
  refine WL.nil ?_
  refine then_normal ?_
  refine WP.seq ?_
  refine WP.seq ?_
  refine WP.region ?_
  refine WL.quiet (Runs.free rfl) rfl rfl (OV.quiet (ov_move rfl rfl)) ?_
  obtain ⟨r1, e1, hm⟩ := bind_some hm
  refine WL.step (Runs.free rfl) rfl rfl (os_con Tryd.call24 rfl rfl (fun w' s => (law58_entries_con p_l ao1 cap1  w' H s.hold h1 hc1 hG r1 e1)) (fun rr1 H1 hle1 hR1 => ?_))
  replace h1 := h1.mono hle1
  replace hG := hG.mono hle1
  obtain ⟨ao2, cap2, rfl, h2, hc2⟩ := hR1
  obtain ⟨r2, e2, hm⟩ := bind_some hm
  refine WL.quiet (Runs.free rfl) rfl rfl (oq_con (r := (.bool r2)) Tryd.call23 rfl rfl (fun w' s => ⟨_, (ref58_FewEntries_con r1 ao2 cap2  w' H1 s.hold h2 hc2 hG r2 e2)⟩)) ?_
  refine WL.quiet (Runs.free rfl) rfl rfl (OV.quiet (ov_not rfl rfl)) ?_
  refine WL.nil ?_
  refine then_normal ?_
  refine WP.cond rfl (fun hc3 => ?_) (fun hc3 => ?_)
  · replace hm := ite_t hc3 hm
    refine WP.seq ?_
    refine WP.region ?_
    obtain ⟨r3, e3, hm⟩ := bind_some hm
    refine WL.quiet (Runs.free rfl) rfl rfl (oq_con (r := (.bool r3)) Tryd.call9 rfl rfl (fun w' s => ⟨_, (law58_awake_con   w' H1 s.hold hG r3 e3)⟩)) ?_
    refine WL.quiet (Runs.free rfl) rfl rfl (OV.quiet (ov_assign rfl rfl)) ?_
    refine WL.nil ?_
    refine then_normal ?_
    refine WP.ret ?_
    refine then_ret ?_
    obtain rfl := Option.some.inj hm
    refine retQ_ret Tryd.results5 (Res.tmp rfl Res.nil) rfl (fun w' s => ⟨s.below, ?_⟩)
    exact rfl
  · replace hm := ite_f hc3 hm
    refine WP.skip ?_
    refine then_normal ?_
    refine WP.seq ?_
    refine WP.region ?_
    refine WL.quiet (Runs.free rfl) rfl rfl (OV.quiet (ov_move rfl rfl)) ?_
    obtain ⟨r4, e4, hm⟩ := bind_some hm
    refine WL.step (Runs.free rfl) rfl rfl (os_con Tryd.call25 rfl rfl (fun w' s => (journal_Run_con p_l ao1 cap1  w' H1 s.hold h1 hc1 hG r4 e4)) (fun rr2 H2 hle2 hR2 => ?_))
    replace h1 := h1.mono hle2
    replace h2 := h2.mono hle2
    replace hG := hG.mono hle2
    obtain ⟨ao3, cap3, rfl, h3, hc4⟩ := hR2
    refine WL.quiet (Runs.free rfl) rfl rfl (OV.quiet (ov_move rfl rfl)) ?_
    refine WL.quiet (Runs.free rfl) rfl rfl (OV.quiet (ov_extract rfl rfl rfl)) ?_
    refine WL.quiet (Runs.free rfl) rfl rfl (OV.quiet (ov_extract rfl rfl rfl)) ?_
    refine WL.quiet (Runs.free rfl) rfl rfl (OV.quiet (ov_extract rfl rfl rfl)) ?_
    refine WL.step (Runs.free rfl) rfl rfl (os_alloc (cs := [(.slice none 0 0), (.int .i64 0)]) Tryd.zeroValue24 rfl rfl (fun b1 => ?_))
    refine WL.step0 (Runs.free rfl) rfl (os_store (i := 0) (vs := [(.slice ao3 r4.1.items.length cap3), (.int .i64 r4.1.cycles)]) (cs' := [(.slice ao3 r4.1.items.length cap3), (.int .i64 r4.1.cycles)]) Tryd.sizeOf24 rfl rfl rfl rfl rfl rfl rfl rfl rfl ?_)
    refine WL.quiet (Runs.free rfl) rfl rfl (OV.quiet (ov_assign rfl rfl)) ?_
    refine WL.quiet (Runs.free rfl) rfl rfl (OV.quiet (ov_assign rfl rfl)) ?_
    refine WL.nil ?_
    refine then_normal ?_
    refine WP.seq ?_
    refine WP.region ?_
    refine WL.quiet (Runs.free rfl) rfl rfl (OV.quiet (ov_move rfl rfl)) ?_
    obtain ⟨r5, e5, hm⟩ := bind_some hm
    refine WL.step (Runs.free rfl) rfl rfl (os_con Tryd.call24 rfl rfl (fun w' s => (law58_entries_con p_l ao1 cap1  w' H2 s.hold h1 hc1 hG r5 e5)) (fun rr3 H3 hle3 hR3 => ?_))
    replace h1 := h1.mono hle3
    replace h2 := h2.mono hle3
    replace h3 := h3.mono hle3
    replace hG := hG.mono hle3
    obtain ⟨ao4, cap4, rfl, h4, hc5⟩ := hR3
    obtain ⟨r6, e6, hm⟩ := bind_some hm
    refine WL.step (Runs.free rfl) rfl rfl (os_con Tryd.call26 rfl rfl (fun w' s => (ref58_Run_con r5 ao4 cap4  w' H3 s.hold h4 hc5 hG r6 e6)) (fun rr4 H4 hle4 hR4 => ?_))
    replace h1 := h1.mono hle4
    replace h2 := h2.mono hle4
    replace h3 := h3.mono hle4
    replace h4 := h4.mono hle4
    replace hG := hG.mono hle4
    obtain ⟨ao5, cap5, rfl, h5, hc6⟩ := hR4
    refine WL.quiet (Runs.free rfl) rfl rfl (OV.quiet (ov_move rfl rfl)) ?_
    refine WL.quiet (Runs.free rfl) rfl rfl (OV.quiet (ov_extract rfl rfl rfl)) ?_
    refine WL.quiet (Runs.free rfl) rfl rfl (OV.quiet (ov_extract rfl rfl rfl)) ?_
    refine WL.quiet (Runs.free rfl) rfl rfl (OV.quiet (ov_extract rfl rfl rfl)) ?_
    refine WL.step (Runs.free rfl) rfl rfl (os_alloc (cs := [(.slice none 0 0), (.int .i64 0)]) Tryd.zeroValue34 rfl rfl (fun b2 => ?_))
    refine WL.step0 (Runs.free rfl) rfl (os_store (i := 0) (vs := [(.slice ao5 r6.1.items.length cap5), (.int .i64 r6.1.cycles)]) (cs' := [(.slice ao5 r6.1.items.length cap5), (.int .i64 r6.1.cycles)]) Tryd.sizeOf34 rfl rfl rfl rfl rfl rfl rfl rfl rfl ?_)
    refine WL.quiet (Runs.free rfl) rfl rfl (OV.quiet (ov_assign rfl rfl)) ?_
    refine WL.quiet (Runs.free rfl) rfl rfl (OV.quiet (ov_assign rfl rfl)) ?_
    refine WL.nil ?_
    refine then_normal ?_
    refine WP.seq ?_
    refine WP.region ?_
    refine WL.quiet (Runs.free rfl) rfl rfl (OV.quiet (ov_move rfl rfl)) ?_
    obtain ⟨r7, e7, hm⟩ := bind_some hm
    refine WL.quiet (Runs.free rfl) rfl rfl (oq_con (r := (.tuple #[(mkS r7.1), (.int .i64 r7.2)])) Tryd.call27 rfl rfl (fun w' s => ⟨_, (journal_Log_con p_l ao1 cap1  w' H4 s.hold h1 hc1 hG r7 e7)⟩)) ?_
    refine WL.quiet (Runs.free rfl) rfl rfl (OV.quiet (ov_move rfl rfl)) ?_
    refine WL.quiet (Runs.free rfl) rfl rfl (OV.quiet (ov_extract rfl rfl rfl)) ?_
    refine WL.quiet (Runs.free rfl) rfl rfl (OV.quiet (ov_extract rfl rfl rfl)) ?_
    refine WL.quiet (Runs.free rfl) rfl rfl (OV.quiet (ov_assign rfl rfl)) ?_
    refine WL.quiet (Runs.free rfl) rfl rfl (OV.quiet (ov_assign rfl rfl)) ?_
    refine WL.nil ?_
    refine then_normal ?_
    refine WP.seq ?_
    refine WP.region ?_
    refine WL.quiet (Runs.free rfl) rfl rfl (OV.quiet (ov_move rfl rfl)) ?_
    obtain ⟨r8, e8, hm⟩ := bind_some hm
    refine WL.step (Runs.free rfl) rfl rfl (os_con Tryd.call24 rfl rfl (fun w' s => (law58_entries_con p_l ao1 cap1  w' H4 s.hold h1 hc1 hG r8 e8)) (fun rr5 H5 hle5 hR5 => ?_))
    replace h1 := h1.mono hle5
    replace h2 := h2.mono hle5
    replace h3 := h3.mono hle5
    replace h4 := h4.mono hle5
    replace h5 := h5.mono hle5
    replace hG := hG.mono hle5
    obtain ⟨ao6, cap6, rfl, h6, hc7⟩ := hR5
    obtain ⟨r9, e9, hm⟩ := bind_some hm
    refine WL.quiet (Runs.free rfl) rfl rfl (oq_con (r := (.tuple #[(mkS r9.1), (.int .i64 r9.2)])) Tryd.call28 rfl rfl (fun w' s => ⟨_, (ref58_Log_con r8 ao6 cap6  w' H5 s.hold h6 hc7 hG r9 e9)⟩)) ?_
    refine WL.quiet (Runs.free rfl) rfl rfl (OV.quiet (ov_move rfl rfl)) ?_
    refine WL.quiet (Runs.free rfl) rfl rfl (OV.quiet (ov_extract rfl rfl rfl)) ?_
    refine WL.quiet (Runs.free rfl) rfl rfl (OV.quiet (ov_extract rfl rfl rfl)) ?_
    refine WL.quiet (Runs.free rfl) rfl rfl (OV.quiet (ov_assign rfl rfl)) ?_
    refine WL.quiet (Runs.free rfl) rfl rfl (OV.quiet (ov_assign rfl rfl)) ?_
    refine WL.nil ?_
    refine then_normal ?_
    refine WP.seq ?_
    refine WP.region_any (S₀ := St w H [.blk b2 34 [(.slice ao5 r6.1.items.length cap5), (.int .i64 r6.1.cycles)], .blk b1 24 [(.slice ao3 r4.1.items.length cap3), (.int .i64 r4.1.cycles)]] H5) 28 rfl (by kernel_rfl) (fun w' s => s) (fun _ s => s.drew) ?_
    refine AL.any (rs := [0]) (by kernel_rfl) (by decide) ?_
    refine ALs.cons (i := 0) rfl (Runs.free rfl) rfl rfl ?_ ?_
    · skip
      obtain ⟨r10, e10, hm⟩ := bind_some hm
      refine OQ.step (oq_con (r := (.bool r10)) Tryd.call9 rfl rfl (fun w' s => ⟨_, (law58_awake_con   w' H5 s.hold hG r10 e10)⟩)) ?_
      refine ⟨fun w' s => s, ?_⟩
      refine AL.take (i := 1) rfl (by kernel_rfl) (by kernel_rfl) (by kernel_rfl) (Runs.free rfl) rfl rfl (ov_move rfl rfl) ?_
      rcases Bool.eq_false_or_eq_true r10 with hc8 | hc8
      · replace hm := ite_t hc8 hm
        refine AL.take (i := 2) rfl (by kernel_rfl) (by kernel_rfl) (by kernel_rfl) (Runs.yes rfl rfl rfl hc8) rfl rfl (ov_load_whole (i := 1) Tryd.isAgg24 Tryd.sizeOf24 rfl rfl rfl rfl) ?_
        refine AL.take (i := 4) rfl (by kernel_rfl) (by kernel_rfl) (by kernel_rfl) (Runs.yes rfl rfl rfl hc8) rfl rfl (ov_load_whole (i := 0) Tryd.isAgg34 Tryd.sizeOf34 rfl rfl rfl rfl) ?_
        refine AL.any (rs := [3]) (by kernel_rfl) (by decide) ?_
        refine ALs.cons (i := 3) rfl (Runs.yes rfl rfl rfl hc8) rfl rfl ?_ ?_
        · skip
          obtain ⟨r11, e11, hm⟩ := bind_some hm
          refine os_con Tryd.call12 rfl rfl (fun w' s => (law58_own_con r4.1 ao3 cap3  w' H5 s.hold h3 hc4 hG r11 e11)) (fun rr6 H6 hle6 hR6 => ?_)
          replace h1 := h1.mono hle6
          replace h2 := h2.mono hle6
          replace h3 := h3.mono hle6
          replace h4 := h4.mono hle6
          replace h5 := h5.mono hle6
          replace h6 := h6.mono hle6
          replace hG := hG.mono hle6
          obtain ⟨ao7, cap7, rfl, h7, hc9⟩ := hR6
          refine ⟨fun w' s => (s.heap hle6), ?_⟩
          refine AL.any (rs := [5]) (by kernel_rfl) (by decide) ?_
          refine ALs.cons (i := 5) rfl (Runs.yes rfl rfl rfl hc8) rfl rfl ?_ ?_
          · skip
            obtain ⟨r12, e12, hm⟩ := bind_some hm
            refine OQ.step (oq_con (r := (.bool r12)) Tryd.call17 rfl rfl (fun w' s => ⟨_, (ref58_Same_con r11 r6.1 ao7 cap7 ao5 cap5  w' H6 s.hold h7 hc9 h5 hc6 hG r12 e12)⟩)) ?_
            refine ⟨fun w' s => (s.heap hle6), ?_⟩
            refine AL.take (i := 6) rfl (by kernel_rfl) (by kernel_rfl) (by kernel_rfl) (Runs.free rfl) rfl rfl (ov_pick_true rfl (guard_eq rfl hc8) rfl) ?_
            refine AL.take (i := 7) rfl (by kernel_rfl) (by kernel_rfl) (by kernel_rfl) (Runs.free rfl) rfl rfl (ov_move rfl rfl) ?_
            rcases Bool.eq_false_or_eq_true r12 with hc10 | hc10
            · replace hm := ite_t hc10 hm
              refine AL.take (i := 8) rfl (by kernel_rfl) (by kernel_rfl) (by kernel_rfl) (Runs.yes rfl rfl rfl hc10) rfl rfl (ov_move rfl rfl) ?_
              refine AL.take (i := 9) rfl (by kernel_rfl) (by kernel_rfl) (by kernel_rfl) (Runs.yes rfl rfl rfl hc10) rfl rfl (ov_move rfl rfl) ?_
              refine AL.take (i := 10) rfl (by kernel_rfl) (by kernel_rfl) (by kernel_rfl) (Runs.yes rfl rfl rfl hc10) rfl rfl (ov_eql rfl rfl rfl) ?_
              refine AL.take (i := 11) rfl (by kernel_rfl) (by kernel_rfl) (by kernel_rfl) (Runs.free rfl) rfl rfl (ov_pick_true rfl (guard_eq rfl hc10) rfl) ?_
              refine AL.take (i := 12) rfl (by kernel_rfl) (by kernel_rfl) (by kernel_rfl) (Runs.free rfl) rfl rfl (ov_move rfl rfl) ?_
              rcases Bool.eq_false_or_eq_true (r4.2.1 == r6.2.1) with hc11 | hc11
              · replace hm := ite_t hc11 hm
                refine AL.take (i := 13) rfl (by kernel_rfl) (by kernel_rfl) (by kernel_rfl) (Runs.yes rfl rfl rfl hc11) rfl rfl (ov_move rfl rfl) ?_
                refine AL.take (i := 14) rfl (by kernel_rfl) (by kernel_rfl) (by kernel_rfl) (Runs.yes rfl rfl rfl hc11) rfl rfl (ov_move rfl rfl) ?_
                refine AL.take (i := 15) rfl (by kernel_rfl) (by kernel_rfl) (by kernel_rfl) (Runs.yes rfl rfl rfl hc11) rfl rfl (ov_eql rfl rfl rfl) ?_
                refine AL.take (i := 16) rfl (by kernel_rfl) (by kernel_rfl) (by kernel_rfl) (Runs.free rfl) rfl rfl (ov_pick_true rfl (guard_eq rfl hc11) rfl) ?_
                refine AL.take (i := 17) rfl (by kernel_rfl) (by kernel_rfl) (by kernel_rfl) (Runs.free rfl) rfl rfl (ov_move rfl rfl) ?_
                rcases Bool.eq_false_or_eq_true (r4.2.2 == r6.2.2) with hc12 | hc12
                · replace hm := ite_t hc12 hm
                  refine AL.take (i := 18) rfl (by kernel_rfl) (by kernel_rfl) (by kernel_rfl) (Runs.yes rfl rfl rfl hc12) rfl rfl (ov_move rfl rfl) ?_
                  refine AL.take (i := 19) rfl (by kernel_rfl) (by kernel_rfl) (by kernel_rfl) (Runs.yes rfl rfl rfl hc12) rfl rfl (ov_move rfl rfl) ?_
                  refine AL.take (i := 20) rfl (by kernel_rfl) (by kernel_rfl) (by kernel_rfl) (Runs.yes rfl rfl rfl hc12) rfl rfl (ov_seql rfl rfl rfl) ?_
                  refine AL.take (i := 21) rfl (by kernel_rfl) (by kernel_rfl) (by kernel_rfl) (Runs.free rfl) rfl rfl (ov_pick_true rfl (guard_eq rfl hc12) rfl) ?_
                  refine AL.take (i := 22) rfl (by kernel_rfl) (by kernel_rfl) (by kernel_rfl) (Runs.free rfl) rfl rfl (ov_move rfl rfl) ?_
                  rcases Bool.eq_false_or_eq_true (r7.1 == r9.1) with hc13 | hc13
                  · replace hm := ite_t hc13 hm
                    refine AL.take (i := 23) rfl (by kernel_rfl) (by kernel_rfl) (by kernel_rfl) (Runs.yes rfl rfl rfl hc13) rfl rfl (ov_move rfl rfl) ?_
                    refine AL.take (i := 24) rfl (by kernel_rfl) (by kernel_rfl) (by kernel_rfl) (Runs.yes rfl rfl rfl hc13) rfl rfl (ov_move rfl rfl) ?_
                    refine AL.take (i := 25) rfl (by kernel_rfl) (by kernel_rfl) (by kernel_rfl) (Runs.yes rfl rfl rfl hc13) rfl rfl (ov_eql rfl rfl rfl) ?_
                    refine AL.take (i := 26) rfl (by kernel_rfl) (by kernel_rfl) (by kernel_rfl) (Runs.free rfl) rfl rfl (ov_pick_true rfl (guard_eq rfl hc13) rfl) ?_
                    refine AL.take (i := 27) rfl (by kernel_rfl) (by kernel_rfl) (by kernel_rfl) (Runs.free rfl) rfl rfl (ov_assign rfl rfl) ?_
                    refine AL.done (by kernel_rfl) ?_
                    refine then_normal ?_
                    refine WP.ret ?_
                    obtain rfl := Option.some.inj hm
                    refine retQ_ret Tryd.results5 (Res.tmp rfl Res.nil) rfl (fun w' s => ⟨s.below, ?_⟩)
                    exact rfl
                  · replace hm := ite_f hc13 hm
                    refine AL.idle (i := 23) rfl (by kernel_rfl) (by kernel_rfl) (by kernel_rfl) (Idle.no rfl rfl rfl hc13) rfl rfl ?_
                    refine AL.idle (i := 24) rfl (by kernel_rfl) (by kernel_rfl) (by kernel_rfl) (Idle.no rfl rfl rfl hc13) rfl rfl ?_
                    refine AL.idle (i := 25) rfl (by kernel_rfl) (by kernel_rfl) (by kernel_rfl) (Idle.no rfl rfl rfl hc13) rfl rfl ?_
                    refine AL.take (i := 26) rfl (by kernel_rfl) (by kernel_rfl) (by kernel_rfl) (Runs.free rfl) rfl rfl (ov_pick_false rfl (guard_eq rfl hc13) rfl) ?_
                    refine AL.take (i := 27) rfl (by kernel_rfl) (by kernel_rfl) (by kernel_rfl) (Runs.free rfl) rfl rfl (ov_assign rfl rfl) ?_
                    refine AL.done (by kernel_rfl) ?_
                    refine then_normal ?_
                    refine WP.ret ?_
                    obtain rfl := Option.some.inj hm
                    refine retQ_ret Tryd.results5 (Res.tmp rfl Res.nil) rfl (fun w' s => ⟨s.below, ?_⟩)
                    exact rfl
                · replace hm := ite_f hc12 hm
                  refine AL.idle (i := 18) rfl (by kernel_rfl) (by kernel_rfl) (by kernel_rfl) (Idle.no rfl rfl rfl hc12) rfl rfl ?_
                  refine AL.idle (i := 19) rfl (by kernel_rfl) (by kernel_rfl) (by kernel_rfl) (Idle.no rfl rfl rfl hc12) rfl rfl ?_
                  refine AL.idle (i := 20) rfl (by kernel_rfl) (by kernel_rfl) (by kernel_rfl) (Idle.no rfl rfl rfl hc12) rfl rfl ?_
                  refine AL.take (i := 21) rfl (by kernel_rfl) (by kernel_rfl) (by kernel_rfl) (Runs.free rfl) rfl rfl (ov_pick_false rfl (guard_eq rfl hc12) rfl) ?_
                  refine AL.take (i := 22) rfl (by kernel_rfl) (by kernel_rfl) (by kernel_rfl) (Runs.free rfl) rfl rfl (ov_move rfl rfl) ?_
                  refine AL.idle (i := 23) rfl (by kernel_rfl) (by kernel_rfl) (by kernel_rfl) (Idle.no rfl rfl rfl rfl) rfl rfl ?_
                  refine AL.idle (i := 24) rfl (by kernel_rfl) (by kernel_rfl) (by kernel_rfl) (Idle.no rfl rfl rfl rfl) rfl rfl ?_
                  refine AL.idle (i := 25) rfl (by kernel_rfl) (by kernel_rfl) (by kernel_rfl) (Idle.no rfl rfl rfl rfl) rfl rfl ?_
                  refine AL.take (i := 26) rfl (by kernel_rfl) (by kernel_rfl) (by kernel_rfl) (Runs.free rfl) rfl rfl (ov_pick_false rfl (guard_eq rfl rfl) rfl) ?_
                  refine AL.take (i := 27) rfl (by kernel_rfl) (by kernel_rfl) (by kernel_rfl) (Runs.free rfl) rfl rfl (ov_assign rfl rfl) ?_
                  refine AL.done (by kernel_rfl) ?_
                  refine then_normal ?_
                  refine WP.ret ?_
                  obtain rfl := Option.some.inj hm
                  refine retQ_ret Tryd.results5 (Res.tmp rfl Res.nil) rfl (fun w' s => ⟨s.below, ?_⟩)
                  exact rfl
              · replace hm := ite_f hc11 hm
                refine AL.idle (i := 13) rfl (by kernel_rfl) (by kernel_rfl) (by kernel_rfl) (Idle.no rfl rfl rfl hc11) rfl rfl ?_
                refine AL.idle (i := 14) rfl (by kernel_rfl) (by kernel_rfl) (by kernel_rfl) (Idle.no rfl rfl rfl hc11) rfl rfl ?_
                refine AL.idle (i := 15) rfl (by kernel_rfl) (by kernel_rfl) (by kernel_rfl) (Idle.no rfl rfl rfl hc11) rfl rfl ?_
                refine AL.take (i := 16) rfl (by kernel_rfl) (by kernel_rfl) (by kernel_rfl) (Runs.free rfl) rfl rfl (ov_pick_false rfl (guard_eq rfl hc11) rfl) ?_
                refine AL.take (i := 17) rfl (by kernel_rfl) (by kernel_rfl) (by kernel_rfl) (Runs.free rfl) rfl rfl (ov_move rfl rfl) ?_
                refine AL.idle (i := 18) rfl (by kernel_rfl) (by kernel_rfl) (by kernel_rfl) (Idle.no rfl rfl rfl rfl) rfl rfl ?_
                refine AL.idle (i := 19) rfl (by kernel_rfl) (by kernel_rfl) (by kernel_rfl) (Idle.no rfl rfl rfl rfl) rfl rfl ?_
                refine AL.idle (i := 20) rfl (by kernel_rfl) (by kernel_rfl) (by kernel_rfl) (Idle.no rfl rfl rfl rfl) rfl rfl ?_
                refine AL.take (i := 21) rfl (by kernel_rfl) (by kernel_rfl) (by kernel_rfl) (Runs.free rfl) rfl rfl (ov_pick_false rfl (guard_eq rfl rfl) rfl) ?_
                refine AL.take (i := 22) rfl (by kernel_rfl) (by kernel_rfl) (by kernel_rfl) (Runs.free rfl) rfl rfl (ov_move rfl rfl) ?_
                refine AL.idle (i := 23) rfl (by kernel_rfl) (by kernel_rfl) (by kernel_rfl) (Idle.no rfl rfl rfl rfl) rfl rfl ?_
                refine AL.idle (i := 24) rfl (by kernel_rfl) (by kernel_rfl) (by kernel_rfl) (Idle.no rfl rfl rfl rfl) rfl rfl ?_
                refine AL.idle (i := 25) rfl (by kernel_rfl) (by kernel_rfl) (by kernel_rfl) (Idle.no rfl rfl rfl rfl) rfl rfl ?_
                refine AL.take (i := 26) rfl (by kernel_rfl) (by kernel_rfl) (by kernel_rfl) (Runs.free rfl) rfl rfl (ov_pick_false rfl (guard_eq rfl rfl) rfl) ?_
                refine AL.take (i := 27) rfl (by kernel_rfl) (by kernel_rfl) (by kernel_rfl) (Runs.free rfl) rfl rfl (ov_assign rfl rfl) ?_
                refine AL.done (by kernel_rfl) ?_
                refine then_normal ?_
                refine WP.ret ?_
                obtain rfl := Option.some.inj hm
                refine retQ_ret Tryd.results5 (Res.tmp rfl Res.nil) rfl (fun w' s => ⟨s.below, ?_⟩)
                exact rfl
            · replace hm := ite_f hc10 hm
              refine AL.idle (i := 8) rfl (by kernel_rfl) (by kernel_rfl) (by kernel_rfl) (Idle.no rfl rfl rfl hc10) rfl rfl ?_
              refine AL.idle (i := 9) rfl (by kernel_rfl) (by kernel_rfl) (by kernel_rfl) (Idle.no rfl rfl rfl hc10) rfl rfl ?_
              refine AL.idle (i := 10) rfl (by kernel_rfl) (by kernel_rfl) (by kernel_rfl) (Idle.no rfl rfl rfl hc10) rfl rfl ?_
              refine AL.take (i := 11) rfl (by kernel_rfl) (by kernel_rfl) (by kernel_rfl) (Runs.free rfl) rfl rfl (ov_pick_false rfl (guard_eq rfl hc10) rfl) ?_
              refine AL.take (i := 12) rfl (by kernel_rfl) (by kernel_rfl) (by kernel_rfl) (Runs.free rfl) rfl rfl (ov_move rfl rfl) ?_
              refine AL.idle (i := 13) rfl (by kernel_rfl) (by kernel_rfl) (by kernel_rfl) (Idle.no rfl rfl rfl rfl) rfl rfl ?_
              refine AL.idle (i := 14) rfl (by kernel_rfl) (by kernel_rfl) (by kernel_rfl) (Idle.no rfl rfl rfl rfl) rfl rfl ?_
              refine AL.idle (i := 15) rfl (by kernel_rfl) (by kernel_rfl) (by kernel_rfl) (Idle.no rfl rfl rfl rfl) rfl rfl ?_
              refine AL.take (i := 16) rfl (by kernel_rfl) (by kernel_rfl) (by kernel_rfl) (Runs.free rfl) rfl rfl (ov_pick_false rfl (guard_eq rfl rfl) rfl) ?_
              refine AL.take (i := 17) rfl (by kernel_rfl) (by kernel_rfl) (by kernel_rfl) (Runs.free rfl) rfl rfl (ov_move rfl rfl) ?_
              refine AL.idle (i := 18) rfl (by kernel_rfl) (by kernel_rfl) (by kernel_rfl) (Idle.no rfl rfl rfl rfl) rfl rfl ?_
              refine AL.idle (i := 19) rfl (by kernel_rfl) (by kernel_rfl) (by kernel_rfl) (Idle.no rfl rfl rfl rfl) rfl rfl ?_
              refine AL.idle (i := 20) rfl (by kernel_rfl) (by kernel_rfl) (by kernel_rfl) (Idle.no rfl rfl rfl rfl) rfl rfl ?_
              refine AL.take (i := 21) rfl (by kernel_rfl) (by kernel_rfl) (by kernel_rfl) (Runs.free rfl) rfl rfl (ov_pick_false rfl (guard_eq rfl rfl) rfl) ?_
              refine AL.take (i := 22) rfl (by kernel_rfl) (by kernel_rfl) (by kernel_rfl) (Runs.free rfl) rfl rfl (ov_move rfl rfl) ?_
              refine AL.idle (i := 23) rfl (by kernel_rfl) (by kernel_rfl) (by kernel_rfl) (Idle.no rfl rfl rfl rfl) rfl rfl ?_
              refine AL.idle (i := 24) rfl (by kernel_rfl) (by kernel_rfl) (by kernel_rfl) (Idle.no rfl rfl rfl rfl) rfl rfl ?_
              refine AL.idle (i := 25) rfl (by kernel_rfl) (by kernel_rfl) (by kernel_rfl) (Idle.no rfl rfl rfl rfl) rfl rfl ?_
              refine AL.take (i := 26) rfl (by kernel_rfl) (by kernel_rfl) (by kernel_rfl) (Runs.free rfl) rfl rfl (ov_pick_false rfl (guard_eq rfl rfl) rfl) ?_
              refine AL.take (i := 27) rfl (by kernel_rfl) (by kernel_rfl) (by kernel_rfl) (Runs.free rfl) rfl rfl (ov_assign rfl rfl) ?_
              refine AL.done (by kernel_rfl) ?_
              refine then_normal ?_
              refine WP.ret ?_
              obtain rfl := Option.some.inj hm
              refine retQ_ret Tryd.results5 (Res.tmp rfl Res.nil) rfl (fun w' s => ⟨s.below, ?_⟩)
              exact rfl
          exact ALs.nil
        exact ALs.nil
      · replace hm := ite_f hc8 hm
        refine AL.idle (i := 2) rfl (by kernel_rfl) (by kernel_rfl) (by kernel_rfl) (Idle.no rfl rfl rfl hc8) rfl rfl ?_
        refine AL.idle (i := 3) rfl (by kernel_rfl) (by kernel_rfl) (by kernel_rfl) (Idle.no rfl rfl rfl hc8) rfl rfl ?_
        refine AL.idle (i := 4) rfl (by kernel_rfl) (by kernel_rfl) (by kernel_rfl) (Idle.no rfl rfl rfl hc8) rfl rfl ?_
        refine AL.idle (i := 5) rfl (by kernel_rfl) (by kernel_rfl) (by kernel_rfl) (Idle.no rfl rfl rfl hc8) rfl rfl ?_
        refine AL.take (i := 6) rfl (by kernel_rfl) (by kernel_rfl) (by kernel_rfl) (Runs.free rfl) rfl rfl (ov_pick_false rfl (guard_eq rfl hc8) rfl) ?_
        refine AL.take (i := 7) rfl (by kernel_rfl) (by kernel_rfl) (by kernel_rfl) (Runs.free rfl) rfl rfl (ov_move rfl rfl) ?_
        refine AL.idle (i := 8) rfl (by kernel_rfl) (by kernel_rfl) (by kernel_rfl) (Idle.no rfl rfl rfl rfl) rfl rfl ?_
        refine AL.idle (i := 9) rfl (by kernel_rfl) (by kernel_rfl) (by kernel_rfl) (Idle.no rfl rfl rfl rfl) rfl rfl ?_
        refine AL.idle (i := 10) rfl (by kernel_rfl) (by kernel_rfl) (by kernel_rfl) (Idle.no rfl rfl rfl rfl) rfl rfl ?_
        refine AL.take (i := 11) rfl (by kernel_rfl) (by kernel_rfl) (by kernel_rfl) (Runs.free rfl) rfl rfl (ov_pick_false rfl (guard_eq rfl rfl) rfl) ?_
        refine AL.take (i := 12) rfl (by kernel_rfl) (by kernel_rfl) (by kernel_rfl) (Runs.free rfl) rfl rfl (ov_move rfl rfl) ?_
        refine AL.idle (i := 13) rfl (by kernel_rfl) (by kernel_rfl) (by kernel_rfl) (Idle.no rfl rfl rfl rfl) rfl rfl ?_
        refine AL.idle (i := 14) rfl (by kernel_rfl) (by kernel_rfl) (by kernel_rfl) (Idle.no rfl rfl rfl rfl) rfl rfl ?_
        refine AL.idle (i := 15) rfl (by kernel_rfl) (by kernel_rfl) (by kernel_rfl) (Idle.no rfl rfl rfl rfl) rfl rfl ?_
        refine AL.take (i := 16) rfl (by kernel_rfl) (by kernel_rfl) (by kernel_rfl) (Runs.free rfl) rfl rfl (ov_pick_false rfl (guard_eq rfl rfl) rfl) ?_
        refine AL.take (i := 17) rfl (by kernel_rfl) (by kernel_rfl) (by kernel_rfl) (Runs.free rfl) rfl rfl (ov_move rfl rfl) ?_
        refine AL.idle (i := 18) rfl (by kernel_rfl) (by kernel_rfl) (by kernel_rfl) (Idle.no rfl rfl rfl rfl) rfl rfl ?_
        refine AL.idle (i := 19) rfl (by kernel_rfl) (by kernel_rfl) (by kernel_rfl) (Idle.no rfl rfl rfl rfl) rfl rfl ?_
        refine AL.idle (i := 20) rfl (by kernel_rfl) (by kernel_rfl) (by kernel_rfl) (Idle.no rfl rfl rfl rfl) rfl rfl ?_
        refine AL.take (i := 21) rfl (by kernel_rfl) (by kernel_rfl) (by kernel_rfl) (Runs.free rfl) rfl rfl (ov_pick_false rfl (guard_eq rfl rfl) rfl) ?_
        refine AL.take (i := 22) rfl (by kernel_rfl) (by kernel_rfl) (by kernel_rfl) (Runs.free rfl) rfl rfl (ov_move rfl rfl) ?_
        refine AL.idle (i := 23) rfl (by kernel_rfl) (by kernel_rfl) (by kernel_rfl) (Idle.no rfl rfl rfl rfl) rfl rfl ?_
        refine AL.idle (i := 24) rfl (by kernel_rfl) (by kernel_rfl) (by kernel_rfl) (Idle.no rfl rfl rfl rfl) rfl rfl ?_
        refine AL.idle (i := 25) rfl (by kernel_rfl) (by kernel_rfl) (by kernel_rfl) (Idle.no rfl rfl rfl rfl) rfl rfl ?_
        refine AL.take (i := 26) rfl (by kernel_rfl) (by kernel_rfl) (by kernel_rfl) (Runs.free rfl) rfl rfl (ov_pick_false rfl (guard_eq rfl rfl) rfl) ?_
        refine AL.take (i := 27) rfl (by kernel_rfl) (by kernel_rfl) (by kernel_rfl) (Runs.free rfl) rfl rfl (ov_assign rfl rfl) ?_
        refine AL.done (by kernel_rfl) ?_
        refine then_normal ?_
        refine WP.ret ?_
        obtain rfl := Option.some.inj hm
        refine retQ_ret Tryd.results5 (Res.tmp rfl Res.nil) rfl (fun w' s => ⟨s.below, ?_⟩)
        exact rfl
    exact ALs.nil

theorem law58_right_con (p_l : (List Entry)) (ao1 : Option Addr) (cap1 : Nat) (w : World) (H : Heap) (hH : Le H (hp w)) (h1 : SL H encEntry ao1 p_l) (hc1 : p_l.length ≤ cap1) (hG : Glob H) (r : Bool) (hm : law58_right p_l = some r) :
    Con Tryd.prog 29 [(.slice ao1 p_l.length cap1)] w H (fun v _ => v = (.bool r)) := by
  unfold law58_right at hm
  refine con_of hH Tryd.func29 rfl 24 Tryd.ntmps29 rfl ?_
  refine WP.seq ?_
  refine WP.region ?_
  refine WL.quiet (Runs.free rfl) rfl rfl (OV.quiet (ov_assign rfl rfl)) ?_
  refine WL.nil ?_
  refine then_normal ?_
  refine WP.seq ?_
  refine WP.seq ?_
  refine WP.region ?_
  refine WL.quiet (Runs.free rfl) rfl rfl (OV.quiet (ov_move rfl rfl)) ?_
  refine WL.quiet (Runs.free rfl) rfl rfl (OV.quiet (ov_len_slice Tryd.underlying56 rfl rfl)) ?_
  refine WL.quiet (Runs.free rfl) rfl rfl (OV.quiet (ov_gtr rfl rfl rfl)) ?_
  refine WL.quiet (Runs.free rfl) rfl rfl (OV.quiet (ov_move rfl rfl)) ?_
  obtain ⟨c1, e1, hm⟩ := bind_some hm
  refine WL.cut_bool 5 14 (x := c1) ?_ ?_
  · rcases Bool.eq_false_or_eq_true (decide ((p_l.length : Int) > 20)) with hc2 | hc2
    · skip
      replace hm := ite_t hc2 e1
      refine WL.idle (Idle.no rfl rfl rfl hc2) rfl rfl ?_
      refine WL.idle (Idle.no rfl rfl rfl hc2) rfl rfl ?_
      refine WL.idle (Idle.no rfl rfl rfl hc2) rfl rfl ?_
      refine WL.idle (Idle.no rfl rfl rfl hc2) rfl rfl ?_
      refine WL.quiet (Runs.free rfl) rfl rfl (OV.quiet (ov_pick_true rfl (guard_eq rfl hc2) rfl)) ?_
      exact WL.nil ⟨Sub.cons' rfl (congrArg Value.bool (Option.some.inj hm)) (Sub.skip rfl (Sub.skip rfl (Sub.skip rfl (Sub.skip rfl (Sub.skip rfl (Sub.refl _)))))), fun _ s => s⟩
    · skip
      replace hm := ite_f hc2 e1
      refine WL.quiet (Runs.yes rfl rfl rfl hc2) rfl rfl (OV.quiet (ov_move rfl rfl)) ?_
      obtain ⟨r1, e2, hm⟩ := bind_some hm
      refine WL.step (Runs.yes rfl rfl rfl hc2) rfl rfl (os_con Tryd.call24 rfl rfl (fun w' s => (law58_entries_con p_l ao1 cap1  w' H s.hold h1 hc1 hG r1 e2)) (fun rr1 H1 hle1 hR1 => ?_))
      replace h1 := h1.mono hle1
      replace hG := hG.mono hle1
      obtain ⟨ao2, cap2, rfl, h2, hc3⟩ := hR1
      obtain ⟨r2, e3, hm⟩ := bind_some hm
      refine WL.quiet (Runs.yes rfl rfl rfl hc2) rfl rfl (oq_con (r := (.bool r2)) Tryd.call23 rfl rfl (fun w' s => ⟨_, (ref58_FewEntries_con r1 ao2 cap2  w' H1 s.hold h2 hc3 hG r2 e3)⟩)) ?_
      refine WL.quiet (Runs.yes rfl rfl rfl hc2) rfl rfl (OV.quiet (ov_not rfl rfl)) ?_
      refine WL.quiet (Runs.free rfl) rfl rfl (OV.quiet (ov_pick_false rfl (guard_eq rfl hc2) rfl)) ?_
      exact WL.nil ⟨Sub.cons' rfl (congrArg Value.bool (Option.some.inj hm)) (Sub.skip rfl (Sub.skip rfl (Sub.skip rfl (Sub.skip rfl (Sub.skip rfl (Sub.refl _)))))), fun _ s => (s.heap hle1)⟩
  refine WL.nil ?_
  refine then_normal ?_
  refine WP.cond rfl (fun hc4 => ?_) (fun hc4 => ?_)
  · replace hm := ite_t hc4 hm
    refine WP.seq ?_
    refine WP.region ?_
    refine WL.quiet (Runs.free rfl) rfl rfl (OV.quiet (ov_assign rfl rfl)) ?_
    refine WL.nil ?_
    refine then_normal ?_
    refine WP.ret ?_
    refine then_ret ?_
    obtain rfl := Option.some.inj hm
    refine retQ_ret Tryd.results29 (Res.tmp rfl Res.nil) rfl (fun w' s => ⟨s.below, ?_⟩)
    exact rfl
  · replace hm := ite_f hc4 hm
    refine WP.skip ?_
    refine then_normal ?_
    refine WP.seq ?_
    refine WP.region ?_
    refine WL.quiet (Runs.free rfl) rfl rfl (OV.quiet (ov_move rfl rfl)) ?_
    obtain ⟨r3, e4, hm⟩ := bind_some hm
    refine WL.step (Runs.free rfl) rfl rfl (os_con Tryd.call24 rfl rfl (fun w' s => (law58_entries_con p_l ao1 cap1  w' H s.hold h1 hc1 hG r3 e4)) (fun rr2 H2 hle2 hR2 => ?_))
    replace h1 := h1.mono hle2
    replace hG := hG.mono hle2
    obtain ⟨ao3, cap3, rfl, h3, hc5⟩ := hR2
    obtain ⟨r4, e5, hm⟩ := bind_some hm
    refine WL.step (Runs.free rfl) rfl rfl (os_con Tryd.call26 rfl rfl (fun w' s => (ref58_Run_con r3 ao3 cap3  w' H2 s.hold h3 hc5 hG r4 e5)) (fun rr3 H3 hle3 hR3 => ?_))
    replace h1 := h1.mono hle3
    replace h3 := h3.mono hle3
    replace hG := hG.mono hle3
    obtain ⟨ao4, cap4, rfl, h4, hc6⟩ := hR3
    refine WL.quiet (Runs.free rfl) rfl rfl (OV.quiet (ov_move rfl rfl)) ?_
    refine WL.quiet (Runs.free rfl) rfl rfl (OV.quiet (ov_extract rfl rfl rfl)) ?_
    refine WL.quiet (Runs.free rfl) rfl rfl (OV.quiet (ov_extract rfl rfl rfl)) ?_
    refine WL.quiet (Runs.free rfl) rfl rfl (OV.quiet (ov_extract rfl rfl rfl)) ?_
    refine WL.step (Runs.free rfl) rfl rfl (os_alloc (cs := [(.slice none 0 0), (.int .i64 0)]) Tryd.zeroValue34 rfl rfl (fun b1 => ?_))
    refine WL.step0 (Runs.free rfl) rfl (os_store (i := 0) (vs := [(.slice ao4 r4.1.items.length cap4), (.int .i64 r4.1.cycles)]) (cs' := [(.slice ao4 r4.1.items.length cap4), (.int .i64 r4.1.cycles)]) Tryd.sizeOf34 rfl rfl rfl rfl rfl rfl rfl rfl rfl ?_)
    refine WL.quiet (Runs.free rfl) rfl rfl (OV.quiet (ov_assign rfl rfl)) ?_
    refine WL.quiet (Runs.free rfl) rfl rfl (OV.quiet (ov_assign rfl rfl)) ?_
    refine WL.nil ?_
    refine then_normal ?_
    refine WP.seq ?_
    refine WP.region ?_
    refine WL.quiet (Runs.free rfl) rfl rfl (OV.quiet (ov_move rfl rfl)) ?_
    refine WL.quiet (Runs.free rfl) rfl rfl (OV.quiet (ov_eql rfl rfl rfl)) ?_
    refine WL.quiet (Runs.free rfl) rfl rfl (OV.quiet (ov_assign rfl rfl)) ?_
    refine WL.nil ?_
    refine then_normal ?_
    refine WP.ret ?_
    obtain rfl := Option.some.inj hm
    refine retQ_ret Tryd.results29 (Res.tmp rfl Res.nil) rfl (fun w' s => ⟨s.below, ?_⟩)
    exact rfl

theorem law58_JournalSwaps_con (p_l : (List Entry)) (p_x : Entry) (p_y : Entry) (ao1 : Option Addr) (cap1 : Nat) (w : World) (H : Heap) (hH : Le H (hp w)) (h1 : SL H encEntry ao1 p_l) (hc1 : p_l.length ≤ cap1) (hG : Glob H) (r : Bool) (hm : law58_JournalSwaps p_l p_x p_y = some r) :
    Con Tryd.prog 6 [(.slice ao1 p_l.length cap1), (.agg #[(.int .i64 p_x.kind), (mkS p_x.name), (.int .i64 p_x.count), (.int .i64 p_x.strokes)]), (.agg #[(.int .i64 p_y.kind), (mkS p_y.name), (.int .i64 p_y.count), (.int .i64 p_y.strokes)])] w H (fun v _ => v = (.bool r)) := by
  unfold law58_JournalSwaps at hm
  refine con_of hH Tryd.func6 rfl 118 Tryd.ntmps6 rfl ?_
  refine WP.seq ?_
  refine WP.region ?_
  refine WL.step (Runs.free rfl) rfl rfl (os_box (cs := [(.int .i64 p_x.kind), (mkS p_x.name), (.int .i64 p_x.count), (.int .i64 p_x.strokes)]) rfl rfl rfl (fun b1 => ?_))
  refine WL.step (Runs.free rfl) rfl rfl (os_box (cs := [(.int .i64 p_y.kind), (mkS p_y.name), (.int .i64 p_y.count), (.int .i64 p_y.strokes)]) rfl rfl rfl (fun b2 => ?_))
  refine WL.quiet (Runs.free rfl) rfl rfl (OV.quiet (ov_assign rfl rfl)) ?_
  refine WL.nil ?_
  refine then_normal ?_
  refine WP.seq ?_
  refine WP.seq ?_
  refine WP.region ?_
  refine WL.quiet (Runs.free rfl) rfl rfl (OV.quiet (ov_move rfl rfl)) ?_
  obtain ⟨r1, e1, hm⟩ := bind_some hm
  refine WL.quiet (Runs.free rfl) rfl rfl (oq_con (r := (.bool r1)) Tryd.call29 rfl rfl (fun w' s => ⟨_, (law58_right_con p_l ao1 cap1  w' H s.hold h1 hc1 hG r1 e1)⟩)) ?_
  refine WL.quiet (Runs.free rfl) rfl rfl (OV.quiet (ov_not rfl rfl)) ?_
  refine WL.quiet (Runs.free rfl) rfl rfl (OV.quiet (ov_move rfl rfl)) ?_
  refine WL.cut_bool 5 23 (x := ((!r1) || (decide ((p_x.name.length : Int) > 60)))) ?_ ?_
  · rcases Bool.eq_false_or_eq_true (!r1) with hc2 | hc2
    · skip
      refine WL.idle (Idle.no rfl rfl rfl hc2) rfl rfl ?_
      refine WL.idle (Idle.no rfl rfl rfl hc2) rfl rfl ?_
      refine WL.idle (Idle.no rfl rfl rfl hc2) rfl rfl ?_
      refine WL.idle (Idle.no rfl rfl rfl hc2) rfl rfl ?_
      refine WL.quiet (Runs.free rfl) rfl rfl (OV.quiet (ov_pick_true rfl (guard_eq rfl hc2) rfl)) ?_
      exact WL.nil ⟨Sub.cons' rfl (congrArg Value.bool (by rw [hc2]; rfl)) (Sub.skip rfl (Sub.skip rfl (Sub.skip rfl (Sub.skip rfl (Sub.skip rfl (Sub.refl _)))))), fun _ s => s⟩
    · skip
      refine WL.quiet (Runs.yes rfl rfl rfl hc2) rfl rfl (OV.quiet (ov_fieldAddr Tryd.underlying26 rfl rfl rfl Tryd.sizeOf9 rfl rfl)) ?_
      refine WL.quiet (Runs.yes rfl rfl rfl hc2) rfl rfl (OV.quiet (ov_load_box (i := 1) Tryd.isAgg9 rfl rfl rfl rfl)) ?_
      refine WL.quiet (Runs.yes rfl rfl rfl hc2) rfl rfl (OV.quiet (ov_len_string Tryd.underlying9 rfl rfl)) ?_
      refine WL.quiet (Runs.yes rfl rfl rfl hc2) rfl rfl (OV.quiet (ov_gtr rfl rfl rfl)) ?_
      refine WL.quiet (Runs.free rfl) rfl rfl (OV.quiet (ov_pick_false rfl (guard_eq rfl hc2) rfl)) ?_
      exact WL.nil ⟨Sub.cons' rfl (congrArg Value.bool (by rw [hc2]; rfl)) (Sub.skip rfl (Sub.skip rfl (Sub.skip rfl (Sub.skip rfl (Sub.skip rfl (Sub.refl _)))))), fun _ s => s⟩
  refine WL.quiet (Runs.free rfl) rfl rfl (OV.quiet (ov_move rfl rfl)) ?_
  refine WL.cut_bool 5 29 (x := (((!r1) || (decide ((p_x.name.length : Int) > 60))) || (decide ((p_y.name.length : Int) > 60)))) ?_ ?_
  · rcases Bool.eq_false_or_eq_true ((!r1) || (decide ((p_x.name.length : Int) > 60))) with hc3 | hc3
    · skip
      refine WL.idle (Idle.no rfl rfl rfl hc3) rfl rfl ?_
      refine WL.idle (Idle.no rfl rfl rfl hc3) rfl rfl ?_
      refine WL.idle (Idle.no rfl rfl rfl hc3) rfl rfl ?_
      refine WL.idle (Idle.no rfl rfl rfl hc3) rfl rfl ?_
      refine WL.quiet (Runs.free rfl) rfl rfl (OV.quiet (ov_pick_true rfl (guard_eq rfl hc3) rfl)) ?_
      exact WL.nil ⟨Sub.cons' rfl (congrArg Value.bool (by rw [hc3]; rfl)) (Sub.skip rfl (Sub.skip rfl (Sub.skip rfl (Sub.skip rfl (Sub.skip rfl (Sub.refl _)))))), fun _ s => s⟩
    · skip
      refine WL.quiet (Runs.yes rfl rfl rfl hc3) rfl rfl (OV.quiet (ov_fieldAddr Tryd.underlying26 rfl rfl rfl Tryd.sizeOf9 rfl rfl)) ?_
      refine WL.quiet (Runs.yes rfl rfl rfl hc3) rfl rfl (OV.quiet (ov_load_box (i := 0) Tryd.isAgg9 rfl rfl rfl rfl)) ?_
      refine WL.quiet (Runs.yes rfl rfl rfl hc3) rfl rfl (OV.quiet (ov_len_string Tryd.underlying9 rfl rfl)) ?_
      refine WL.quiet (Runs.yes rfl rfl rfl hc3) rfl rfl (OV.quiet (ov_gtr rfl rfl rfl)) ?_
      refine WL.quiet (Runs.free rfl) rfl rfl (OV.quiet (ov_pick_false rfl (guard_eq rfl hc3) rfl)) ?_
      exact WL.nil ⟨Sub.cons' rfl (congrArg Value.bool (by rw [hc3]; rfl)) (Sub.skip rfl (Sub.skip rfl (Sub.skip rfl (Sub.skip rfl (Sub.skip rfl (Sub.refl _)))))), fun _ s => s⟩
  refine WL.quiet (Runs.free rfl) rfl rfl (OV.quiet (ov_move rfl rfl)) ?_
  refine WL.cut_bool 6 36 (x := ((((!r1) || (decide ((p_x.name.length : Int) > 60))) || (decide ((p_y.name.length : Int) > 60))) || (p_x.name == p_y.name))) ?_ ?_
  · rcases Bool.eq_false_or_eq_true (((!r1) || (decide ((p_x.name.length : Int) > 60))) || (decide ((p_y.name.length : Int) > 60))) with hc4 | hc4
    · skip
      refine WL.idle (Idle.no rfl rfl rfl hc4) rfl rfl ?_
      refine WL.idle (Idle.no rfl rfl rfl hc4) rfl rfl ?_
      refine WL.idle (Idle.no rfl rfl rfl hc4) rfl rfl ?_
      refine WL.idle (Idle.no rfl rfl rfl hc4) rfl rfl ?_
      refine WL.idle (Idle.no rfl rfl rfl hc4) rfl rfl ?_
      refine WL.quiet (Runs.free rfl) rfl rfl (OV.quiet (ov_pick_true rfl (guard_eq rfl hc4) rfl)) ?_
      exact WL.nil ⟨Sub.cons' rfl (congrArg Value.bool (by rw [hc4]; rfl)) (Sub.skip rfl (Sub.skip rfl (Sub.skip rfl (Sub.skip rfl (Sub.skip rfl (Sub.skip rfl (Sub.refl _))))))), fun _ s => s⟩
    · skip
      refine WL.quiet (Runs.yes rfl rfl rfl hc4) rfl rfl (OV.quiet (ov_fieldAddr Tryd.underlying26 rfl rfl rfl Tryd.sizeOf9 rfl rfl)) ?_
      refine WL.quiet (Runs.yes rfl rfl rfl hc4) rfl rfl (OV.quiet (ov_load_box (i := 1) Tryd.isAgg9 rfl rfl rfl rfl)) ?_
      refine WL.quiet (Runs.yes rfl rfl rfl hc4) rfl rfl (OV.quiet (ov_fieldAddr Tryd.underlying26 rfl rfl rfl Tryd.sizeOf9 rfl rfl)) ?_
      refine WL.quiet (Runs.yes rfl rfl rfl hc4) rfl rfl (OV.quiet (ov_load_box (i := 0) Tryd.isAgg9 rfl rfl rfl rfl)) ?_
      refine WL.quiet (Runs.yes rfl rfl rfl hc4) rfl rfl (OV.quiet (ov_seql rfl rfl rfl)) ?_
      refine WL.quiet (Runs.free rfl) rfl rfl (OV.quiet (ov_pick_false rfl (guard_eq rfl hc4) rfl)) ?_
      exact WL.nil ⟨Sub.cons' rfl (congrArg Value.bool (by rw [hc4]; rfl)) (Sub.skip rfl (Sub.skip rfl (Sub.skip rfl (Sub.skip rfl (Sub.skip rfl (Sub.skip rfl (Sub.refl _))))))), fun _ s => s⟩
  refine WL.quiet (Runs.free rfl) rfl rfl (OV.quiet (ov_move rfl rfl)) ?_
  refine WL.cut_bool 14 51 (x := (((((!r1) || (decide ((p_x.name.length : Int) > 60))) || (decide ((p_y.name.length : Int) > 60))) || (p_x.name == p_y.name)) || (((p_y.kind != 2) && (p_y.kind != 3)) && (p_y.kind != 5)))) ?_ ?_
  · rcases Bool.eq_false_or_eq_true ((((!r1) || (decide ((p_x.name.length : Int) > 60))) || (decide ((p_y.name.length : Int) > 60))) || (p_x.name == p_y.name)) with hc5 | hc5
    · skip
      refine WL.idle (Idle.no rfl rfl rfl hc5) rfl rfl ?_
      refine WL.idle (Idle.no rfl rfl rfl hc5) rfl rfl ?_
      refine WL.idle (Idle.no rfl rfl rfl hc5) rfl rfl ?_
      refine WL.idle (Idle.no rfl rfl rfl hc5) rfl rfl ?_
      refine WL.idle (Idle.undef rfl rfl rfl) rfl rfl ?_
      refine WL.idle (Idle.undef rfl rfl rfl) rfl rfl ?_
      refine WL.idle (Idle.undef rfl rfl rfl) rfl rfl ?_
      refine WL.idle (Idle.no rfl rfl rfl hc5) rfl rfl ?_
      refine WL.idle (Idle.no rfl rfl rfl hc5) rfl rfl ?_
      refine WL.idle (Idle.undef rfl rfl rfl) rfl rfl ?_
      refine WL.idle (Idle.undef rfl rfl rfl) rfl rfl ?_
      refine WL.idle (Idle.undef rfl rfl rfl) rfl rfl ?_
      refine WL.idle (Idle.no rfl rfl rfl hc5) rfl rfl ?_
      refine WL.quiet (Runs.free rfl) rfl rfl (OV.quiet (ov_pick_true rfl (guard_eq rfl hc5) rfl)) ?_
      exact WL.nil ⟨Sub.cons' rfl (congrArg Value.bool (by rw [hc5]; rfl)) (Sub.skip rfl (Sub.skip rfl (Sub.skip rfl (Sub.skip rfl (Sub.skip rfl (Sub.skip rfl (Sub.skip rfl (Sub.skip rfl (Sub.skip rfl (Sub.skip rfl (Sub.skip rfl (Sub.skip rfl (Sub.skip rfl (Sub.skip rfl (Sub.refl _))))))))))))))), fun _ s => s⟩
    · skip
      refine WL.quiet (Runs.yes rfl rfl rfl hc5) rfl rfl (OV.quiet (ov_fieldAddr Tryd.underlying26 rfl rfl rfl Tryd.sizeOf3 rfl rfl)) ?_
      refine WL.quiet (Runs.yes rfl rfl rfl hc5) rfl rfl (OV.quiet (ov_load_box (i := 0) Tryd.isAgg3 rfl rfl rfl rfl)) ?_
      refine WL.quiet (Runs.yes rfl rfl rfl hc5) rfl rfl (OV.quiet (ov_neq rfl rfl rfl)) ?_
      refine WL.quiet (Runs.yes rfl rfl rfl hc5) rfl rfl (OV.quiet (ov_move rfl rfl)) ?_
      refine WL.cut_bool 4 45 (x := ((p_y.kind != 2) && (p_y.kind != 3))) ?_ ?_
      · rcases Bool.eq_false_or_eq_true (p_y.kind != 2) with hc6 | hc6
        · skip
          refine WL.quiet (Runs.yes rfl rfl rfl hc6) rfl rfl (OV.quiet (ov_fieldAddr Tryd.underlying26 rfl rfl rfl Tryd.sizeOf3 rfl rfl)) ?_
          refine WL.quiet (Runs.yes rfl rfl rfl hc6) rfl rfl (OV.quiet (ov_load_box (i := 0) Tryd.isAgg3 rfl rfl rfl rfl)) ?_
          refine WL.quiet (Runs.yes rfl rfl rfl hc6) rfl rfl (OV.quiet (ov_neq rfl rfl rfl)) ?_
          refine WL.quiet (Runs.yes rfl rfl rfl hc5) rfl rfl (OV.quiet (ov_pick_true rfl (guard_eq rfl hc6) rfl)) ?_
          exact WL.nil ⟨Sub.cons' rfl (congrArg Value.bool (by rw [hc6]; rfl)) (Sub.skip rfl (Sub.skip rfl (Sub.skip rfl (Sub.skip rfl (Sub.refl _))))), fun _ s => s⟩
        · skip
          refine WL.idle (Idle.no rfl rfl rfl hc6) rfl rfl ?_
          refine WL.idle (Idle.no rfl rfl rfl hc6) rfl rfl ?_
          refine WL.idle (Idle.no rfl rfl rfl hc6) rfl rfl ?_
          refine WL.quiet (Runs.yes rfl rfl rfl hc5) rfl rfl (OV.quiet (ov_pick_false rfl (guard_eq rfl hc6) rfl)) ?_
          exact WL.nil ⟨Sub.cons' rfl (congrArg Value.bool (by rw [hc6]; rfl)) (Sub.skip rfl (Sub.skip rfl (Sub.skip rfl (Sub.skip rfl (Sub.refl _))))), fun _ s => s⟩
      refine WL.quiet (Runs.yes rfl rfl rfl hc5) rfl rfl (OV.quiet (ov_move rfl rfl)) ?_
      refine WL.cut_bool 4 50 (x := (((p_y.kind != 2) && (p_y.kind != 3)) && (p_y.kind != 5))) ?_ ?_
      · rcases Bool.eq_false_or_eq_true ((p_y.kind != 2) && (p_y.kind != 3)) with hc7 | hc7
        · skip
          refine WL.quiet (Runs.yes rfl rfl rfl hc7) rfl rfl (OV.quiet (ov_fieldAddr Tryd.underlying26 rfl rfl rfl Tryd.sizeOf3 rfl rfl)) ?_
          refine WL.quiet (Runs.yes rfl rfl rfl hc7) rfl rfl (OV.quiet (ov_load_box (i := 0) Tryd.isAgg3 rfl rfl rfl rfl)) ?_
          refine WL.quiet (Runs.yes rfl rfl rfl hc7) rfl rfl (OV.quiet (ov_neq rfl rfl rfl)) ?_
          refine WL.quiet (Runs.yes rfl rfl rfl hc5) rfl rfl (OV.quiet (ov_pick_true rfl (guard_eq rfl hc7) rfl)) ?_
          exact WL.nil ⟨Sub.cons' rfl (congrArg Value.bool (by rw [hc7]; rfl)) (Sub.skip rfl (Sub.skip rfl (Sub.skip rfl (Sub.skip rfl (Sub.refl _))))), fun _ s => s⟩
        · skip
          refine WL.idle (Idle.no rfl rfl rfl hc7) rfl rfl ?_
          refine WL.idle (Idle.no rfl rfl rfl hc7) rfl rfl ?_
          refine WL.idle (Idle.no rfl rfl rfl hc7) rfl rfl ?_
          refine WL.quiet (Runs.yes rfl rfl rfl hc5) rfl rfl (OV.quiet (ov_pick_false rfl (guard_eq rfl hc7) rfl)) ?_
          exact WL.nil ⟨Sub.cons' rfl (congrArg Value.bool (by rw [hc7]; rfl)) (Sub.skip rfl (Sub.skip rfl (Sub.skip rfl (Sub.skip rfl (Sub.refl _))))), fun _ s => s⟩
      refine WL.quiet (Runs.free rfl) rfl rfl (OV.quiet (ov_pick_false rfl (guard_eq rfl hc5) rfl)) ?_
      exact WL.nil ⟨Sub.cons' rfl (congrArg Value.bool (by rw [hc5]; rfl)) (Sub.skip rfl (Sub.skip rfl (Sub.skip rfl (Sub.skip rfl (Sub.skip rfl (Sub.skip rfl (Sub.skip rfl (Sub.skip rfl (Sub.refl _))))))))), fun _ s => s⟩
  refine WL.nil ?_
  refine then_normal ?_
  refine WP.cond rfl (fun hc8 => ?_) (fun hc8 => ?_)
  · replace hm := ite_t hc8 hm
    refine WP.seq ?_
    refine WP.region ?_
    obtain ⟨r2, e2, hm⟩ := bind_some hm
    refine WL.quiet (Runs.free rfl) rfl rfl (oq_con (r := (.bool r2)) Tryd.call9 rfl rfl (fun w' s => ⟨_, (law58_awake_con   w' H s.hold hG r2 e2)⟩)) ?_
    refine WL.quiet (Runs.free rfl) rfl rfl (OV.quiet (ov_assign rfl rfl)) ?_
    refine WL.nil ?_
    refine then_normal ?_
    refine WP.ret ?_
    refine then_ret ?_
    obtain rfl := Option.some.inj hm
    refine retQ_ret Tryd.results6 (Res.tmp rfl Res.nil) rfl (fun w' s => ⟨s.below, ?_⟩)
    exact rfl
  · replace hm := ite_f hc8 hm
    refine WP.skip ?_
    refine then_normal ?_
    refine WP.seq ?_
    refine WP.region ?_
    refine WL.quiet (Runs.free rfl) rfl rfl (OV.quiet (ov_move rfl rfl)) ?_
    obtain ⟨r3, e3, hm⟩ := bind_some hm
    refine WL.step (Runs.free rfl) rfl rfl (os_con Tryd.call25 rfl rfl (fun w' s => (journal_Run_con p_l ao1 cap1  w' H s.hold h1 hc1 hG r3 e3)) (fun rr1 H1 hle1 hR1 => ?_))
    replace h1 := h1.mono hle1
    replace hG := hG.mono hle1
    obtain ⟨ao2, cap2, rfl, h2, hc9⟩ := hR1
    refine WL.quiet (Runs.free rfl) rfl rfl (OV.quiet (ov_move rfl rfl)) ?_
    refine WL.quiet (Runs.free rfl) rfl rfl (OV.quiet (ov_extract rfl rfl rfl)) ?_
    refine WL.quiet (Runs.free rfl) rfl rfl (OV.quiet (ov_extract rfl rfl rfl)) ?_
    refine WL.quiet (Runs.free rfl) rfl rfl (OV.quiet (ov_extract rfl rfl rfl)) ?_
    refine WL.step (Runs.free rfl) rfl rfl (os_alloc (cs := [(.slice none 0 0), (.int .i64 0)]) Tryd.zeroValue24 rfl rfl (fun b3 => ?_))
    refine WL.step0 (Runs.free rfl) rfl (os_store (i := 0) (vs := [(.slice ao2 r3.1.items.length cap2), (.int .i64 r3.1.cycles)]) (cs' := [(.slice ao2 r3.1.items.length cap2), (.int .i64 r3.1.cycles)]) Tryd.sizeOf24 rfl rfl rfl rfl rfl rfl rfl rfl rfl ?_)
    refine WL.quiet (Runs.free rfl) rfl rfl (OV.quiet (ov_assign rfl rfl)) ?_
    refine WL.quiet (Runs.free rfl) rfl rfl (OV.quiet (ov_assign rfl rfl)) ?_
    refine WL.nil ?_
    refine then_normal ?_
    refine WP.seq ?_
    refine WP.seq ?_
    refine WP.region ?_
    refine WL.quiet (Runs.free rfl) rfl rfl (OV.quiet (ov_move rfl rfl)) ?_
    refine WL.quiet (Runs.free rfl) rfl rfl (OV.quiet (ov_neq rfl rfl rfl)) ?_
    refine WL.quiet (Runs.free rfl) rfl rfl (OV.quiet (ov_move rfl rfl)) ?_
    refine WL.cut_bool 5 66 (x := ((r3.2.2 != 0) || (decide ((r3.1.items.length : Int) > 20)))) ?_ ?_
    · rcases Bool.eq_false_or_eq_true (r3.2.2 != 0) with hc10 | hc10
      · skip
        refine WL.idle (Idle.no rfl rfl rfl hc10) rfl rfl ?_
        refine WL.idle (Idle.no rfl rfl rfl hc10) rfl rfl ?_
        refine WL.idle (Idle.no rfl rfl rfl hc10) rfl rfl ?_
        refine WL.idle (Idle.no rfl rfl rfl hc10) rfl rfl ?_
        refine WL.quiet (Runs.free rfl) rfl rfl (OV.quiet (ov_pick_true rfl (guard_eq rfl hc10) rfl)) ?_
        exact WL.nil ⟨Sub.cons' rfl (congrArg Value.bool (by rw [hc10]; rfl)) (Sub.skip rfl (Sub.skip rfl (Sub.skip rfl (Sub.skip rfl (Sub.skip rfl (Sub.refl _)))))), fun _ s => s⟩
      · skip
        refine WL.quiet (Runs.yes rfl rfl rfl hc10) rfl rfl (OV.quiet (ov_fieldAddr Tryd.underlying24 rfl rfl rfl Tryd.sizeOf22 rfl rfl)) ?_
        refine WL.quiet (Runs.yes rfl rfl rfl hc10) rfl rfl (OV.quiet (ov_load_box (i := 0) Tryd.isAgg22 rfl rfl rfl rfl)) ?_
        refine WL.quiet (Runs.yes rfl rfl rfl hc10) rfl rfl (OV.quiet (ov_len_slice Tryd.underlying22 rfl rfl)) ?_
        refine WL.quiet (Runs.yes rfl rfl rfl hc10) rfl rfl (OV.quiet (ov_gtr rfl rfl rfl)) ?_
        refine WL.quiet (Runs.free rfl) rfl rfl (OV.quiet (ov_pick_false rfl (guard_eq rfl hc10) rfl)) ?_
        exact WL.nil ⟨Sub.cons' rfl (congrArg Value.bool (by rw [hc10]; rfl)) (Sub.skip rfl (Sub.skip rfl (Sub.skip rfl (Sub.skip rfl (Sub.skip rfl (Sub.refl _)))))), fun _ s => s⟩
    refine WL.nil ?_
    refine then_normal ?_
    refine WP.cond rfl (fun hc11 => ?_) (fun hc11 => ?_)
    · replace hm := ite_t hc11 hm
      refine WP.seq ?_
      refine WP.region ?_
      refine WL.quiet (Runs.free rfl) rfl rfl (OV.quiet (ov_assign rfl rfl)) ?_
      refine WL.nil ?_
      refine then_normal ?_
      refine WP.ret ?_
      refine then_ret ?_
      obtain rfl := Option.some.inj hm
      refine retQ_ret Tryd.results6 (Res.tmp rfl Res.nil) rfl (fun w' s => ⟨s.below, ?_⟩)
      exact rfl
    · replace hm := ite_f hc11 hm
      refine WP.skip ?_
      refine then_normal ?_
      refine WP.seq ?_
      refine WP.region ?_
      refine WL.quiet (Runs.free rfl) rfl rfl (OV.quiet (ov_load_whole (i := 0) Tryd.isAgg24 Tryd.sizeOf24 rfl rfl rfl rfl)) ?_
      refine WL.quiet (Runs.free rfl) rfl rfl (OV.quiet (ov_load_whole (i := 2) Tryd.isAgg26 Tryd.sizeOf26 rfl rfl rfl rfl)) ?_
      obtain ⟨r4, e4, hm⟩ := bind_some hm
      refine WL.step (Runs.free rfl) rfl rfl (os_con Tryd.call10 rfl rfl (fun w' s => (journal_Do_con r3.1 p_x ao2 cap2  w' H1 s.hold h2 hc9 hG r4 e4)) (fun rr2 H2 hle2 hR2 => ?_))
      replace h1 := h1.mono hle2
      replace h2 := h2.mono hle2
      replace hG := hG.mono hle2
      obtain ⟨ao3, cap3, rfl, h3, hc12⟩ := hR2
      refine WL.quiet (Runs.free rfl) rfl rfl (OV.quiet (ov_move rfl rfl)) ?_
      refine WL.quiet (Runs.free rfl) rfl rfl (OV.quiet (ov_extract rfl rfl rfl)) ?_
      refine WL.quiet (Runs.free rfl) rfl rfl (OV.quiet (ov_extract rfl rfl rfl)) ?_
      refine WL.step (Runs.free rfl) rfl rfl (os_alloc (cs := [(.slice none 0 0), (.int .i64 0)]) Tryd.zeroValue24 rfl rfl (fun b4 => ?_))
      refine WL.step0 (Runs.free rfl) rfl (os_store (i := 0) (vs := [(.slice ao3 r4.1.items.length cap3), (.int .i64 r4.1.cycles)]) (cs' := [(.slice ao3 r4.1.items.length cap3), (.int .i64 r4.1.cycles)]) Tryd.sizeOf24 rfl rfl rfl rfl rfl rfl rfl rfl rfl ?_)
      refine WL.quiet (Runs.free rfl) rfl rfl (OV.quiet (ov_assign rfl rfl)) ?_
      refine WL.nil ?_
      refine then_normal ?_
      refine WP.seq ?_
      refine WP.seq ?_
      refine WP.region ?_
      refine WL.quiet (Runs.free rfl) rfl rfl (OV.quiet (ov_move rfl rfl)) ?_
      refine WL.quiet (Runs.free rfl) rfl rfl (OV.quiet (ov_neq rfl rfl rfl)) ?_
      refine WL.nil ?_
      refine then_normal ?_
      refine WP.cond rfl (fun hc13 => ?_) (fun hc13 => ?_)
      · replace hm := ite_t hc13 hm
        refine WP.seq ?_
        refine WP.region ?_
        obtain ⟨r5, e5, hm⟩ := bind_some hm
        refine WL.quiet (Runs.free rfl) rfl rfl (oq_con (r := (.bool r5)) Tryd.call9 rfl rfl (fun w' s => ⟨_, (law58_awake_con   w' H2 s.hold hG r5 e5)⟩)) ?_
        refine WL.quiet (Runs.free rfl) rfl rfl (OV.quiet (ov_assign rfl rfl)) ?_
        refine WL.nil ?_
        refine then_normal ?_
        refine WP.ret ?_
        refine then_ret ?_
        obtain rfl := Option.some.inj hm
        refine retQ_ret Tryd.results6 (Res.tmp rfl Res.nil) rfl (fun w' s => ⟨s.below, ?_⟩)
        exact rfl
      · replace hm := ite_f hc13 hm
        refine WP.skip ?_
        refine then_normal ?_
        refine WP.seq ?_
        refine WP.region ?_
        refine WL.quiet (Runs.free rfl) rfl rfl (OV.quiet (ov_load_whole (i := 0) Tryd.isAgg24 Tryd.sizeOf24 rfl rfl rfl rfl)) ?_
        refine WL.quiet (Runs.free rfl) rfl rfl (OV.quiet (ov_load_whole (i := 2) Tryd.isAgg26 Tryd.sizeOf26 rfl rfl rfl rfl)) ?_
        obtain ⟨r6, e6, hm⟩ := bind_some hm
        refine WL.step (Runs.free rfl) rfl rfl (os_con Tryd.call10 rfl rfl (fun w' s => (journal_Do_con r4.1 p_y ao3 cap3  w' H2 s.hold h3 hc12 hG r6 e6)) (fun rr3 H3 hle3 hR3 => ?_))
        replace h1 := h1.mono hle3
        replace h2 := h2.mono hle3
        replace h3 := h3.mono hle3
        replace hG := hG.mono hle3
        obtain ⟨ao4, cap4, rfl, h4, hc14⟩ := hR3
        refine WL.quiet (Runs.free rfl) rfl rfl (OV.quiet (ov_move rfl rfl)) ?_
        refine WL.quiet (Runs.free rfl) rfl rfl (OV.quiet (ov_extract rfl rfl rfl)) ?_
        refine WL.quiet (Runs.free rfl) rfl rfl (OV.quiet (ov_extract rfl rfl rfl)) ?_
        refine WL.step (Runs.free rfl) rfl rfl (os_alloc (cs := [(.slice none 0 0), (.int .i64 0)]) Tryd.zeroValue24 rfl rfl (fun b5 => ?_))
        refine WL.step0 (Runs.free rfl) rfl (os_store (i := 0) (vs := [(.slice ao4 r6.1.items.length cap4), (.int .i64 r6.1.cycles)]) (cs' := [(.slice ao4 r6.1.items.length cap4), (.int .i64 r6.1.cycles)]) Tryd.sizeOf24 rfl rfl rfl rfl rfl rfl rfl rfl rfl ?_)
        refine WL.quiet (Runs.free rfl) rfl rfl (OV.quiet (ov_assign rfl rfl)) ?_
        refine WL.nil ?_
        refine then_normal ?_
        refine WP.seq ?_
        refine WP.region ?_
        refine WL.quiet (Runs.free rfl) rfl rfl (OV.quiet (ov_load_whole (i := 2) Tryd.isAgg24 Tryd.sizeOf24 rfl rfl rfl rfl)) ?_
        refine WL.quiet (Runs.free rfl) rfl rfl (OV.quiet (ov_load_whole (i := 3) Tryd.isAgg26 Tryd.sizeOf26 rfl rfl rfl rfl)) ?_
        obtain ⟨r7, e7, hm⟩ := bind_some hm
        refine WL.step (Runs.free rfl) rfl rfl (os_con Tryd.call10 rfl rfl (fun w' s => (journal_Do_con r3.1 p_y ao2 cap2  w' H3 s.hold h2 hc9 hG r7 e7)) (fun rr4 H4 hle4 hR4 => ?_))
        replace h1 := h1.mono hle4
        replace h2 := h2.mono hle4
        replace h3 := h3.mono hle4
        replace h4 := h4.mono hle4
        replace hG := hG.mono hle4
        obtain ⟨ao5, cap5, rfl, h5, hc15⟩ := hR4
        refine WL.quiet (Runs.free rfl) rfl rfl (OV.quiet (ov_move rfl rfl)) ?_
        refine WL.quiet (Runs.free rfl) rfl rfl (OV.quiet (ov_extract rfl rfl rfl)) ?_
        refine WL.quiet (Runs.free rfl) rfl rfl (OV.quiet (ov_extract rfl rfl rfl)) ?_
        refine WL.step (Runs.free rfl) rfl rfl (os_alloc (cs := [(.slice none 0 0), (.int .i64 0)]) Tryd.zeroValue24 rfl rfl (fun b6 => ?_))
        refine WL.step0 (Runs.free rfl) rfl (os_store (i := 0) (vs := [(.slice ao5 r7.1.items.length cap5), (.int .i64 r7.1.cycles)]) (cs' := [(.slice ao5 r7.1.items.length cap5), (.int .i64 r7.1.cycles)]) Tryd.sizeOf24 rfl rfl rfl rfl rfl rfl rfl rfl rfl ?_)
        refine WL.quiet (Runs.free rfl) rfl rfl (OV.quiet (ov_assign rfl rfl)) ?_
        refine WL.nil ?_
        refine then_normal ?_
        refine WP.seq ?_
        refine WP.seq ?_
        refine WP.region ?_
        refine WL.quiet (Runs.free rfl) rfl rfl (OV.quiet (ov_move rfl rfl)) ?_
        refine WL.quiet (Runs.free rfl) rfl rfl (OV.quiet (ov_neq rfl rfl rfl)) ?_
        refine WL.quiet (Runs.free rfl) rfl rfl (OV.quiet (ov_move rfl rfl)) ?_
        refine WL.cut_bool 3 93 (x := ((r6.2 != 0) || (r7.2 != 0))) ?_ ?_
        · rcases Bool.eq_false_or_eq_true (r6.2 != 0) with hc16 | hc16
          · skip
            refine WL.idle (Idle.no rfl rfl rfl hc16) rfl rfl ?_
            refine WL.idle (Idle.no rfl rfl rfl hc16) rfl rfl ?_
            refine WL.quiet (Runs.free rfl) rfl rfl (OV.quiet (ov_pick_true rfl (guard_eq rfl hc16) rfl)) ?_
            exact WL.nil ⟨Sub.cons' rfl (congrArg Value.bool (by rw [hc16]; rfl)) (Sub.skip rfl (Sub.skip rfl (Sub.skip rfl (Sub.refl _)))), fun _ s => s⟩
          · skip
            refine WL.quiet (Runs.yes rfl rfl rfl hc16) rfl rfl (OV.quiet (ov_move rfl rfl)) ?_
            refine WL.quiet (Runs.yes rfl rfl rfl hc16) rfl rfl (OV.quiet (ov_neq rfl rfl rfl)) ?_
            refine WL.quiet (Runs.free rfl) rfl rfl (OV.quiet (ov_pick_false rfl (guard_eq rfl hc16) rfl)) ?_
            exact WL.nil ⟨Sub.cons' rfl (congrArg Value.bool (by rw [hc16]; rfl)) (Sub.skip rfl (Sub.skip rfl (Sub.skip rfl (Sub.refl _)))), fun _ s => s⟩
        refine WL.nil ?_
        refine then_normal ?_
        refine WP.cond rfl (fun hc17 => ?_) (fun hc17 => ?_)
        · replace hm := ite_t hc17 hm
          refine WP.seq ?_
          refine WP.region ?_
          refine WL.quiet (Runs.free rfl) rfl rfl (OV.quiet (ov_move rfl rfl)) ?_
          refine WL.quiet (Runs.free rfl) rfl rfl (OV.quiet (ov_move rfl rfl)) ?_
          refine WL.quiet (Runs.free rfl) rfl rfl (OV.quiet (ov_eql rfl rfl rfl)) ?_
          refine WL.quiet (Runs.free rfl) rfl rfl (OV.quiet (ov_move rfl rfl)) ?_
          obtain ⟨c1, e8, hm⟩ := bind_some hm
          refine WL.cut_bool 2 99 (x := c1) ?_ ?_
          · rcases Bool.eq_false_or_eq_true (r6.2 == r7.2) with hc18 | hc18
            · skip
              replace hm := ite_t hc18 e8
              obtain ⟨r8, e9, hm⟩ := bind_some hm
              refine WL.quiet (Runs.yes rfl rfl rfl hc18) rfl rfl (oq_con (r := (.bool r8)) Tryd.call9 rfl rfl (fun w' s => ⟨_, (law58_awake_con   w' H4 s.hold hG r8 e9)⟩)) ?_
              refine WL.quiet (Runs.free rfl) rfl rfl (OV.quiet (ov_pick_true rfl (guard_eq rfl hc18) rfl)) ?_
              exact WL.nil ⟨Sub.cons' rfl (congrArg Value.bool (Option.some.inj hm)) (Sub.skip rfl (Sub.skip rfl (Sub.refl _))), fun _ s => s⟩
            · skip
              replace hm := ite_f hc18 e8
              refine WL.idle (Idle.no rfl rfl rfl hc18) rfl rfl ?_
              refine WL.quiet (Runs.free rfl) rfl rfl (OV.quiet (ov_pick_false rfl (guard_eq rfl hc18) rfl)) ?_
              exact WL.nil ⟨Sub.cons' rfl (congrArg Value.bool (Option.some.inj hm)) (Sub.skip rfl (Sub.skip rfl (Sub.refl _))), fun _ s => s⟩
          refine WL.quiet (Runs.free rfl) rfl rfl (OV.quiet (ov_assign rfl rfl)) ?_
          refine WL.nil ?_
          refine then_normal ?_
          refine WP.ret ?_
          refine then_ret ?_
          obtain rfl := Option.some.inj hm
          refine retQ_ret Tryd.results6 (Res.tmp rfl Res.nil) rfl (fun w' s => ⟨s.below, ?_⟩)
          exact rfl
        · replace hm := ite_f hc17 hm
          refine WP.skip ?_
          refine then_normal ?_
          refine WP.seq ?_
          refine WP.region ?_
          refine WL.quiet (Runs.free rfl) rfl rfl (OV.quiet (ov_load_whole (i := 0) Tryd.isAgg24 Tryd.sizeOf24 rfl rfl rfl rfl)) ?_
          refine WL.quiet (Runs.free rfl) rfl rfl (OV.quiet (ov_load_whole (i := 5) Tryd.isAgg26 Tryd.sizeOf26 rfl rfl rfl rfl)) ?_
          obtain ⟨r9, e10, hm⟩ := bind_some hm
          refine WL.step (Runs.free rfl) rfl rfl (os_con Tryd.call10 rfl rfl (fun w' s => (journal_Do_con r7.1 p_x ao5 cap5  w' H4 s.hold h5 hc15 hG r9 e10)) (fun rr5 H5 hle5 hR5 => ?_))
          replace h1 := h1.mono hle5
          replace h2 := h2.mono hle5
          replace h3 := h3.mono hle5
          replace h4 := h4.mono hle5
          replace h5 := h5.mono hle5
          replace hG := hG.mono hle5
          obtain ⟨ao6, cap6, rfl, h6, hc19⟩ := hR5
          refine WL.quiet (Runs.free rfl) rfl rfl (OV.quiet (ov_move rfl rfl)) ?_
          refine WL.quiet (Runs.free rfl) rfl rfl (OV.quiet (ov_extract rfl rfl rfl)) ?_
          refine WL.quiet (Runs.free rfl) rfl rfl (OV.quiet (ov_extract rfl rfl rfl)) ?_
          refine WL.step (Runs.free rfl) rfl rfl (os_alloc (cs := [(.slice none 0 0), (.int .i64 0)]) Tryd.zeroValue24 rfl rfl (fun b7 => ?_))
          refine WL.step0 (Runs.free rfl) rfl (os_store (i := 0) (vs := [(.slice ao6 r9.1.items.length cap6), (.int .i64 r9.1.cycles)]) (cs' := [(.slice ao6 r9.1.items.length cap6), (.int .i64 r9.1.cycles)]) Tryd.sizeOf24 rfl rfl rfl rfl rfl rfl rfl rfl rfl ?_)
          refine WL.quiet (Runs.free rfl) rfl rfl (OV.quiet (ov_assign rfl rfl)) ?_
          refine WL.nil ?_
          refine then_normal ?_
          refine WP.seq ?_
          refine WP.region_any (S₀ := St w H [.blk b7 24 [(.slice ao6 r9.1.items.length cap6), (.int .i64 r9.1.cycles)], .blk b6 24 [(.slice ao5 r7.1.items.length cap5), (.int .i64 r7.1.cycles)], .blk b5 24 [(.slice ao4 r6.1.items.length cap4), (.int .i64 r6.1.cycles)], .blk b4 24 [(.slice ao3 r4.1.items.length cap3), (.int .i64 r4.1.cycles)], .blk b3 24 [(.slice ao2 r3.1.items.length cap2), (.int .i64 r3.1.cycles)], .blk b2 26 [(.int .i64 p_y.kind), (mkS p_y.name), (.int .i64 p_y.count), (.int .i64 p_y.strokes)], .blk b1 26 [(.int .i64 p_x.kind), (mkS p_x.name), (.int .i64 p_x.count), (.int .i64 p_x.strokes)]] H5) 13 rfl (by kernel_rfl) (fun w' s => s) (fun _ s => s.drew) ?_
          refine AL.take (i := 0) rfl (by kernel_rfl) (by kernel_rfl) (by kernel_rfl) (Runs.free rfl) rfl rfl (ov_move rfl rfl) ?_
          refine AL.take (i := 1) rfl (by kernel_rfl) (by kernel_rfl) (by kernel_rfl) (Runs.free rfl) rfl rfl (ov_eql rfl rfl rfl) ?_
          refine AL.take (i := 2) rfl (by kernel_rfl) (by kernel_rfl) (by kernel_rfl) (Runs.free rfl) rfl rfl (ov_move rfl rfl) ?_
          rcases Bool.eq_false_or_eq_true (r9.2 == 0) with hc20 | hc20
          · replace hm := ite_t hc20 hm
            refine AL.take (i := 3) rfl (by kernel_rfl) (by kernel_rfl) (by kernel_rfl) (Runs.yes rfl rfl rfl hc20) rfl rfl (ov_load_whole (i := 2) Tryd.isAgg24 Tryd.sizeOf24 rfl rfl rfl rfl) ?_
            refine AL.take (i := 5) rfl (by kernel_rfl) (by kernel_rfl) (by kernel_rfl) (Runs.yes rfl rfl rfl hc20) rfl rfl (ov_load_whole (i := 0) Tryd.isAgg24 Tryd.sizeOf24 rfl rfl rfl rfl) ?_
            refine AL.any (rs := [4]) (by kernel_rfl) (by decide) ?_
            refine ALs.cons (i := 4) rfl (Runs.yes rfl rfl rfl hc20) rfl rfl ?_ ?_
            · skip
              obtain ⟨r10, e11, hm⟩ := bind_some hm
              refine os_con Tryd.call12 rfl rfl (fun w' s => (law58_own_con r6.1 ao4 cap4  w' H5 s.hold h4 hc14 hG r10 e11)) (fun rr6 H6 hle6 hR6 => ?_)
              replace h1 := h1.mono hle6
              replace h2 := h2.mono hle6
              replace h3 := h3.mono hle6
              replace h4 := h4.mono hle6
              replace h5 := h5.mono hle6
              replace h6 := h6.mono hle6
              replace hG := hG.mono hle6
              obtain ⟨ao7, cap7, rfl, h7, hc21⟩ := hR6
              refine ⟨fun w' s => (s.heap hle6), ?_⟩
              refine AL.any (rs := [6]) (by kernel_rfl) (by decide) ?_
              refine ALs.cons (i := 6) rfl (Runs.yes rfl rfl rfl hc20) rfl rfl ?_ ?_
              · skip
                obtain ⟨r11, e12, hm⟩ := bind_some hm
                refine os_con Tryd.call12 rfl rfl (fun w' s => (law58_own_con r9.1 ao6 cap6  w' H6 s.hold h6 hc19 hG r11 e12)) (fun rr7 H7 hle7 hR7 => ?_)
                replace h1 := h1.mono hle7
                replace h2 := h2.mono hle7
                replace h3 := h3.mono hle7
                replace h4 := h4.mono hle7
                replace h5 := h5.mono hle7
                replace h6 := h6.mono hle7
                replace h7 := h7.mono hle7
                replace hG := hG.mono hle7
                obtain ⟨ao8, cap8, rfl, h8, hc22⟩ := hR7
                refine ⟨fun w' s => (s.heap (hle6.trans hle7)), ?_⟩
                refine AL.any (rs := [7]) (by kernel_rfl) (by decide) ?_
                refine ALs.cons (i := 7) rfl (Runs.yes rfl rfl rfl hc20) rfl rfl ?_ ?_
                · skip
                  obtain ⟨r12, e13, hm⟩ := bind_some hm
                  refine OQ.step (oq_con (r := (.bool r12)) Tryd.call17 rfl rfl (fun w' s => ⟨_, (ref58_Same_con r10 r11 ao7 cap7 ao8 cap8  w' H7 s.hold h7 hc21 h8 hc22 hG r12 e13)⟩)) ?_
                  refine ⟨fun w' s => (s.heap (hle6.trans hle7)), ?_⟩
                  refine AL.take (i := 8) rfl (by kernel_rfl) (by kernel_rfl) (by kernel_rfl) (Runs.free rfl) rfl rfl (ov_pick_true rfl (guard_eq rfl hc20) rfl) ?_
                  refine AL.take (i := 9) rfl (by kernel_rfl) (by kernel_rfl) (by kernel_rfl) (Runs.free rfl) rfl rfl (ov_move rfl rfl) ?_
                  rcases Bool.eq_false_or_eq_true r12 with hc23 | hc23
                  · replace hm := ite_t hc23 hm
                    refine AL.any (rs := [10]) (by kernel_rfl) (by decide) ?_
                    refine ALs.cons (i := 10) rfl (Runs.yes rfl rfl rfl hc23) rfl rfl ?_ ?_
                    · skip
                      obtain ⟨r13, e14, hm⟩ := bind_some hm
                      refine OQ.step (oq_con (r := (.bool r13)) Tryd.call9 rfl rfl (fun w' s => ⟨_, (law58_awake_con   w' H7 s.hold hG r13 e14)⟩)) ?_
                      refine ⟨fun w' s => (s.heap (hle6.trans hle7)), ?_⟩
                      refine AL.take (i := 11) rfl (by kernel_rfl) (by kernel_rfl) (by kernel_rfl) (Runs.free rfl) rfl rfl (ov_pick_true rfl (guard_eq rfl hc23) rfl) ?_
                      refine AL.take (i := 12) rfl (by kernel_rfl) (by kernel_rfl) (by kernel_rfl) (Runs.free rfl) rfl rfl (ov_assign rfl rfl) ?_
                      refine AL.done (by kernel_rfl) ?_
                      refine then_normal ?_
                      refine WP.ret ?_
                      obtain rfl := Option.some.inj hm
                      refine retQ_ret Tryd.results6 (Res.tmp rfl Res.nil) rfl (fun w' s => ⟨s.below, ?_⟩)
                      exact rfl
                    exact ALs.nil
                  · replace hm := ite_f hc23 hm
                    refine AL.idle (i := 10) rfl (by kernel_rfl) (by kernel_rfl) (by kernel_rfl) (Idle.no rfl rfl rfl hc23) rfl rfl ?_
                    refine AL.take (i := 11) rfl (by kernel_rfl) (by kernel_rfl) (by kernel_rfl) (Runs.free rfl) rfl rfl (ov_pick_false rfl (guard_eq rfl hc23) rfl) ?_
                    refine AL.take (i := 12) rfl (by kernel_rfl) (by kernel_rfl) (by kernel_rfl) (Runs.free rfl) rfl rfl (ov_assign rfl rfl) ?_
                    refine AL.done (by kernel_rfl) ?_
                    refine then_normal ?_
                    refine WP.ret ?_
                    obtain rfl := Option.some.inj hm
                    refine retQ_ret Tryd.results6 (Res.tmp rfl Res.nil) rfl (fun w' s => ⟨s.below, ?_⟩)
                    exact rfl
                exact ALs.nil
              exact ALs.nil
            exact ALs.nil
          · replace hm := ite_f hc20 hm
            refine AL.idle (i := 3) rfl (by kernel_rfl) (by kernel_rfl) (by kernel_rfl) (Idle.no rfl rfl rfl hc20) rfl rfl ?_
            refine AL.idle (i := 4) rfl (by kernel_rfl) (by kernel_rfl) (by kernel_rfl) (Idle.no rfl rfl rfl hc20) rfl rfl ?_
            refine AL.idle (i := 5) rfl (by kernel_rfl) (by kernel_rfl) (by kernel_rfl) (Idle.no rfl rfl rfl hc20) rfl rfl ?_
            refine AL.idle (i := 6) rfl (by kernel_rfl) (by kernel_rfl) (by kernel_rfl) (Idle.no rfl rfl rfl hc20) rfl rfl ?_
            refine AL.idle (i := 7) rfl (by kernel_rfl) (by kernel_rfl) (by kernel_rfl) (Idle.no rfl rfl rfl hc20) rfl rfl ?_
            refine AL.take (i := 8) rfl (by kernel_rfl) (by kernel_rfl) (by kernel_rfl) (Runs.free rfl) rfl rfl (ov_pick_false rfl (guard_eq rfl hc20) rfl) ?_
            refine AL.take (i := 9) rfl (by kernel_rfl) (by kernel_rfl) (by kernel_rfl) (Runs.free rfl) rfl rfl (ov_move rfl rfl) ?_
            refine AL.idle (i := 10) rfl (by kernel_rfl) (by kernel_rfl) (by kernel_rfl) (Idle.no rfl rfl rfl rfl) rfl rfl ?_
            refine AL.take (i := 11) rfl (by kernel_rfl) (by kernel_rfl) (by kernel_rfl) (Runs.free rfl) rfl rfl (ov_pick_false rfl (guard_eq rfl rfl) rfl) ?_
            refine AL.take (i := 12) rfl (by kernel_rfl) (by kernel_rfl) (by kernel_rfl) (Runs.free rfl) rfl rfl (ov_assign rfl rfl) ?_
            refine AL.done (by kernel_rfl) ?_
            refine then_normal ?_
            refine WP.ret ?_
            obtain rfl := Option.some.inj hm
            refine retQ_ret Tryd.results6 (Res.tmp rfl Res.nil) rfl (fun w' s => ⟨s.below, ?_⟩)
            exact rfl

theorem slices_Index_stringstring_con (p_s : (List (List UInt8))) (p_v : (List UInt8)) (ao1 : Option Addr) (cap1 : Nat) (w : World) (H : Heap) (hH : Le H (hp w)) (h1 : SL H encStr ao1 p_s) (hc1 : p_s.length ≤ cap1) (hG : Glob H) (r : Int) (hm : slices_Index_stringstring p_s p_v = some r) :
    Con Tryd.prog 54 [(.slice ao1 p_s.length cap1), (mkS p_v)] w H (fun v _ => v = (.int .i64 r)) := by
  unfold slices_Index_stringstring at hm
  refine con_of hH Tryd.func54 rfl 19 Tryd.ntmps54 rfl ?_
  refine WP.seq ?_
  refine WP.region ?_
  refine WL.quiet (Runs.free rfl) rfl rfl (OV.quiet (ov_assign rfl rfl)) ?_
  refine WL.nil ?_
  refine then_normal ?_
  obtain ⟨k1, hk1, hm⟩ := joinK_some hm
  refine WP.seq_join (fun g' S' => Sub [] g' ∧ (∀ w', S' w' → St w H [] H w') ∧ k1 = some r) ?_ ?_
  · skip
    refine WP.seq ?_
    refine WP.region ?_
    refine WL.quiet (Runs.free rfl) rfl rfl (OV.quiet (ov_move rfl rfl)) ?_
    refine WL.quiet (Runs.free rfl) rfl rfl (OV.quiet (ov_len_slice Tryd.underlying45 rfl rfl)) ?_
    refine WL.quiet (Runs.free rfl) rfl rfl (OV.quiet (ov_move rfl rfl)) ?_
    refine WL.nil ?_
    refine then_normal ?_
    refine WP.block ?_
    refine WP.loop (fun m1 g' S' => ∃ (i1 : Int), Sub [(0, (.slice ao1 p_s.length cap1)), (1, (mkS p_v)), (7, (.int .i64 (p_s.length : Int))), (8, (.int .i64 i1))] g' ∧ (∀ w', S' w' → St w H [] H w') ∧ slices_Index_stringstring_loop1 p_s p_v k1 m1 i1 = some r) ((Int.toNat ((p_s.length : Int) - 0) + 1)) ⟨0, (Sub.cons rfl (Sub.cons rfl (Sub.cons rfl (Sub.cons rfl (Sub.nil _))))), fun w' s => s, hm⟩ ?_ ?_
    · rintro g' S' ⟨_, _, _, hm⟩
      exact none_some hm
    · rintro m1 g' S' ⟨i1, hsub1, hS1, hm⟩
      refine WP.sub hsub1 (WP.weaken hS1 ?_)
      rw [slices_Index_stringstring_loop1] at hm
      refine WP.seq ?_
      refine WP.region ?_
      refine WL.quiet (Runs.free rfl) rfl rfl (OV.quiet (ov_lss rfl rfl rfl)) ?_
      refine WL.nil ?_
      refine then_normal ?_
      refine WP.seq ?_
      refine WP.cond rfl (fun hc2 => ?_) (fun hc2 => ?_)
      · replace hm := ite_t hc2 hm
        refine WP.skip ?_
        refine then_normal ?_
        refine WP.seq ?_
        refine WP.block ?_
        refine WP.seq ?_
        refine WP.region ?_
        refine WL.quiet (Runs.free rfl) rfl rfl (OV.quiet (ov_move rfl rfl)) ?_
        refine WL.quiet (Runs.free rfl) rfl rfl (OV.quiet (ov_assign rfl rfl)) ?_
        refine WL.nil ?_
        refine then_normal ?_
        refine WP.seq ?_
        refine WP.region ?_
        refine WL.quiet (Runs.free rfl) rfl rfl (OV.quiet (ov_move rfl rfl)) ?_
        refine WL.quiet (Runs.free rfl) rfl rfl (OV.quiet (ov_move rfl rfl)) ?_
        refine WL.quiet (Runs.free rfl) rfl rfl (OV.quiet (ov_move rfl rfl)) ?_
        obtain ⟨x1, e1, hm⟩ := bind_some hm
        obtain ⟨h2, h3, h4, cs1, h5, h6⟩ := h1.get e1 (by decide)
        obtain rfl : cs1 = [(mkS x1)] := h5
        refine WL.quiet (Runs.free rfl) rfl rfl (OV.quiet (ov_indexAddr Tryd.underlying45 Tryd.sizeOf9 rfl rfl rfl h2 h3 h4)) ?_
        refine WL.quiet (Runs.free rfl) rfl rfl (OV.quiet (ov_load_elem (v := (mkS x1)) Tryd.isAgg9 rfl rfl h6)) ?_
        refine WL.quiet (Runs.free rfl) rfl rfl (OV.quiet (ov_seql rfl rfl rfl)) ?_
        refine WL.nil ?_
        refine then_normal ?_
        refine WP.cond rfl (fun hc3 => ?_) (fun hc3 => ?_)
        · replace hm := ite_t hc3 hm
          refine WP.seq ?_
          refine WP.region ?_
          refine WL.quiet (Runs.free rfl) rfl rfl (OV.quiet (ov_move rfl rfl)) ?_
          refine WL.quiet (Runs.free rfl) rfl rfl (OV.quiet (ov_assign rfl rfl)) ?_
          refine WL.nil ?_
          refine then_normal ?_
          refine WP.ret ?_
          refine block_ret ?_
          refine then_ret ?_
          refine then_ret ?_
          refine block_ret ?_
          refine then_ret ?_
          obtain rfl := Option.some.inj hm
          refine retQ_ret Tryd.results54 (Res.tmp rfl Res.nil) rfl (fun w' s => ⟨s.below, ?_⟩)
          exact rfl
        · replace hm := ite_f hc3 hm
          refine WP.skip ?_
          refine block_normal ?_
          refine then_normal ?_
          refine WP.region ?_
          refine WL.quiet (Runs.free rfl) rfl rfl (OV.quiet (ov_add rfl rfl rfl)) ?_
          refine WL.quiet (Runs.free rfl) rfl rfl (OV.quiet (ov_move rfl rfl)) ?_
          refine WL.nil ?_
          refine then_normal ?_
          exact ⟨(IntKind.wrap .i64 (i1 + 1)), (Sub.cons rfl (Sub.cons rfl (Sub.cons rfl (Sub.cons rfl (Sub.nil _))))), fun w' s => s, hm⟩
      · replace hm := ite_f hc2 hm
        refine WP.exit ?_
        refine then_exit ?_
        refine then_exit ?_
        refine block_here ?_
        refine then_normal ?_
        exact ⟨(Sub.nil _), fun w' s => s, hm⟩
  · rintro g' S' ⟨hsub2, hS2, hm⟩
    refine WP.sub hsub2 (WP.weaken hS2 ?_)
    replace hm := hk1.symm.trans hm
    refine WP.seq ?_
    refine WP.region ?_
    refine WL.quiet (Runs.free rfl) rfl rfl (OV.quiet (ov_assign rfl rfl)) ?_
    refine WL.nil ?_
    refine then_normal ?_
    refine WP.ret ?_
    obtain rfl := Option.some.inj hm
    refine retQ_ret Tryd.results54 (Res.tmp rfl Res.nil) rfl (fun w' s => ⟨s.below, ?_⟩)
    exact rfl

theorem slices_Contains_stringstring_con (p_s : (List (List UInt8))) (p_v : (List UInt8)) (ao1 : Option Addr) (cap1 : Nat) (w : World) (H : Heap) (hH : Le H (hp w)) (h1 : SL H encStr ao1 p_s) (hc1 : p_s.length ≤ cap1) (hG : Glob H) (r : Bool) (hm : slices_Contains_stringstring p_s p_v = some r) :
    Con Tryd.prog 30 [(.slice ao1 p_s.length cap1), (mkS p_v)] w H (fun v _ => v = (.bool r)) := by
  unfold slices_Contains_stringstring at hm
  refine con_of hH Tryd.func30 rfl 9 Tryd.ntmps30 rfl ?_
  refine WP.seq ?_
  refine WP.region ?_
  refine WL.quiet (Runs.free rfl) rfl rfl (OV.quiet (ov_assign rfl rfl)) ?_
  refine WL.nil ?_
  refine then_normal ?_
  refine WP.seq ?_
  refine WP.region ?_
  refine WL.quiet (Runs.free rfl) rfl rfl (OV.quiet (ov_move rfl rfl)) ?_
  refine WL.quiet (Runs.free rfl) rfl rfl (OV.quiet (ov_move rfl rfl)) ?_
  obtain ⟨r1, e1, hm⟩ := bind_some hm
  refine WL.quiet (Runs.free rfl) rfl rfl (oq_con (r := (.int .i64 r1)) Tryd.call54 rfl rfl (fun w' s => ⟨_, (slices_Index_stringstring_con p_s p_v ao1 cap1  w' H s.hold h1 hc1 hG r1 e1)⟩)) ?_
  refine WL.quiet (Runs.free rfl) rfl rfl (OV.quiet (ov_geq rfl rfl rfl)) ?_
  refine WL.quiet (Runs.free rfl) rfl rfl (OV.quiet (ov_assign rfl rfl)) ?_
  refine WL.nil ?_
  refine then_normal ?_
  refine WP.ret ?_
  obtain rfl := Option.some.inj hm
  refine retQ_ret Tryd.results30 (Res.tmp rfl Res.nil) rfl (fun w' s => ⟨s.below, ?_⟩)
  exact rfl

theorem law58_JournalAdds_con (p_l : (List Entry)) (p_x : Entry) (p_first : Int) (ao1 : Option Addr) (cap1 : Nat) (w : World) (H : Heap) (hH : Le H (hp w)) (h1 : SL H encEntry ao1 p_l) (hc1 : p_l.length ≤ cap1) (hG : Glob H) (r : Bool) (hm : law58_JournalAdds p_l p_x p_first = some r) :
    Con Tryd.prog 7 [(.slice ao1 p_l.length cap1), (.agg #[(.int .i64 p_x.kind), (mkS p_x.name), (.int .i64 p_x.count), (.int .i64 p_x.strokes)]), (.int .u16 p_first)] w H (fun v _ => v = (.bool r)) := by
  unfold law58_JournalAdds at hm
  refine con_of hH Tryd.func7 rfl 155 Tryd.ntmps7 rfl ?_
  refine WP.seq ?_
  refine WP.region ?_
  refine WL.step (Runs.free rfl) rfl rfl (os_box (cs := [(.int .i64 p_x.kind), (mkS p_x.name), (.int .i64 p_x.count), (.int .i64 p_x.strokes)]) rfl rfl rfl (fun b1 => ?_))
  refine WL.quiet (Runs.free rfl) rfl rfl (OV.quiet (ov_assign rfl rfl)) ?_
  refine WL.nil ?_
  refine then_normal ?_
  refine WP.seq ?_
  refine WP.seq ?_
  refine WP.region ?_
  refine WL.quiet (Runs.free rfl) rfl rfl (OV.quiet (ov_move rfl rfl)) ?_
  obtain ⟨r1, e1, hm⟩ := bind_some hm
  refine WL.quiet (Runs.free rfl) rfl rfl (oq_con (r := (.bool r1)) Tryd.call29 rfl rfl (fun w' s => ⟨_, (law58_right_con p_l ao1 cap1  w' H s.hold h1 hc1 hG r1 e1)⟩)) ?_
  refine WL.quiet (Runs.free rfl) rfl rfl (OV.quiet (ov_not rfl rfl)) ?_
  refine WL.quiet (Runs.free rfl) rfl rfl (OV.quiet (ov_move rfl rfl)) ?_
  refine WL.cut_bool 5 29 (x := ((!r1) || (decide ((p_x.name.length : Int) > 60)))) ?_ ?_
  · rcases Bool.eq_false_or_eq_true (!r1) with hc2 | hc2
    · skip
      refine WL.idle (Idle.no rfl rfl rfl hc2) rfl rfl ?_
      refine WL.idle (Idle.no rfl rfl rfl hc2) rfl rfl ?_
      refine WL.idle (Idle.no rfl rfl rfl hc2) rfl rfl ?_
      refine WL.idle (Idle.no rfl rfl rfl hc2) rfl rfl ?_
      refine WL.quiet (Runs.free rfl) rfl rfl (OV.quiet (ov_pick_true rfl (guard_eq rfl hc2) rfl)) ?_
      exact WL.nil ⟨Sub.cons' rfl (congrArg Value.bool (by rw [hc2]; rfl)) (Sub.skip rfl (Sub.skip rfl (Sub.skip rfl (Sub.skip rfl (Sub.skip rfl (Sub.refl _)))))), fun _ s => s⟩
    · skip
      refine WL.quiet (Runs.yes rfl rfl rfl hc2) rfl rfl (OV.quiet (ov_fieldAddr Tryd.underlying26 rfl rfl rfl Tryd.sizeOf9 rfl rfl)) ?_
      refine WL.quiet (Runs.yes rfl rfl rfl hc2) rfl rfl (OV.quiet (ov_load_box (i := 0) Tryd.isAgg9 rfl rfl rfl rfl)) ?_
      refine WL.quiet (Runs.yes rfl rfl rfl hc2) rfl rfl (OV.quiet (ov_len_string Tryd.underlying9 rfl rfl)) ?_
      refine WL.quiet (Runs.yes rfl rfl rfl hc2) rfl rfl (OV.quiet (ov_gtr rfl rfl rfl)) ?_
      refine WL.quiet (Runs.free rfl) rfl rfl (OV.quiet (ov_pick_false rfl (guard_eq rfl hc2) rfl)) ?_
      exact WL.nil ⟨Sub.cons' rfl (congrArg Value.bool (by rw [hc2]; rfl)) (Sub.skip rfl (Sub.skip rfl (Sub.skip rfl (Sub.skip rfl (Sub.skip rfl (Sub.refl _)))))), fun _ s => s⟩
  refine WL.quiet (Runs.free rfl) rfl rfl (OV.quiet (ov_move rfl rfl)) ?_
  refine WL.cut_bool 4 34 (x := (((!r1) || (decide ((p_x.name.length : Int) > 60))) || (p_x.kind != 1))) ?_ ?_
  · rcases Bool.eq_false_or_eq_true ((!r1) || (decide ((p_x.name.length : Int) > 60))) with hc3 | hc3
    · skip
      refine WL.idle (Idle.no rfl rfl rfl hc3) rfl rfl ?_
      refine WL.idle (Idle.no rfl rfl rfl hc3) rfl rfl ?_
      refine WL.idle (Idle.no rfl rfl rfl hc3) rfl rfl ?_
      refine WL.quiet (Runs.free rfl) rfl rfl (OV.quiet (ov_pick_true rfl (guard_eq rfl hc3) rfl)) ?_
      exact WL.nil ⟨Sub.cons' rfl (congrArg Value.bool (by rw [hc3]; rfl)) (Sub.skip rfl (Sub.skip rfl (Sub.skip rfl (Sub.skip rfl (Sub.refl _))))), fun _ s => s⟩
    · skip
      refine WL.quiet (Runs.yes rfl rfl rfl hc3) rfl rfl (OV.quiet (ov_fieldAddr Tryd.underlying26 rfl rfl rfl Tryd.sizeOf3 rfl rfl)) ?_
      refine WL.quiet (Runs.yes rfl rfl rfl hc3) rfl rfl (OV.quiet (ov_load_box (i := 0) Tryd.isAgg3 rfl rfl rfl rfl)) ?_
      refine WL.quiet (Runs.yes rfl rfl rfl hc3) rfl rfl (OV.quiet (ov_neq rfl rfl rfl)) ?_
      refine WL.quiet (Runs.free rfl) rfl rfl (OV.quiet (ov_pick_false rfl (guard_eq rfl hc3) rfl)) ?_
      exact WL.nil ⟨Sub.cons' rfl (congrArg Value.bool (by rw [hc3]; rfl)) (Sub.skip rfl (Sub.skip rfl (Sub.skip rfl (Sub.skip rfl (Sub.refl _))))), fun _ s => s⟩
  refine WL.quiet (Runs.free rfl) rfl rfl (OV.quiet (ov_move rfl rfl)) ?_
  obtain ⟨c1, e2, hm⟩ := bind_some hm
  refine WL.cut_bool 4 39 (x := c1) ?_ ?_
  · rcases Bool.eq_false_or_eq_true (((!r1) || (decide ((p_x.name.length : Int) > 60))) || (p_x.kind != 1)) with hc4 | hc4
    · skip
      replace hm := ite_t hc4 e2
      refine WL.idle (Idle.no rfl rfl rfl hc4) rfl rfl ?_
      refine WL.idle (Idle.no rfl rfl rfl hc4) rfl rfl ?_
      refine WL.idle (Idle.no rfl rfl rfl hc4) rfl rfl ?_
      refine WL.quiet (Runs.free rfl) rfl rfl (OV.quiet (ov_pick_true rfl (guard_eq rfl hc4) rfl)) ?_
      exact WL.nil ⟨Sub.cons' rfl (congrArg Value.bool (Option.some.inj hm)) (Sub.skip rfl (Sub.skip rfl (Sub.skip rfl (Sub.skip rfl (Sub.refl _))))), fun _ s => s⟩
    · skip
      replace hm := ite_f hc4 e2
      refine WL.quiet (Runs.yes rfl rfl rfl hc4) rfl rfl (OV.quiet (ov_load_whole (i := 0) Tryd.isAgg26 Tryd.sizeOf26 rfl rfl rfl rfl)) ?_
      obtain ⟨r2, e3, hm⟩ := bind_some hm
      refine WL.quiet (Runs.yes rfl rfl rfl hc4) rfl rfl (oq_con (r := (.int .i64 r2)) Tryd.call16 rfl rfl (fun w' s => ⟨_, (ref58_Right_con p_x  w' H s.hold hG r2 e3)⟩)) ?_
      refine WL.quiet (Runs.yes rfl rfl rfl hc4) rfl rfl (OV.quiet (ov_neq rfl rfl rfl)) ?_
      refine WL.quiet (Runs.free rfl) rfl rfl (OV.quiet (ov_pick_false rfl (guard_eq rfl hc4) rfl)) ?_
      exact WL.nil ⟨Sub.cons' rfl (congrArg Value.bool (Option.some.inj hm)) (Sub.skip rfl (Sub.skip rfl (Sub.skip rfl (Sub.skip rfl (Sub.refl _))))), fun _ s => s⟩
  refine WL.nil ?_
  refine then_normal ?_
  refine WP.cond rfl (fun hc5 => ?_) (fun hc5 => ?_)
  · replace hm := ite_t hc5 hm
    refine WP.seq ?_
    refine WP.region ?_
    obtain ⟨r3, e4, hm⟩ := bind_some hm
    refine WL.quiet (Runs.free rfl) rfl rfl (oq_con (r := (.bool r3)) Tryd.call9 rfl rfl (fun w' s => ⟨_, (law58_awake_con   w' H s.hold hG r3 e4)⟩)) ?_
    refine WL.quiet (Runs.free rfl) rfl rfl (OV.quiet (ov_assign rfl rfl)) ?_
    refine WL.nil ?_
    refine then_normal ?_
    refine WP.ret ?_
    refine then_ret ?_
    obtain rfl := Option.some.inj hm
    refine retQ_ret Tryd.results7 (Res.tmp rfl Res.nil) rfl (fun w' s => ⟨s.below, ?_⟩)
    exact rfl
  · replace hm := ite_f hc5 hm
    refine WP.skip ?_
    refine then_normal ?_
    refine WP.seq ?_
    refine WP.region ?_
    refine WL.quiet (Runs.free rfl) rfl rfl (OV.quiet (ov_move rfl rfl)) ?_
    obtain ⟨r4, e5, hm⟩ := bind_some hm
    refine WL.step (Runs.free rfl) rfl rfl (os_con Tryd.call25 rfl rfl (fun w' s => (journal_Run_con p_l ao1 cap1  w' H s.hold h1 hc1 hG r4 e5)) (fun rr1 H1 hle1 hR1 => ?_))
    replace h1 := h1.mono hle1
    replace hG := hG.mono hle1
    obtain ⟨ao2, cap2, rfl, h2, hc6⟩ := hR1
    refine WL.quiet (Runs.free rfl) rfl rfl (OV.quiet (ov_move rfl rfl)) ?_
    refine WL.quiet (Runs.free rfl) rfl rfl (OV.quiet (ov_extract rfl rfl rfl)) ?_
    refine WL.quiet (Runs.free rfl) rfl rfl (OV.quiet (ov_extract rfl rfl rfl)) ?_
    refine WL.quiet (Runs.free rfl) rfl rfl (OV.quiet (ov_extract rfl rfl rfl)) ?_
    refine WL.step (Runs.free rfl) rfl rfl (os_alloc (cs := [(.slice none 0 0), (.int .i64 0)]) Tryd.zeroValue24 rfl rfl (fun b2 => ?_))
    refine WL.step0 (Runs.free rfl) rfl (os_store (i := 0) (vs := [(.slice ao2 r4.1.items.length cap2), (.int .i64 r4.1.cycles)]) (cs' := [(.slice ao2 r4.1.items.length cap2), (.int .i64 r4.1.cycles)]) Tryd.sizeOf24 rfl rfl rfl rfl rfl rfl rfl rfl rfl ?_)
    refine WL.quiet (Runs.free rfl) rfl rfl (OV.quiet (ov_assign rfl rfl)) ?_
    refine WL.quiet (Runs.free rfl) rfl rfl (OV.quiet (ov_assign rfl rfl)) ?_
    refine WL.nil ?_
    refine then_normal ?_
    refine WP.seq ?_
    refine WP.seq ?_
    refine WP.region ?_
    refine WL.quiet (Runs.free rfl) rfl rfl (OV.quiet (ov_move rfl rfl)) ?_
    refine WL.quiet (Runs.free rfl) rfl rfl (OV.quiet (ov_neq rfl rfl rfl)) ?_
    refine WL.quiet (Runs.free rfl) rfl rfl (OV.quiet (ov_move rfl rfl)) ?_
    obtain ⟨c2, e6, hm⟩ := bind_some hm
    refine WL.cut_bool 5 54 (x := c2) ?_ ?_
    · rcases Bool.eq_false_or_eq_true (r4.2.2 != 0) with hc7 | hc7
      · skip
        replace hm := ite_t hc7 e6
        refine WL.idle (Idle.no rfl rfl rfl hc7) rfl rfl ?_
        refine WL.idle (Idle.no rfl rfl rfl hc7) rfl rfl ?_
        refine WL.idle (Idle.no rfl rfl rfl hc7) rfl rfl ?_
        refine WL.idle (Idle.no rfl rfl rfl hc7) rfl rfl ?_
        refine WL.quiet (Runs.free rfl) rfl rfl (OV.quiet (ov_pick_true rfl (guard_eq rfl hc7) rfl)) ?_
        exact WL.nil ⟨Sub.cons' rfl (congrArg Value.bool (Option.some.inj hm)) (Sub.skip rfl (Sub.skip rfl (Sub.skip rfl (Sub.skip rfl (Sub.skip rfl (Sub.refl _)))))), fun _ s => s⟩
      · skip
        replace hm := ite_f hc7 e6
        refine WL.quiet (Runs.yes rfl rfl rfl hc7) rfl rfl (OV.quiet (ov_load_whole (i := 0) Tryd.isAgg24 Tryd.sizeOf24 rfl rfl rfl rfl)) ?_
        obtain ⟨r5, e7, hm⟩ := bind_some hm
        refine WL.step (Runs.yes rfl rfl rfl hc7) rfl rfl (os_con Tryd.call12 rfl rfl (fun w' s => (law58_own_con r4.1 ao2 cap2  w' H1 s.hold h2 hc6 hG r5 e7)) (fun rr2 H2 hle2 hR2 => ?_))
        replace h1 := h1.mono hle2
        replace h2 := h2.mono hle2
        replace hG := hG.mono hle2
        obtain ⟨ao3, cap3, rfl, h3, hc8⟩ := hR2
        obtain ⟨r6, e8, hm⟩ := bind_some hm
        refine WL.quiet (Runs.yes rfl rfl rfl hc7) rfl rfl (oq_con (r := (.int .i64 r6)) Tryd.call14 rfl rfl (fun w' s => ⟨_, (ref58_Check_con r5 ao3 cap3  w' H2 s.hold h3 hc8 hG r6 e8)⟩)) ?_
        refine WL.quiet (Runs.yes rfl rfl rfl hc7) rfl rfl (OV.quiet (ov_neq rfl rfl rfl)) ?_
        refine WL.quiet (Runs.free rfl) rfl rfl (OV.quiet (ov_pick_false rfl (guard_eq rfl hc7) rfl)) ?_
        exact WL.nil ⟨Sub.cons' rfl (congrArg Value.bool (Option.some.inj hm)) (Sub.skip rfl (Sub.skip rfl (Sub.skip rfl (Sub.skip rfl (Sub.skip rfl (Sub.refl _)))))), fun _ s => (s.heap hle2)⟩
    refine WL.nil ?_
    refine then_normal ?_
    refine WP.cond rfl (fun hc9 => ?_) (fun hc9 => ?_)
    · replace hm := ite_t hc9 hm
      refine WP.seq ?_
      refine WP.region ?_
      refine WL.quiet (Runs.free rfl) rfl rfl (OV.quiet (ov_assign rfl rfl)) ?_
      refine WL.nil ?_
      refine then_normal ?_
      refine WP.ret ?_
      refine then_ret ?_
      obtain rfl := Option.some.inj hm
      refine retQ_ret Tryd.results7 (Res.tmp rfl Res.nil) rfl (fun w' s => ⟨s.below, ?_⟩)
      exact rfl
    · replace hm := ite_f hc9 hm
      refine WP.skip ?_
      refine then_normal ?_
      refine WP.seq ?_
      refine WP.region ?_
      refine WL.quiet (Runs.free rfl) rfl rfl (OV.quiet (ov_load_whole (i := 0) Tryd.isAgg24 Tryd.sizeOf24 rfl rfl rfl rfl)) ?_
      refine WL.quiet (Runs.free rfl) rfl rfl (OV.quiet (ov_load_whole (i := 1) Tryd.isAgg26 Tryd.sizeOf26 rfl rfl rfl rfl)) ?_
      obtain ⟨r7, e9, hm⟩ := bind_some hm
      refine WL.step (Runs.free rfl) rfl rfl (os_con Tryd.call10 rfl rfl (fun w' s => (journal_Do_con r4.1 p_x ao2 cap2  w' H1 s.hold h2 hc6 hG r7 e9)) (fun rr3 H3 hle3 hR3 => ?_))
      replace h1 := h1.mono hle3
      replace h2 := h2.mono hle3
      replace hG := hG.mono hle3
      obtain ⟨ao4, cap4, rfl, h4, hc10⟩ := hR3
      refine WL.quiet (Runs.free rfl) rfl rfl (OV.quiet (ov_move rfl rfl)) ?_
      refine WL.quiet (Runs.free rfl) rfl rfl (OV.quiet (ov_extract rfl rfl rfl)) ?_
      refine WL.quiet (Runs.free rfl) rfl rfl (OV.quiet (ov_extract rfl rfl rfl)) ?_
      refine WL.step (Runs.free rfl) rfl rfl (os_alloc (cs := [(.slice none 0 0), (.int .i64 0)]) Tryd.zeroValue24 rfl rfl (fun b3 => ?_))
      refine WL.step0 (Runs.free rfl) rfl (os_store (i := 0) (vs := [(.slice ao4 r7.1.items.length cap4), (.int .i64 r7.1.cycles)]) (cs' := [(.slice ao4 r7.1.items.length cap4), (.int .i64 r7.1.cycles)]) Tryd.sizeOf24 rfl rfl rfl rfl rfl rfl rfl rfl rfl ?_)
      refine WL.quiet (Runs.free rfl) rfl rfl (OV.quiet (ov_assign rfl rfl)) ?_
      refine WL.nil ?_
      refine then_normal ?_
      refine WP.seq ?_
      refine WP.seq ?_
      refine WP.region ?_
      refine WL.quiet (Runs.free rfl) rfl rfl (OV.quiet (ov_move rfl rfl)) ?_
      refine WL.quiet (Runs.free rfl) rfl rfl (OV.quiet (ov_neq rfl rfl rfl)) ?_
      refine WL.nil ?_
      refine then_normal ?_
      refine WP.cond rfl (fun hc11 => ?_) (fun hc11 => ?_)
      · replace hm := ite_t hc11 hm
        refine WP.seq ?_
        refine WP.region ?_
        refine WL.quiet (Runs.free rfl) rfl rfl (OV.quiet (ov_move rfl rfl)) ?_
        refine WL.quiet (Runs.free rfl) rfl rfl (OV.quiet (ov_eql rfl rfl rfl)) ?_
        refine WL.quiet (Runs.free rfl) rfl rfl (OV.quiet (ov_move rfl rfl)) ?_
        refine WL.cut_bool 3 68 (x := ((r7.2 == 6) || (r7.2 == 14))) ?_ ?_
        · rcases Bool.eq_false_or_eq_true (r7.2 == 6) with hc12 | hc12
          · skip
            refine WL.idle (Idle.no rfl rfl rfl hc12) rfl rfl ?_
            refine WL.idle (Idle.no rfl rfl rfl hc12) rfl rfl ?_
            refine WL.quiet (Runs.free rfl) rfl rfl (OV.quiet (ov_pick_true rfl (guard_eq rfl hc12) rfl)) ?_
            exact WL.nil ⟨Sub.cons' rfl (congrArg Value.bool (by rw [hc12]; rfl)) (Sub.skip rfl (Sub.skip rfl (Sub.skip rfl (Sub.refl _)))), fun _ s => s⟩
          · skip
            refine WL.quiet (Runs.yes rfl rfl rfl hc12) rfl rfl (OV.quiet (ov_move rfl rfl)) ?_
            refine WL.quiet (Runs.yes rfl rfl rfl hc12) rfl rfl (OV.quiet (ov_eql rfl rfl rfl)) ?_
            refine WL.quiet (Runs.free rfl) rfl rfl (OV.quiet (ov_pick_false rfl (guard_eq rfl hc12) rfl)) ?_
            exact WL.nil ⟨Sub.cons' rfl (congrArg Value.bool (by rw [hc12]; rfl)) (Sub.skip rfl (Sub.skip rfl (Sub.skip rfl (Sub.refl _)))), fun _ s => s⟩
        refine WL.quiet (Runs.free rfl) rfl rfl (OV.quiet (ov_move rfl rfl)) ?_
        refine WL.cut_bool 3 72 (x := (((r7.2 == 6) || (r7.2 == 14)) || (r7.2 == 11))) ?_ ?_
        · rcases Bool.eq_false_or_eq_true ((r7.2 == 6) || (r7.2 == 14)) with hc13 | hc13
          · skip
            refine WL.idle (Idle.no rfl rfl rfl hc13) rfl rfl ?_
            refine WL.idle (Idle.no rfl rfl rfl hc13) rfl rfl ?_
            refine WL.quiet (Runs.free rfl) rfl rfl (OV.quiet (ov_pick_true rfl (guard_eq rfl hc13) rfl)) ?_
            exact WL.nil ⟨Sub.cons' rfl (congrArg Value.bool (by rw [hc13]; rfl)) (Sub.skip rfl (Sub.skip rfl (Sub.skip rfl (Sub.refl _)))), fun _ s => s⟩
          · skip
            refine WL.quiet (Runs.yes rfl rfl rfl hc13) rfl rfl (OV.quiet (ov_move rfl rfl)) ?_
            refine WL.quiet (Runs.yes rfl rfl rfl hc13) rfl rfl (OV.quiet (ov_eql rfl rfl rfl)) ?_
            refine WL.quiet (Runs.free rfl) rfl rfl (OV.quiet (ov_pick_false rfl (guard_eq rfl hc13) rfl)) ?_
            exact WL.nil ⟨Sub.cons' rfl (congrArg Value.bool (by rw [hc13]; rfl)) (Sub.skip rfl (Sub.skip rfl (Sub.skip rfl (Sub.refl _)))), fun _ s => s⟩
        refine WL.quiet (Runs.free rfl) rfl rfl (OV.quiet (ov_move rfl rfl)) ?_
        obtain ⟨c3, e10, hm⟩ := bind_some hm
        refine WL.cut_bool 2 75 (x := c3) ?_ ?_
        · rcases Bool.eq_false_or_eq_true (((r7.2 == 6) || (r7.2 == 14)) || (r7.2 == 11)) with hc14 | hc14
          · skip
            replace hm := ite_t hc14 e10
            obtain ⟨r8, e11, hm⟩ := bind_some hm
            refine WL.quiet (Runs.yes rfl rfl rfl hc14) rfl rfl (oq_con (r := (.bool r8)) Tryd.call9 rfl rfl (fun w' s => ⟨_, (law58_awake_con   w' H3 s.hold hG r8 e11)⟩)) ?_
            refine WL.quiet (Runs.free rfl) rfl rfl (OV.quiet (ov_pick_true rfl (guard_eq rfl hc14) rfl)) ?_
            exact WL.nil ⟨Sub.cons' rfl (congrArg Value.bool (Option.some.inj hm)) (Sub.skip rfl (Sub.skip rfl (Sub.refl _))), fun _ s => s⟩
          · skip
            replace hm := ite_f hc14 e10
            refine WL.idle (Idle.no rfl rfl rfl hc14) rfl rfl ?_
            refine WL.quiet (Runs.free rfl) rfl rfl (OV.quiet (ov_pick_false rfl (guard_eq rfl hc14) rfl)) ?_
            exact WL.nil ⟨Sub.cons' rfl (congrArg Value.bool (Option.some.inj hm)) (Sub.skip rfl (Sub.skip rfl (Sub.refl _))), fun _ s => s⟩
        refine WL.quiet (Runs.free rfl) rfl rfl (OV.quiet (ov_assign rfl rfl)) ?_
        refine WL.nil ?_
        refine then_normal ?_
        refine WP.ret ?_
        refine then_ret ?_
        obtain rfl := Option.some.inj hm
        refine retQ_ret Tryd.results7 (Res.tmp rfl Res.nil) rfl (fun w' s => ⟨s.below, ?_⟩)
        exact rfl
      · replace hm := ite_f hc11 hm
        refine WP.skip ?_
        refine then_normal ?_
        obtain ⟨k1, hk1, hm⟩ := joinK_some hm
        refine WP.seq_join (fun g' S' => ∃ (H9 : Heap), Le H3 H9 ∧ Sub [(4, (pB b1 0)), (7, (pB b2 0)), (10, (pB b3 0))] g' ∧ (∀ w', S' w' → St w H [.blk b3 24 [(.slice ao4 r7.1.items.length cap4), (.int .i64 r7.1.cycles)], .blk b2 24 [(.slice ao2 r4.1.items.length cap2), (.int .i64 r4.1.cycles)], .blk b1 26 [(.int .i64 p_x.kind), (mkS p_x.name), (.int .i64 p_x.count), (.int .i64 p_x.strokes)]] H9 w') ∧ k1 = some r) ?_ ?_
        · skip
          refine WP.seq ?_
          refine WP.region ?_
          refine WL.quiet (Runs.free rfl) rfl rfl (OV.quiet (ov_fieldAddr Tryd.underlying26 rfl rfl rfl Tryd.sizeOf3 rfl rfl)) ?_
          refine WL.quiet (Runs.free rfl) rfl rfl (OV.quiet (ov_load_box (i := 2) Tryd.isAgg3 rfl rfl rfl rfl)) ?_
          refine WL.quiet (Runs.free rfl) rfl rfl (OV.quiet (ov_gtr rfl rfl rfl)) ?_
          refine WL.nil ?_
          refine then_normal ?_
          refine WP.cond rfl (fun hc15 => ?_) (fun hc15 => ?_)
          · replace hm := ite_t hc15 hm
            refine WP.seq ?_
            refine WP.region ?_
            refine WL.quiet (Runs.free rfl) rfl rfl (OV.quiet (ov_move rfl rfl)) ?_
            refine WL.quiet (Runs.free rfl) rfl rfl (OV.quiet (ov_convert_int Tryd.underlying70 Tryd.underlying3 rfl rfl)) ?_
            refine WL.quiet (Runs.free rfl) rfl rfl (OV.quiet (ov_fieldAddr Tryd.underlying26 rfl rfl rfl Tryd.sizeOf3 rfl rfl)) ?_
            refine WL.quiet (Runs.free rfl) rfl rfl (OV.quiet (ov_load_box (i := 2) Tryd.isAgg3 rfl rfl rfl rfl)) ?_
            refine WL.quiet (Runs.free rfl) rfl rfl (OV.quiet (ov_sub rfl rfl rfl)) ?_
            obtain ⟨u1, e12, hm⟩ := bind_some hm
            replace e12 := guardO_some e12
            refine WL.quiet (Runs.free rfl) rfl rfl (OV.quiet (ov_rem rfl rfl rfl (by simpa using e12))) ?_
            refine WL.quiet (Runs.free rfl) rfl rfl (OV.quiet (ov_add rfl rfl rfl)) ?_
            refine WL.quiet (Runs.free rfl) rfl rfl (OV.quiet (ov_assign rfl rfl)) ?_
            refine WL.nil ?_
            refine then_normal ?_
            obtain ⟨k2, hk2, hm⟩ := joinK_some hm
            refine WP.seq_join (fun g' S' => ∃ (b8 : Nat) (b9 : Nat), Sub [(4, (pB b1 0)), (7, (pB b2 0)), (10, (pB b3 0)), (11, (.int .i64 (IntKind.wrap .i64 ((Int.tmod (IntKind.wrap .i64 p_first) (IntKind.wrap .i64 (p_x.count - 1))) + 1)))), (12, (pB b8 0)), (13, (pB b9 0))] g' ∧ (∀ w', S' w' → St w H [.blk b9 26 [(.int .i64 p_x.kind), (mkS p_x.name), (.int .i64 p_x.count), (.int .i64 p_x.strokes)], .blk b8 26 [(.int .i64 p_x.kind), (mkS p_x.name), (.int .i64 p_x.count), (.int .i64 p_x.strokes)], .blk b3 24 [(.slice ao4 r7.1.items.length cap4), (.int .i64 r7.1.cycles)], .blk b2 24 [(.slice ao2 r4.1.items.length cap2), (.int .i64 r4.1.cycles)], .blk b1 26 [(.int .i64 p_x.kind), (mkS p_x.name), (.int .i64 p_x.count), (.int .i64 p_x.strokes)]] H3 w') ∧ k2 = some r) ?_ ?_
            · skip
              refine WP.region_any (S₀ := St w H [.blk b3 24 [(.slice ao4 r7.1.items.length cap4), (.int .i64 r7.1.cycles)], .blk b2 24 [(.slice ao2 r4.1.items.length cap2), (.int .i64 r4.1.cycles)], .blk b1 26 [(.int .i64 p_x.kind), (mkS p_x.name), (.int .i64 p_x.count), (.int .i64 p_x.strokes)]] H3) 6 rfl (by kernel_rfl) (fun w' s => s) (fun _ s => s.drew) ?_
              refine AL.take (i := 0) rfl (by kernel_rfl) (by kernel_rfl) (by kernel_rfl) (Runs.free rfl) rfl rfl (ov_load_whole (i := 2) Tryd.isAgg26 Tryd.sizeOf26 rfl rfl rfl rfl) ?_
              refine AL.take (i := 1) rfl (by kernel_rfl) (by kernel_rfl) (by kernel_rfl) (Runs.free rfl) rfl rfl (ov_load_whole (i := 2) Tryd.isAgg26 Tryd.sizeOf26 rfl rfl rfl rfl) ?_
              refine AL.any (rs := [2, 3]) (by kernel_rfl) (by decide) ?_
              refine ALs.cons (i := 2) rfl (Runs.free rfl) rfl rfl ?_ ?_
              · skip
                refine os_alloc (cs := [(.int .i64 0), (mkS []), (.int .i64 0), (.int .i64 0)]) Tryd.zeroValue26 rfl rfl (fun b4 => ?_)
                refine ⟨fun w' s => (s.select [1, 2, 3] (by decide) rfl), ?_⟩
                refine AL.any (rs := [3]) (by kernel_rfl) (by decide) ?_
                refine ALs.cons (i := 3) rfl (Runs.free rfl) rfl rfl ?_ ?_
                · skip
                  refine os_alloc (cs := [(.int .i64 0), (mkS []), (.int .i64 0), (.int .i64 0)]) Tryd.zeroValue26 rfl rfl (fun b5 => ?_)
                  refine ⟨fun w' s => (s.select [2, 3, 4] (by decide) rfl), ?_⟩
                  refine AL.any (rs := [4]) (by kernel_rfl) (by decide) ?_
                  refine ALs.cons0 (i := 4) rfl (Runs.free rfl) rfl ?_ ?_
                  · skip
                    refine os_store (i := 1) (vs := [(.int .i64 p_x.kind), (mkS p_x.name), (.int .i64 p_x.count), (.int .i64 p_x.strokes)]) (cs' := [(.int .i64 p_x.kind), (mkS p_x.name), (.int .i64 p_x.count), (.int .i64 p_x.strokes)]) Tryd.sizeOf26 rfl rfl rfl rfl rfl rfl rfl rfl rfl ?_
                    refine ⟨fun w' s => (s.select [2, 3, 4] (by decide) rfl), ?_⟩
                    refine AL.any (rs := [5]) (by kernel_rfl) (by decide) ?_
                    refine ALs.cons0 (i := 5) rfl (Runs.free rfl) rfl ?_ ?_
                    · skip
                      refine os_store (i := 0) (vs := [(.int .i64 p_x.kind), (mkS p_x.name), (.int .i64 p_x.count), (.int .i64 p_x.strokes)]) (cs' := [(.int .i64 p_x.kind), (mkS p_x.name), (.int .i64 p_x.count), (.int .i64 p_x.strokes)]) Tryd.sizeOf26 rfl rfl rfl rfl rfl rfl rfl rfl rfl ?_
                      refine ⟨fun w' s => (s.select [2, 3, 4] (by decide) rfl), ?_⟩
                      refine AL.done (by kernel_rfl) ?_
                      refine then_normal ?_
                      exact ⟨b4, b5, (Sub.cons rfl (Sub.cons rfl (Sub.cons rfl (Sub.cons rfl (Sub.cons rfl (Sub.cons rfl (Sub.nil _))))))), fun w' s => s, hm⟩
                    exact ALs.nil
                  exact ALs.nil
                exact ALs.nil
              refine ALs.cons (i := 3) rfl (Runs.free rfl) rfl rfl ?_ ?_
              · skip
                refine os_alloc (cs := [(.int .i64 0), (mkS []), (.int .i64 0), (.int .i64 0)]) Tryd.zeroValue26 rfl rfl (fun b6 => ?_)
                refine ⟨fun w' s => (s.select [1, 2, 3] (by decide) rfl), ?_⟩
                refine AL.any (rs := [2]) (by kernel_rfl) (by decide) ?_
                refine ALs.cons (i := 2) rfl (Runs.free rfl) rfl rfl ?_ ?_
                · skip
                  refine os_alloc (cs := [(.int .i64 0), (mkS []), (.int .i64 0), (.int .i64 0)]) Tryd.zeroValue26 rfl rfl (fun b7 => ?_)
                  refine ⟨fun w' s => (s.select [2, 3, 4] (by decide) rfl), ?_⟩
                  refine AL.any (rs := [4]) (by kernel_rfl) (by decide) ?_
                  refine ALs.cons0 (i := 4) rfl (Runs.free rfl) rfl ?_ ?_
                  · skip
                    refine os_store (i := 0) (vs := [(.int .i64 p_x.kind), (mkS p_x.name), (.int .i64 p_x.count), (.int .i64 p_x.strokes)]) (cs' := [(.int .i64 p_x.kind), (mkS p_x.name), (.int .i64 p_x.count), (.int .i64 p_x.strokes)]) Tryd.sizeOf26 rfl rfl rfl rfl rfl rfl rfl rfl rfl ?_
                    refine ⟨fun w' s => (s.select [2, 3, 4] (by decide) rfl), ?_⟩
                    refine AL.any (rs := [5]) (by kernel_rfl) (by decide) ?_
                    refine ALs.cons0 (i := 5) rfl (Runs.free rfl) rfl ?_ ?_
                    · skip
                      refine os_store (i := 1) (vs := [(.int .i64 p_x.kind), (mkS p_x.name), (.int .i64 p_x.count), (.int .i64 p_x.strokes)]) (cs' := [(.int .i64 p_x.kind), (mkS p_x.name), (.int .i64 p_x.count), (.int .i64 p_x.strokes)]) Tryd.sizeOf26 rfl rfl rfl rfl rfl rfl rfl rfl rfl ?_
                      refine ⟨fun w' s => (s.select [2, 3, 4] (by decide) rfl), ?_⟩
                      refine AL.done (by kernel_rfl) ?_
                      refine then_normal ?_
                      exact ⟨b7, b6, (Sub.cons rfl (Sub.cons rfl (Sub.cons rfl (Sub.cons rfl (Sub.cons rfl (Sub.cons rfl (Sub.nil _))))))), fun w' s => (s.select [1, 0, 2, 3, 4] (by decide) rfl), hm⟩
                    exact ALs.nil
                  exact ALs.nil
                exact ALs.nil
              exact ALs.nil
            · rintro g' S' ⟨b8, b9, hsub1, hS1, hm⟩
              refine WP.sub hsub1 (WP.weaken hS1 ?_)
              replace hm := hk2.symm.trans hm
              refine WP.seq ?_
              refine WP.region_any (S₀ := St w H [.blk b3 24 [(.slice ao4 r7.1.items.length cap4), (.int .i64 r7.1.cycles)], .blk b2 24 [(.slice ao2 r4.1.items.length cap2), (.int .i64 r4.1.cycles)], .blk b1 26 [(.int .i64 p_x.kind), (mkS p_x.name), (.int .i64 p_x.count), (.int .i64 p_x.strokes)]] H3) 9 rfl (by kernel_rfl) (fun w' s => (s.select [2, 3, 4] (by decide) rfl)) (fun _ s => s.drew) ?_
              refine AL.take (i := 0) rfl (by kernel_rfl) (by kernel_rfl) (by kernel_rfl) (Runs.free rfl) rfl rfl (ov_move rfl rfl) ?_
              refine AL.take (i := 1) rfl (by kernel_rfl) (by kernel_rfl) (by kernel_rfl) (Runs.free rfl) rfl rfl (ov_fieldAddr Tryd.underlying26 rfl rfl rfl Tryd.sizeOf3 rfl rfl) ?_
              refine AL.take (i := 2) rfl (by kernel_rfl) (by kernel_rfl) (by kernel_rfl) (Runs.free rfl) rfl rfl (ov_load_box (i := 2) Tryd.isAgg3 rfl rfl rfl rfl) ?_
              refine AL.take (i := 3) rfl (by kernel_rfl) (by kernel_rfl) (by kernel_rfl) (Runs.free rfl) rfl rfl (ov_move rfl rfl) ?_
              refine AL.take (i := 4) rfl (by kernel_rfl) (by kernel_rfl) (by kernel_rfl) (Runs.free rfl) rfl rfl (ov_sub rfl rfl rfl) ?_
              refine AL.take (i := 5) rfl (by kernel_rfl) (by kernel_rfl) (by kernel_rfl) (Runs.free rfl) rfl rfl (ov_fieldAddr Tryd.underlying26 rfl rfl rfl Tryd.sizeOf3 rfl rfl) ?_
              refine AL.any (rs := [6]) (by kernel_rfl) (by decide) ?_
              refine ALs.cons0 (i := 6) rfl (Runs.free rfl) rfl ?_ ?_
              · skip
                refine os_store (i := 1) (vs := [(.int .i64 (IntKind.wrap .i64 ((Int.tmod (IntKind.wrap .i64 p_first) (IntKind.wrap .i64 (p_x.count - 1))) + 1)))]) (cs' := [(.int .i64 p_x.kind), (mkS p_x.name), (.int .i64 (IntKind.wrap .i64 ((Int.tmod (IntKind.wrap .i64 p_first) (IntKind.wrap .i64 (p_x.count - 1))) + 1))), (.int .i64 p_x.strokes)]) Tryd.sizeOf3 rfl rfl rfl rfl rfl rfl rfl rfl rfl ?_
                refine ⟨fun w' s => (s.select [2, 3, 4] (by decide) rfl), ?_⟩
                refine AL.take (i := 7) rfl (by kernel_rfl) (by kernel_rfl) (by kernel_rfl) (Runs.free rfl) rfl rfl (ov_fieldAddr Tryd.underlying26 rfl rfl rfl Tryd.sizeOf3 rfl rfl) ?_
                refine AL.any (rs := [8]) (by kernel_rfl) (by decide) ?_
                refine ALs.cons0 (i := 8) rfl (Runs.free rfl) rfl ?_ ?_
                · skip
                  refine os_store (i := 0) (vs := [(.int .i64 (IntKind.wrap .i64 (p_x.count - (IntKind.wrap .i64 ((Int.tmod (IntKind.wrap .i64 p_first) (IntKind.wrap .i64 (p_x.count - 1))) + 1)))))]) (cs' := [(.int .i64 p_x.kind), (mkS p_x.name), (.int .i64 (IntKind.wrap .i64 (p_x.count - (IntKind.wrap .i64 ((Int.tmod (IntKind.wrap .i64 p_first) (IntKind.wrap .i64 (p_x.count - 1))) + 1))))), (.int .i64 p_x.strokes)]) Tryd.sizeOf3 rfl rfl rfl rfl rfl rfl rfl rfl rfl ?_
                  refine ⟨fun w' s => (s.select [2, 3, 4] (by decide) rfl), ?_⟩
                  refine AL.done (by kernel_rfl) ?_
                  refine then_normal ?_
                  refine WP.seq ?_
                  refine WP.region ?_
                  refine WL.quiet (Runs.free rfl) rfl rfl (OV.quiet (ov_load_whole (i := 3) Tryd.isAgg24 Tryd.sizeOf24 rfl rfl rfl rfl)) ?_
                  refine WL.quiet (Runs.free rfl) rfl rfl (OV.quiet (ov_load_whole (i := 1) Tryd.isAgg26 Tryd.sizeOf26 rfl rfl rfl rfl)) ?_
                  obtain ⟨r9, e13, hm⟩ := bind_some hm
                  refine WL.step (Runs.free rfl) rfl rfl (os_con Tryd.call10 rfl rfl (fun w' s => (journal_Do_con r4.1 (Entry.mk p_x.kind p_x.name (IntKind.wrap .i64 ((Int.tmod (IntKind.wrap .i64 p_first) (IntKind.wrap .i64 (p_x.count - 1))) + 1)) p_x.strokes) ao2 cap2  w' H3 s.hold h2 hc6 hG r9 e13)) (fun rr4 H4 hle4 hR4 => ?_))
                  replace h2 := h2.mono hle4
                  replace h4 := h4.mono hle4
                  replace hG := hG.mono hle4
                  obtain ⟨ao5, cap5, rfl, h5, hc16⟩ := hR4
                  refine WL.quiet (Runs.free rfl) rfl rfl (OV.quiet (ov_move rfl rfl)) ?_
                  refine WL.quiet (Runs.free rfl) rfl rfl (OV.quiet (ov_extract rfl rfl rfl)) ?_
                  refine WL.quiet (Runs.free rfl) rfl rfl (OV.quiet (ov_extract rfl rfl rfl)) ?_
                  refine WL.step (Runs.free rfl) rfl rfl (os_alloc (cs := [(.slice none 0 0), (.int .i64 0)]) Tryd.zeroValue24 rfl rfl (fun b10 => ?_))
                  refine WL.step0 (Runs.free rfl) rfl (os_store (i := 0) (vs := [(.slice ao5 r9.1.items.length cap5), (.int .i64 r9.1.cycles)]) (cs' := [(.slice ao5 r9.1.items.length cap5), (.int .i64 r9.1.cycles)]) Tryd.sizeOf24 rfl rfl rfl rfl rfl rfl rfl rfl rfl ?_)
                  refine WL.quiet (Runs.free rfl) rfl rfl (OV.quiet (ov_assign rfl rfl)) ?_
                  refine WL.nil ?_
                  refine then_normal ?_
                  refine WP.seq ?_
                  refine WP.region ?_
                  refine WL.quiet (Runs.free rfl) rfl rfl (OV.quiet (ov_load_whole (i := 0) Tryd.isAgg24 Tryd.sizeOf24 rfl rfl rfl rfl)) ?_
                  refine WL.quiet (Runs.free rfl) rfl rfl (OV.quiet (ov_load_whole (i := 1) Tryd.isAgg26 Tryd.sizeOf26 rfl rfl rfl rfl)) ?_
                  obtain ⟨r10, e14, hm⟩ := bind_some hm
                  refine WL.step (Runs.free rfl) rfl rfl (os_con Tryd.call10 rfl rfl (fun w' s => (journal_Do_con r9.1 (Entry.mk p_x.kind p_x.name (IntKind.wrap .i64 (p_x.count - (IntKind.wrap .i64 ((Int.tmod (IntKind.wrap .i64 p_first) (IntKind.wrap .i64 (p_x.count - 1))) + 1)))) p_x.strokes) ao5 cap5  w' H4 s.hold h5 hc16 hG r10 e14)) (fun rr5 H5 hle5 hR5 => ?_))
                  replace h2 := h2.mono hle5
                  replace h5 := h5.mono hle5
                  replace h4 := h4.mono hle5
                  replace hG := hG.mono hle5
                  obtain ⟨ao6, cap6, rfl, h6, hc17⟩ := hR5
                  refine WL.quiet (Runs.free rfl) rfl rfl (OV.quiet (ov_move rfl rfl)) ?_
                  refine WL.quiet (Runs.free rfl) rfl rfl (OV.quiet (ov_extract rfl rfl rfl)) ?_
                  refine WL.quiet (Runs.free rfl) rfl rfl (OV.quiet (ov_extract rfl rfl rfl)) ?_
                  refine WL.step (Runs.free rfl) rfl rfl (os_alloc (cs := [(.slice none 0 0), (.int .i64 0)]) Tryd.zeroValue24 rfl rfl (fun b11 => ?_))
                  refine WL.step0 (Runs.free rfl) rfl (os_store (i := 0) (vs := [(.slice ao6 r10.1.items.length cap6), (.int .i64 r10.1.cycles)]) (cs' := [(.slice ao6 r10.1.items.length cap6), (.int .i64 r10.1.cycles)]) Tryd.sizeOf24 rfl rfl rfl rfl rfl rfl rfl rfl rfl ?_)
                  refine WL.quiet (Runs.free rfl) rfl rfl (OV.quiet (ov_assign rfl rfl)) ?_
                  refine WL.nil ?_
                  refine then_normal ?_
                  obtain ⟨k3, hk3, hm⟩ := joinK_some hm
                  refine WP.seq_join (fun g' S' => ∃ (H8 : Heap) (c4 : Bool), Le H5 H8 ∧ Sub [(4, (pB b1 0)), (7, (pB b2 0)), (10, (pB b3 0)), (118, (.bool c4))] g' ∧ (∀ w', S' w' → St w H [.blk b3 24 [(.slice ao4 r7.1.items.length cap4), (.int .i64 r7.1.cycles)], .blk b2 24 [(.slice ao2 r4.1.items.length cap2), (.int .i64 r4.1.cycles)], .blk b1 26 [(.int .i64 p_x.kind), (mkS p_x.name), (.int .i64 p_x.count), (.int .i64 p_x.strokes)]] H8 w') ∧ k3 c4 = some r) ?_ ?_
                  · skip
                    refine WP.region_any (S₀ := St w H [.blk b11 24 [(.slice ao6 r10.1.items.length cap6), (.int .i64 r10.1.cycles)], .blk b10 24 [(.slice ao5 r9.1.items.length cap5), (.int .i64 r9.1.cycles)], .blk b9 26 [(.int .i64 p_x.kind), (mkS p_x.name), (.int .i64 (IntKind.wrap .i64 (p_x.count - (IntKind.wrap .i64 ((Int.tmod (IntKind.wrap .i64 p_first) (IntKind.wrap .i64 (p_x.count - 1))) + 1))))), (.int .i64 p_x.strokes)], .blk b8 26 [(.int .i64 p_x.kind), (mkS p_x.name), (.int .i64 (IntKind.wrap .i64 ((Int.tmod (IntKind.wrap .i64 p_first) (IntKind.wrap .i64 (p_x.count - 1))) + 1))), (.int .i64 p_x.strokes)], .blk b3 24 [(.slice ao4 r7.1.items.length cap4), (.int .i64 r7.1.cycles)], .blk b2 24 [(.slice ao2 r4.1.items.length cap2), (.int .i64 r4.1.cycles)], .blk b1 26 [(.int .i64 p_x.kind), (mkS p_x.name), (.int .i64 p_x.count), (.int .i64 p_x.strokes)]] H5) 12 rfl (by kernel_rfl) (fun w' s => s) (fun _ s => s.drew) ?_
                    refine AL.take (i := 0) rfl (by kernel_rfl) (by kernel_rfl) (by kernel_rfl) (Runs.free rfl) rfl rfl (ov_move rfl rfl) ?_
                    refine AL.take (i := 1) rfl (by kernel_rfl) (by kernel_rfl) (by kernel_rfl) (Runs.free rfl) rfl rfl (ov_move rfl rfl) ?_
                    refine AL.take (i := 2) rfl (by kernel_rfl) (by kernel_rfl) (by kernel_rfl) (Runs.free rfl) rfl rfl (ov_add rfl rfl rfl) ?_
                    refine AL.take (i := 3) rfl (by kernel_rfl) (by kernel_rfl) (by kernel_rfl) (Runs.free rfl) rfl rfl (ov_neq rfl rfl rfl) ?_
                    refine AL.take (i := 4) rfl (by kernel_rfl) (by kernel_rfl) (by kernel_rfl) (Runs.free rfl) rfl rfl (ov_move rfl rfl) ?_
                    rcases Bool.eq_false_or_eq_true ((IntKind.wrap .i64 (r9.2 + r10.2)) != 0) with hc18 | hc18
                    · replace hm := ite_t hc18 hm
                      refine AL.idle (i := 5) rfl (by kernel_rfl) (by kernel_rfl) (by kernel_rfl) (Idle.no rfl rfl rfl hc18) rfl rfl ?_
                      refine AL.idle (i := 6) rfl (by kernel_rfl) (by kernel_rfl) (by kernel_rfl) (Idle.no rfl rfl rfl hc18) rfl rfl ?_
                      refine AL.idle (i := 7) rfl (by kernel_rfl) (by kernel_rfl) (by kernel_rfl) (Idle.no rfl rfl rfl hc18) rfl rfl ?_
                      refine AL.idle (i := 8) rfl (by kernel_rfl) (by kernel_rfl) (by kernel_rfl) (Idle.no rfl rfl rfl hc18) rfl rfl ?_
                      refine AL.idle (i := 9) rfl (by kernel_rfl) (by kernel_rfl) (by kernel_rfl) (Idle.no rfl rfl rfl hc18) rfl rfl ?_
                      refine AL.idle (i := 10) rfl (by kernel_rfl) (by kernel_rfl) (by kernel_rfl) (Idle.no rfl rfl rfl hc18) rfl rfl ?_
                      refine AL.take (i := 11) rfl (by kernel_rfl) (by kernel_rfl) (by kernel_rfl) (Runs.free rfl) rfl rfl (ov_pick_true rfl (guard_eq rfl hc18) rfl) ?_
                      refine AL.done (by kernel_rfl) ?_
                      refine then_normal ?_
                      exact ⟨H5, true, (Le.refl _), (Sub.cons rfl (Sub.cons rfl (Sub.cons rfl (Sub.cons rfl (Sub.nil _))))), fun w' s => (s.select [4, 5, 6] (by decide) rfl), hm⟩
                    · replace hm := ite_f hc18 hm
                      refine AL.take (i := 5) rfl (by kernel_rfl) (by kernel_rfl) (by kernel_rfl) (Runs.yes rfl rfl rfl hc18) rfl rfl (ov_load_whole (i := 0) Tryd.isAgg24 Tryd.sizeOf24 rfl rfl rfl rfl) ?_
                      refine AL.take (i := 7) rfl (by kernel_rfl) (by kernel_rfl) (by kernel_rfl) (Runs.yes rfl rfl rfl hc18) rfl rfl (ov_load_whole (i := 4) Tryd.isAgg24 Tryd.sizeOf24 rfl rfl rfl rfl) ?_
                      refine AL.any (rs := [6]) (by kernel_rfl) (by decide) ?_
                      refine ALs.cons (i := 6) rfl (Runs.yes rfl rfl rfl hc18) rfl rfl ?_ ?_
                      · skip
                        obtain ⟨r11, e15, hm⟩ := bind_some hm
                        refine os_con Tryd.call12 rfl rfl (fun w' s => (law58_own_con r10.1 ao6 cap6  w' H5 s.hold h6 hc17 hG r11 e15)) (fun rr6 H6 hle6 hR6 => ?_)
                        replace h2 := h2.mono hle6
                        replace h5 := h5.mono hle6
                        replace h6 := h6.mono hle6
                        replace h4 := h4.mono hle6
                        replace hG := hG.mono hle6
                        obtain ⟨ao7, cap7, rfl, h7, hc19⟩ := hR6
                        refine ⟨fun w' s => (s.heap hle6), ?_⟩
                        refine AL.any (rs := [8]) (by kernel_rfl) (by decide) ?_
                        refine ALs.cons (i := 8) rfl (Runs.yes rfl rfl rfl hc18) rfl rfl ?_ ?_
                        · skip
                          obtain ⟨r12, e16, hm⟩ := bind_some hm
                          refine os_con Tryd.call12 rfl rfl (fun w' s => (law58_own_con r7.1 ao4 cap4  w' H6 s.hold h4 hc10 hG r12 e16)) (fun rr7 H7 hle7 hR7 => ?_)
                          replace h2 := h2.mono hle7
                          replace h5 := h5.mono hle7
                          replace h6 := h6.mono hle7
                          replace h4 := h4.mono hle7
                          replace h7 := h7.mono hle7
                          replace hG := hG.mono hle7
                          obtain ⟨ao8, cap8, rfl, h8, hc20⟩ := hR7
                          refine ⟨fun w' s => (s.heap (hle6.trans hle7)), ?_⟩
                          refine AL.any (rs := [9]) (by kernel_rfl) (by decide) ?_
                          refine ALs.cons (i := 9) rfl (Runs.yes rfl rfl rfl hc18) rfl rfl ?_ ?_
                          · skip
                            obtain ⟨r13, e17, hm⟩ := bind_some hm
                            refine OQ.step (oq_con (r := (.bool r13)) Tryd.call17 rfl rfl (fun w' s => ⟨_, (ref58_Same_con r11 r12 ao7 cap7 ao8 cap8  w' H7 s.hold h7 hc19 h8 hc20 hG r13 e17)⟩)) ?_
                            refine ⟨fun w' s => (s.heap (hle6.trans hle7)), ?_⟩
                            refine AL.take (i := 10) rfl (by kernel_rfl) (by kernel_rfl) (by kernel_rfl) (Runs.yes rfl rfl rfl hc18) rfl rfl (ov_not rfl rfl) ?_
                            refine AL.take (i := 11) rfl (by kernel_rfl) (by kernel_rfl) (by kernel_rfl) (Runs.free rfl) rfl rfl (ov_pick_false rfl (guard_eq rfl hc18) rfl) ?_
                            refine AL.done (by kernel_rfl) ?_
                            refine then_normal ?_
                            exact ⟨H7, (!r13), (hle6.trans hle7), (Sub.cons rfl (Sub.cons rfl (Sub.cons rfl (Sub.cons rfl (Sub.nil _))))), fun w' s => (s.select [4, 5, 6] (by decide) rfl), hm⟩
                          exact ALs.nil
                        exact ALs.nil
                      exact ALs.nil
                  · rintro g' S' ⟨H8, c4, hle8, hsub2, hS2, hm⟩
                    refine WP.sub hsub2 (WP.weaken hS2 ?_)
                    replace hm := (congrFun hk3 c4).symm.trans hm
                    replace h4 := h4.mono hle8
                    replace h2 := h2.mono hle8
                    replace hG := hG.mono hle8
                    refine WP.cond rfl (fun hc21 => ?_) (fun hc21 => ?_)
                    · replace hm := ite_t hc21 hm
                      refine WP.seq ?_
                      refine WP.region ?_
                      refine WL.quiet (Runs.free rfl) rfl rfl (OV.quiet (ov_assign rfl rfl)) ?_
                      refine WL.nil ?_
                      refine then_normal ?_
                      refine WP.ret ?_
                      refine then_ret ?_
                      obtain rfl := Option.some.inj hm
                      refine retQ_ret Tryd.results7 (Res.tmp rfl Res.nil) rfl (fun w' s => ⟨s.below, ?_⟩)
                      exact rfl
                    · replace hm := ite_f hc21 hm
                      refine WP.skip ?_
                      refine then_normal ?_
                      exact ⟨H8, ((hle4.trans hle5).trans hle8), (Sub.cons rfl (Sub.cons rfl (Sub.cons rfl (Sub.nil _)))), fun w' s => s, hm⟩
                exact ALs.nil
              exact ALs.nil
          · replace hm := ite_f hc15 hm
            refine WP.skip ?_
            refine then_normal ?_
            exact ⟨H3, (Le.refl _), (Sub.cons rfl (Sub.cons rfl (Sub.cons rfl (Sub.nil _)))), fun w' s => s, hm⟩
        · rintro g' S' ⟨H9, hle9, hsub3, hS3, hm⟩
          refine WP.sub hsub3 (WP.weaken hS3 ?_)
          replace hm := hk1.symm.trans hm
          replace h4 := h4.mono hle9
          replace h2 := h2.mono hle9
          replace hG := hG.mono hle9
          refine WP.seq ?_
          refine WP.seq ?_
          refine WP.region ?_
          refine WL.quiet (Runs.free rfl) rfl rfl (OV.quiet (ov_fieldAddr Tryd.underlying26 rfl rfl rfl Tryd.sizeOf3 rfl rfl)) ?_
          refine WL.quiet (Runs.free rfl) rfl rfl (OV.quiet (ov_load_box (i := 2) Tryd.isAgg3 rfl rfl rfl rfl)) ?_
          refine WL.quiet (Runs.free rfl) rfl rfl (OV.quiet (ov_eql rfl rfl rfl)) ?_
          refine WL.nil ?_
          refine then_normal ?_
          refine WP.cond rfl (fun hc22 => ?_) (fun hc22 => ?_)
          · replace hm := ite_t hc22 hm
            refine WP.seq ?_
            refine WP.region ?_
            obtain ⟨r14, e18, hm⟩ := bind_some hm
            refine WL.quiet (Runs.free rfl) rfl rfl (oq_con (r := (.bool r14)) Tryd.call9 rfl rfl (fun w' s => ⟨_, (law58_awake_con   w' H9 s.hold hG r14 e18)⟩)) ?_
            refine WL.quiet (Runs.free rfl) rfl rfl (OV.quiet (ov_assign rfl rfl)) ?_
            refine WL.nil ?_
            refine then_normal ?_
            refine WP.ret ?_
            refine then_ret ?_
            obtain rfl := Option.some.inj hm
            refine retQ_ret Tryd.results7 (Res.tmp rfl Res.nil) rfl (fun w' s => ⟨s.below, ?_⟩)
            exact rfl
          · replace hm := ite_f hc22 hm
            refine WP.skip ?_
            refine then_normal ?_
            refine WP.seq ?_
            refine WP.region ?_
            refine WL.quiet (Runs.free rfl) rfl rfl (OV.quiet (ov_load_whole (i := 1) Tryd.isAgg24 Tryd.sizeOf24 rfl rfl rfl rfl)) ?_
            refine WL.quiet (Runs.free rfl) rfl rfl (OV.quiet (ov_fieldAddr Tryd.underlying26 rfl rfl rfl Tryd.sizeOf9 rfl rfl)) ?_
            refine WL.quiet (Runs.free rfl) rfl rfl (OV.quiet (ov_load_box (i := 2) Tryd.isAgg9 rfl rfl rfl rfl)) ?_
            refine WL.quiet (Runs.free rfl) rfl rfl (OV.quiet (ov_fieldAddr Tryd.underlying26 rfl rfl rfl Tryd.sizeOf3 rfl rfl)) ?_
            refine WL.quiet (Runs.free rfl) rfl rfl (OV.quiet (ov_load_box (i := 2) Tryd.isAgg3 rfl rfl rfl rfl)) ?_
            obtain ⟨r15, e19, hm⟩ := bind_some hm
            refine WL.quiet (Runs.free rfl) rfl rfl (oq_con (r := (.tuple #[(.int .i64 r15.1), (.int .i64 r15.2)])) Tryd.call20 rfl rfl (fun w' s => ⟨_, (journal_Left_con r4.1 p_x.name p_x.strokes ao2 cap2  w' H9 s.hold h2 hc6 hG r15 e19)⟩)) ?_
            refine WL.quiet (Runs.free rfl) rfl rfl (OV.quiet (ov_move rfl rfl)) ?_
            refine WL.quiet (Runs.free rfl) rfl rfl (OV.quiet (ov_extract rfl rfl rfl)) ?_
            refine WL.quiet (Runs.free rfl) rfl rfl (OV.quiet (ov_extract rfl rfl rfl)) ?_
            refine WL.quiet (Runs.free rfl) rfl rfl (OV.quiet (ov_assign rfl rfl)) ?_
            refine WL.quiet (Runs.free rfl) rfl rfl (OV.quiet (ov_assign rfl rfl)) ?_
            refine WL.nil ?_
            refine then_normal ?_
            refine WP.seq ?_
            refine WP.region ?_
            refine WL.quiet (Runs.free rfl) rfl rfl (OV.quiet (ov_load_whole (i := 0) Tryd.isAgg24 Tryd.sizeOf24 rfl rfl rfl rfl)) ?_
            obtain ⟨r16, e20, hm⟩ := bind_some hm
            refine WL.step (Runs.free rfl) rfl rfl (os_con Tryd.call18 rfl rfl (fun w' s => (journal_Due_con r7.1 ao4 cap4  w' H9 s.hold h4 hc10 hG r16 e20)) (fun rr8 H10 hle10 hR8 => ?_))
            replace h2 := h2.mono hle10
            replace h4 := h4.mono hle10
            replace hG := hG.mono hle10
            obtain ⟨ao9, cap9, rfl, h9, hc23⟩ := hR8
            refine WL.quiet (Runs.free rfl) rfl rfl (OV.quiet (ov_move rfl rfl)) ?_
            refine WL.quiet (Runs.free rfl) rfl rfl (OV.quiet (ov_extract rfl rfl rfl)) ?_
            refine WL.quiet (Runs.free rfl) rfl rfl (OV.quiet (ov_extract rfl rfl rfl)) ?_
            refine WL.quiet (Runs.free rfl) rfl rfl (OV.quiet (ov_assign rfl rfl)) ?_
            refine WL.quiet (Runs.free rfl) rfl rfl (OV.quiet (ov_assign rfl rfl)) ?_
            refine WL.nil ?_
            refine then_normal ?_
            refine WP.seq ?_
            refine WP.region_draws (by kernel_rfl) (by kernel_rfl) (fun _ s => s.drew) ?_
            refine QL.quiet (Runs.free rfl) rfl rfl (OV.quiet (ov_move rfl rfl)) ?_
            refine QL.quiet (Runs.free rfl) rfl rfl (OV.quiet (ov_move rfl rfl)) ?_
            refine QL.quiet (Runs.free rfl) rfl rfl (OV.quiet (ov_add rfl rfl rfl)) ?_
            refine QL.quiet (Runs.free rfl) rfl rfl (OV.quiet (ov_eql rfl rfl rfl)) ?_
            refine QL.quiet (Runs.free rfl) rfl rfl (OV.quiet (ov_move rfl rfl)) ?_
            obtain ⟨c5, e21, hm⟩ := bind_some hm
            refine QL.part_bool 10 151 (x := c5) ?_ ?_
            · rcases Bool.eq_false_or_eq_true ((IntKind.wrap .i64 (r15.2 + r16.2)) == 0) with hc24 | hc24
              · skip
                replace hm := ite_t hc24 e21
                refine QL.quiet (Runs.yes rfl rfl rfl hc24) rfl rfl (OV.quiet (ov_move rfl rfl)) ?_
                refine QL.quiet (Runs.yes rfl rfl rfl hc24) rfl rfl (OV.quiet (ov_fieldAddr Tryd.underlying26 rfl rfl rfl Tryd.sizeOf9 rfl rfl)) ?_
                refine QL.quiet (Runs.yes rfl rfl rfl hc24) rfl rfl (OV.quiet (ov_load_box (i := 2) Tryd.isAgg9 rfl rfl rfl rfl)) ?_
                obtain ⟨r17, e22, hm⟩ := bind_some hm
                refine QL.quiet (Runs.yes rfl rfl rfl hc24) rfl rfl (oq_con (r := (.bool r17)) Tryd.call30 rfl rfl (fun w' s => ⟨_, (slices_Contains_stringstring_con r16.1 p_x.name ao9 cap9  w' H10 s.hold h9 hc23 hG r17 e22)⟩)) ?_
                refine QL.quiet (Runs.yes rfl rfl rfl hc24) rfl rfl (OV.quiet (ov_fieldAddr Tryd.underlying26 rfl rfl rfl Tryd.sizeOf3 rfl rfl)) ?_
                refine QL.quiet (Runs.yes rfl rfl rfl hc24) rfl rfl (OV.quiet (ov_load_box (i := 2) Tryd.isAgg3 rfl rfl rfl rfl)) ?_
                refine QL.quiet (Runs.yes rfl rfl rfl hc24) rfl rfl (OV.quiet (ov_move rfl rfl)) ?_
                refine QL.quiet (Runs.yes rfl rfl rfl hc24) rfl rfl (OV.quiet (ov_geq rfl rfl rfl)) ?_
                refine QL.quiet (Runs.yes rfl rfl rfl hc24) rfl rfl (OV.quiet (ov_beql Tryd.underlying4 rfl rfl rfl)) ?_
                refine QL.quiet (Runs.free rfl) rfl rfl (OV.quiet (ov_pick_true rfl (guard_eq rfl hc24) rfl)) ?_
                exact QL.nil (Sub.cons' rfl (congrArg Value.bool (Option.some.inj hm)) (Sub.skip rfl (Sub.skip rfl (Sub.skip rfl (Sub.skip rfl (Sub.skip rfl (Sub.skip rfl (Sub.skip rfl (Sub.skip rfl (Sub.skip rfl (Sub.skip rfl (Sub.refl _))))))))))))
              · skip
                replace hm := ite_f hc24 e21
                refine QL.idle (Idle.no rfl rfl rfl hc24) rfl rfl ?_
                refine QL.idle (Idle.no rfl rfl rfl hc24) rfl rfl ?_
                refine QL.idle (Idle.no rfl rfl rfl hc24) rfl rfl ?_
                refine QL.idle (Idle.no rfl rfl rfl hc24) rfl rfl ?_
                refine QL.idle (Idle.no rfl rfl rfl hc24) rfl rfl ?_
                refine QL.idle (Idle.no rfl rfl rfl hc24) rfl rfl ?_
                refine QL.idle (Idle.no rfl rfl rfl hc24) rfl rfl ?_
                refine QL.idle (Idle.no rfl rfl rfl hc24) rfl rfl ?_
                refine QL.idle (Idle.no rfl rfl rfl hc24) rfl rfl ?_
                refine QL.quiet (Runs.free rfl) rfl rfl (OV.quiet (ov_pick_false rfl (guard_eq rfl hc24) rfl)) ?_
                exact QL.nil (Sub.cons' rfl (congrArg Value.bool (Option.some.inj hm)) (Sub.skip rfl (Sub.skip rfl (Sub.skip rfl (Sub.skip rfl (Sub.skip rfl (Sub.skip rfl (Sub.skip rfl (Sub.skip rfl (Sub.skip rfl (Sub.skip rfl (Sub.refl _))))))))))))
            refine QL.quiet (Runs.free rfl) rfl rfl (OV.quiet (ov_move rfl rfl)) ?_
            obtain ⟨c6, e23, hm⟩ := bind_some hm
            refine QL.part_bool 2 154 (x := c6) ?_ ?_
            · rcases Bool.eq_false_or_eq_true c5 with hc25 | hc25
              · skip
                replace hm := ite_t hc25 e23
                obtain ⟨r18, e24, hm⟩ := bind_some hm
                refine QL.quiet (Runs.yes rfl rfl rfl hc25) rfl rfl (oq_con (r := (.bool r18)) Tryd.call9 rfl rfl (fun w' s => ⟨_, (law58_awake_con   w' H10 s.hold hG r18 e24)⟩)) ?_
                refine QL.quiet (Runs.free rfl) rfl rfl (OV.quiet (ov_pick_true rfl (guard_eq rfl hc25) rfl)) ?_
                exact QL.nil (Sub.cons' rfl (congrArg Value.bool (Option.some.inj hm)) (Sub.skip rfl (Sub.skip rfl (Sub.refl _))))
              · skip
                replace hm := ite_f hc25 e23
                refine QL.idle (Idle.no rfl rfl rfl hc25) rfl rfl ?_
                refine QL.quiet (Runs.free rfl) rfl rfl (OV.quiet (ov_pick_false rfl (guard_eq rfl hc25) rfl)) ?_
                exact QL.nil (Sub.cons' rfl (congrArg Value.bool (Option.some.inj hm)) (Sub.skip rfl (Sub.skip rfl (Sub.refl _))))
            refine QL.quiet (Runs.free rfl) rfl rfl (OV.quiet (ov_assign rfl rfl)) ?_
            refine QL.nil ?_
            refine then_normal ?_
            refine WP.ret ?_
            obtain rfl := Option.some.inj hm
            refine retQ_ret Tryd.results7 (Res.tmp rfl Res.nil) rfl (fun w' s => ⟨s.below, ?_⟩)
            exact rfl

end Go.Proofs.YtpigfknmlmeihaaDoor.W
