/- The walks. Written by our own program gen.py; Lean checks it. -/
import Derived.Test.YtpigfknmlmeihaaDoorPlain
import Derived.Test.YtpigfknmlmeihaaDoorEqs
import Derived.Test.YtpigfknmlmeihaaDoorProg
import Derived.Test.YtpigfknmlmeihaaDoorExt
import Derived.Test.YtpigfknmlmeihaaDoorClone
import Derived.Test.YtpigfknmlmeihaaDoorInsert
import Derived.Test.YtpigfknmlmeihaaDoorBuild
import Derived.Test.YtpigfknmlmeihaaDoorWalk1
set_option linter.unusedVariables false
set_option maxRecDepth 100000
set_option maxHeartbeats 4000000
namespace Go.Proofs.YtpigfknmlmeihaaDoor.W
open Go Go.RowKit
theorem journal_mark_con (p_before : Int) (p_s : (List UInt8)) (w : World) (H : Heap) (hH : Le H (hp w)) (hG : Glob H) (r : Int) (hm : journal_mark p_before p_s = some r) :
    Con Tryd.prog 48 [(.int .i64 p_before), (mkS p_s)] w H (fun v _ => v = (.int .i64 r)) := by
  unfold journal_mark at hm
  refine con_of hH Tryd.func48 rfl 25 Tryd.ntmps48 rfl ?_
  refine WP.seq ?_
  refine WP.region ?_
  refine WL.quiet (Runs.free rfl) rfl rfl (OV.quiet (ov_assign rfl rfl)) ?_
  refine WL.nil ?_
  refine then_normal ?_
  refine WP.seq ?_
  refine WP.region ?_
  refine WL.quiet (Runs.free rfl) rfl rfl (OV.quiet (ov_move rfl rfl)) ?_
  refine WL.quiet (Runs.free rfl) rfl rfl (OV.quiet (ov_rem rfl rfl rfl (by decide))) ?_
  refine WL.quiet (Runs.free rfl) rfl rfl (OV.quiet (ov_assign rfl rfl)) ?_
  refine WL.nil ?_
  refine then_normal ?_
  obtain ⟨k1, hk1, hm⟩ := joinK_some hm
  refine WP.seq_join (fun g' S' => ∃ (i3 : Int), Sub [(5, (.int .i64 i3))] g' ∧ (∀ w', S' w' → St w H [] H w') ∧ k1 i3 = some r) ?_ ?_
  · skip
    refine WP.seq ?_
    refine WP.region ?_
    refine WL.quiet (Runs.free rfl) rfl rfl (OV.quiet (ov_move rfl rfl)) ?_
    refine WL.quiet (Runs.free rfl) rfl rfl (OV.quiet (ov_len_string Tryd.underlying9 rfl rfl)) ?_
    refine WL.quiet (Runs.free rfl) rfl rfl (OV.quiet (ov_move rfl rfl)) ?_
    refine WL.nil ?_
    refine then_normal ?_
    refine WP.block ?_
    refine WP.loop (fun m1 g' S' => ∃ (i1 : Int) (i2 : Int), Sub [(1, (mkS p_s)), (5, (.int .i64 i1)), (10, (.int .i64 (p_s.length : Int))), (11, (.int .i64 i2))] g' ∧ (∀ w', S' w' → St w H [] H w') ∧ journal_mark_loop1 p_s k1 m1 i1 i2 = some r) ((Int.toNat ((p_s.length : Int) - 0) + 1)) ⟨(Int.tmod p_before 65521), 0, (Sub.cons rfl (Sub.cons rfl (Sub.cons rfl (Sub.cons rfl (Sub.nil _))))), fun w' s => s, hm⟩ ?_ ?_
    · rintro g' S' ⟨_, _, _, _, hm⟩
      exact none_some hm
    · rintro m1 g' S' ⟨i1, i2, hsub1, hS1, hm⟩
      refine WP.sub hsub1 (WP.weaken hS1 ?_)
      rw [journal_mark_loop1] at hm
      refine WP.seq ?_
      refine WP.region ?_
      refine WL.quiet (Runs.free rfl) rfl rfl (OV.quiet (ov_lss rfl rfl rfl)) ?_
      refine WL.nil ?_
      refine then_normal ?_
      refine WP.seq ?_
      refine WP.cond rfl (fun hc1 => ?_) (fun hc1 => ?_)
      · replace hm := ite_t hc1 hm
        refine WP.skip ?_
        refine then_normal ?_
        refine WP.seq ?_
        refine WP.block ?_
        refine WP.seq ?_
        refine WP.region ?_
        refine WL.quiet (Runs.free rfl) rfl rfl (OV.quiet (ov_move rfl rfl)) ?_
        refine WL.quiet (Runs.free rfl) rfl rfl (OV.quiet (ov_assign rfl rfl)) ?_
        refine WL.nil ?_
        refine then_normal ?_
        refine WP.region ?_
        refine WL.quiet (Runs.free rfl) rfl rfl (OV.quiet (ov_move rfl rfl)) ?_
        refine WL.quiet (Runs.free rfl) rfl rfl (OV.quiet (ov_mul rfl rfl rfl)) ?_
        refine WL.quiet (Runs.free rfl) rfl rfl (OV.quiet (ov_move rfl rfl)) ?_
        refine WL.quiet (Runs.free rfl) rfl rfl (OV.quiet (ov_move rfl rfl)) ?_
        obtain ⟨b1, e1, hm⟩ := bind_some hm
        refine WL.quiet (Runs.free rfl) rfl rfl (OV.quiet (ov_index_string Tryd.underlying9 rfl rfl rfl e1)) ?_
        refine WL.quiet (Runs.free rfl) rfl rfl (OV.quiet (ov_convert_int Tryd.underlying5 Tryd.underlying3 rfl rfl)) ?_
        refine WL.quiet (Runs.free rfl) rfl rfl (OV.quiet (ov_add rfl rfl rfl)) ?_
        refine WL.quiet (Runs.free rfl) rfl rfl (OV.quiet (ov_add rfl rfl rfl)) ?_
        refine WL.quiet (Runs.free rfl) rfl rfl (OV.quiet (ov_rem rfl rfl rfl (by decide))) ?_
        refine WL.quiet (Runs.free rfl) rfl rfl (OV.quiet (ov_assign rfl rfl)) ?_
        refine WL.nil ?_
        refine block_normal ?_
        refine then_normal ?_
        refine WP.region ?_
        refine WL.quiet (Runs.free rfl) rfl rfl (OV.quiet (ov_add rfl rfl rfl)) ?_
        refine WL.quiet (Runs.free rfl) rfl rfl (OV.quiet (ov_move rfl rfl)) ?_
        refine WL.nil ?_
        refine then_normal ?_
        exact ⟨(Int.tmod (IntKind.wrap .i64 ((IntKind.wrap .i64 ((IntKind.wrap .i64 (i1 * 31)) + (IntKind.wrap .i64 (b1.toNat : Int)))) + 7)) 65521), (IntKind.wrap .i64 (i2 + 1)), (Sub.cons rfl (Sub.cons rfl (Sub.cons rfl (Sub.cons rfl (Sub.nil _))))), fun w' s => s, hm⟩
      · replace hm := ite_f hc1 hm
        refine WP.exit ?_
        refine then_exit ?_
        refine then_exit ?_
        refine block_here ?_
        refine then_normal ?_
        exact ⟨i1, (Sub.cons rfl (Sub.nil _)), fun w' s => s, hm⟩
  · rintro g' S' ⟨i3, hsub2, hS2, hm⟩
    refine WP.sub hsub2 (WP.weaken hS2 ?_)
    replace hm := (congrFun hk1 i3).symm.trans hm
    refine WP.seq ?_
    refine WP.region ?_
    refine WL.quiet (Runs.free rfl) rfl rfl (OV.quiet (ov_move rfl rfl)) ?_
    refine WL.quiet (Runs.free rfl) rfl rfl (OV.quiet (ov_assign rfl rfl)) ?_
    refine WL.nil ?_
    refine then_normal ?_
    refine WP.ret ?_
    obtain rfl := Option.some.inj hm
    refine retQ_ret Tryd.results48 (Res.tmp rfl Res.nil) rfl (fun w' s => ⟨s.below, ?_⟩)
    exact rfl

theorem journal_Log_con (p_l : (List Entry)) (ao1 : Option Addr) (cap1 : Nat) (w : World) (H : Heap) (hH : Le H (hp w)) (h1 : SL H encEntry ao1 p_l) (hc1 : p_l.length ≤ cap1) (hG : Glob H) (r : ((List UInt8) × Int)) (hm : journal_Log p_l = some r) :
    Con Tryd.prog 27 [(.slice ao1 p_l.length cap1)] w H (fun v _ => v = (.tuple #[(mkS r.1), (.int .i64 r.2)])) := by
  unfold journal_Log at hm
  refine con_of hH Tryd.func27 rfl 43 Tryd.ntmps27 rfl ?_
  refine WP.seq ?_
  refine WP.region ?_
  refine WL.quiet (Runs.free rfl) rfl rfl (OV.quiet (ov_assign rfl rfl)) ?_
  refine WL.quiet (Runs.free rfl) rfl rfl (OV.quiet (ov_assign rfl rfl)) ?_
  refine WL.nil ?_
  refine then_normal ?_
  refine WP.seq ?_
  refine WP.seq ?_
  refine WP.region ?_
  refine WL.quiet (Runs.free rfl) rfl rfl (OV.quiet (ov_move rfl rfl)) ?_
  obtain ⟨r1, e1, hm⟩ := bind_some hm
  refine WL.step (Runs.free rfl) rfl rfl (os_con Tryd.call25 rfl rfl (fun w' s => (journal_Run_con p_l ao1 cap1  w' H s.hold h1 hc1 hG r1 e1)) (fun rr1 H1 hle1 hR1 => ?_))
  replace h1 := h1.mono hle1
  replace hG := hG.mono hle1
  obtain ⟨ao2, cap2, rfl, h2, hc2⟩ := hR1
  refine WL.quiet (Runs.free rfl) rfl rfl (OV.quiet (ov_move rfl rfl)) ?_
  refine WL.quiet (Runs.free rfl) rfl rfl (OV.quiet (ov_extract rfl rfl rfl)) ?_
  refine WL.quiet (Runs.free rfl) rfl rfl (OV.quiet (ov_extract rfl rfl rfl)) ?_
  refine WL.quiet (Runs.free rfl) rfl rfl (OV.quiet (ov_extract rfl rfl rfl)) ?_
  refine WL.step (Runs.free rfl) rfl rfl (os_alloc (cs := [(.slice none 0 0), (.int .i64 0)]) Tryd.zeroValue24 rfl rfl (fun b1 => ?_))
  refine WL.step0 (Runs.free rfl) rfl (os_store (i := 0) (vs := [(.slice ao2 r1.1.items.length cap2), (.int .i64 r1.1.cycles)]) (cs' := [(.slice ao2 r1.1.items.length cap2), (.int .i64 r1.1.cycles)]) Tryd.sizeOf24 rfl rfl rfl rfl rfl rfl rfl rfl rfl ?_)
  refine WL.quiet (Runs.free rfl) rfl rfl (OV.quiet (ov_assign rfl rfl)) ?_
  refine WL.quiet (Runs.free rfl) rfl rfl (OV.quiet (ov_assign rfl rfl)) ?_
  refine WL.nil ?_
  refine then_normal ?_
  refine WP.seq ?_
  refine WP.region ?_
  refine WL.quiet (Runs.free rfl) rfl rfl (OV.quiet (ov_move rfl rfl)) ?_
  refine WL.quiet (Runs.free rfl) rfl rfl (OV.quiet (ov_neq rfl rfl rfl)) ?_
  refine WL.nil ?_
  refine then_normal ?_
  refine WP.cond rfl (fun hc3 => ?_) (fun hc3 => ?_)
  · replace hm := ite_t hc3 hm
    refine WP.seq ?_
    refine WP.region ?_
    refine WL.quiet (Runs.free rfl) rfl rfl (OV.quiet (ov_move rfl rfl)) ?_
    refine WL.quiet (Runs.free rfl) rfl rfl (OV.quiet (ov_assign rfl rfl)) ?_
    refine WL.quiet (Runs.free rfl) rfl rfl (OV.quiet (ov_assign rfl rfl)) ?_
    refine WL.nil ?_
    refine then_normal ?_
    refine WP.ret ?_
    refine then_ret ?_
    obtain rfl := Option.some.inj hm
    refine retQ_ret Tryd.results27 (Res.tmp rfl (Res.tmp rfl Res.nil)) rfl (fun w' s => ⟨s.below, ?_⟩)
    exact rfl
  · replace hm := ite_f hc3 hm
    refine WP.skip ?_
    refine then_normal ?_
    refine WP.seq ?_
    refine WP.region ?_
    refine WL.step (Runs.free rfl) rfl rfl (os_alloc (cs := [(.pointer none), (.slice none 0 0)]) Tryd.zeroValue97 rfl rfl (fun b2 => ?_))
    refine WL.nil ?_
    refine then_normal ?_
    refine WP.seq ?_
    refine WP.region ?_
    refine WL.quiet (Runs.free rfl) rfl rfl (OV.quiet (ov_assign rfl rfl)) ?_
    refine WL.nil ?_
    refine then_normal ?_
    obtain ⟨k1, hk1, hm⟩ := joinK_some hm
    refine WP.seq_join (fun g' S' => ∃ (v2 : Value) (l3 : (List UInt8)) (ao5 : Option Addr) (cap5 : Nat) (xs2 : List Value), (v2 = .pointer none ∨ v2 = pB b2 0) ∧ RL H1 encByte l3 xs2 ∧ Sub [(7, (pB b2 0))] g' ∧ (∀ w', S' w' → St w H [.row 5 (encByte).size l3.length (.slice ao5 l3.length cap5) xs2, .blk b2 97 [v2, (.slice ao5 l3.length cap5)]] H1 w') ∧ k1 l3 = some r) ?_ ?_
    · skip
      refine WP.seq ?_
      refine WP.region ?_
      refine WL.quiet (Runs.free rfl) rfl rfl (OV.quiet (ov_move rfl rfl)) ?_
      refine WL.quiet (Runs.free rfl) rfl rfl (OV.quiet (ov_len_slice Tryd.underlying56 rfl rfl)) ?_
      refine WL.quiet (Runs.free rfl) rfl rfl (OV.quiet (ov_move rfl rfl)) ?_
      refine WL.nil ?_
      refine then_normal ?_
      refine WP.block ?_
      have rl1 := RL.nil (α := UInt8) H1 encByte
      refine WP.weaken (fun _ s => s.nilrow 5 (encByte).size) ?_
      refine WP.loop (fun m1 g' S' => ∃ (i1 : Int) (i2 : Int) (v1 : Value) (l1 : (List UInt8)) (ao3 : Option Addr) (cap3 : Nat) (xs1 : List Value), (v1 = .pointer none ∨ v1 = pB b2 0) ∧ RL H1 encByte l1 xs1 ∧ Sub [(7, (pB b2 0)), (8, (.int .i64 i1)), (21, (.slice ao1 p_l.length cap1)), (22, (.int .i64 (p_l.length : Int))), (23, (.int .i64 i2))] g' ∧ (∀ w', S' w' → St w H [.row 5 (encByte).size l1.length (.slice ao3 l1.length cap3) xs1, .blk b2 97 [v1, (.slice ao3 l1.length cap3)]] H1 w') ∧ journal_Log_loop1 p_l k1 m1 i1 i2 l1 = some r) ((Int.toNat ((p_l.length : Int) - 0) + 1)) ⟨0, 0, (.pointer none), ([] : List UInt8), none, 0, [], (.inl rfl), rl1, (Sub.cons rfl (Sub.cons rfl (Sub.cons rfl (Sub.cons rfl (Sub.cons rfl (Sub.nil _)))))), fun w' s => (s.select [0, 1] (by decide) rfl), hm⟩ ?_ ?_
      · rintro g' S' ⟨_, _, _, _, _, _, _, _, _, _, _, hm⟩
        exact none_some hm
      · rintro m1 g' S' ⟨i1, i2, v1, l1, ao3, cap3, xs1, hv1, rl2, hsub1, hS1, hm⟩
        refine WP.sub hsub1 (WP.weaken hS1 ?_)
        rw [journal_Log_loop1] at hm
        refine WP.seq ?_
        refine WP.region ?_
        refine WL.quiet (Runs.free rfl) rfl rfl (OV.quiet (ov_lss rfl rfl rfl)) ?_
        refine WL.nil ?_
        refine then_normal ?_
        refine WP.seq ?_
        refine WP.cond rfl (fun hc4 => ?_) (fun hc4 => ?_)
        · replace hm := ite_t hc4 hm
          refine WP.skip ?_
          refine then_normal ?_
          refine WP.seq ?_
          refine WP.block ?_
          refine WP.seq ?_
          refine WP.region ?_
          obtain ⟨x1, e2, hm⟩ := bind_some hm
          obtain ⟨h3, h4, h5, cs1, h6, h7⟩ := h1.get e2 (by decide)
          obtain rfl : cs1 = [(.int .i64 x1.kind), (mkS x1.name), (.int .i64 x1.count), (.int .i64 x1.strokes)] := h6
          refine WL.quiet (Runs.free rfl) rfl rfl (OV.quiet (ov_indexAddr Tryd.underlying56 Tryd.sizeOf26 rfl rfl rfl h3 h4 h5)) ?_
          refine WL.quiet (Runs.free rfl) rfl rfl (OV.quiet (ov_load_elems (vs := [(.int .i64 x1.kind), (mkS x1.name), (.int .i64 x1.count), (.int .i64 x1.strokes)]) Tryd.isAgg26 Tryd.sizeOf26 rfl rfl rfl h7 h5)) ?_
          refine WL.step (Runs.free rfl) rfl rfl (os_alloc (cs := [(.int .i64 0), (mkS []), (.int .i64 0), (.int .i64 0)]) Tryd.zeroValue26 rfl rfl (fun b3 => ?_))
          refine WL.step0 (Runs.free rfl) rfl (os_store (i := 0) (vs := [(.int .i64 x1.kind), (mkS x1.name), (.int .i64 x1.count), (.int .i64 x1.strokes)]) (cs' := [(.int .i64 x1.kind), (mkS x1.name), (.int .i64 x1.count), (.int .i64 x1.strokes)]) Tryd.sizeOf26 rfl rfl rfl rfl rfl rfl rfl rfl rfl ?_)
          refine WL.nil ?_
          refine then_normal ?_
          refine WP.seq ?_
          refine WP.region ?_
          refine WL.quiet (Runs.free rfl) rfl rfl (OV.quiet (ov_load_whole (i := 0) Tryd.isAgg26 Tryd.sizeOf26 rfl rfl rfl rfl)) ?_
          obtain ⟨r2, e3, hm⟩ := bind_some hm
          refine WL.quiet (Runs.free rfl) rfl rfl (oq_con (r := (mkS r2)) Tryd.call47 rfl rfl (fun w' s => ⟨_, (journal_text_con x1  w' H1 s.hold hG r2 e3)⟩)) ?_
          refine WL.quiet (Runs.free rfl) rfl rfl (OV.quiet (ov_assign rfl rfl)) ?_
          refine WL.nil ?_
          refine then_normal ?_
          refine WP.seq ?_
          refine WP.region ?_
          refine WL.quiet (Runs.free rfl) rfl rfl (OV.quiet (ov_move rfl rfl)) ?_
          refine WL.quiet (Runs.free rfl) rfl rfl (OV.quiet (ov_move rfl rfl)) ?_
          obtain ⟨r3, e4, hm⟩ := bind_some hm
          refine WL.quiet (Runs.free rfl) rfl rfl (oq_con (r := (.int .i64 r3)) Tryd.call48 rfl rfl (fun w' s => ⟨_, (journal_mark_con i1 r2  w' H1 s.hold hG r3 e4)⟩)) ?_
          refine WL.quiet (Runs.free rfl) rfl rfl (OV.quiet (ov_assign rfl rfl)) ?_
          refine WL.nil ?_
          refine then_normal ?_
          refine WP.seq ?_
          refine WP.region ?_
          refine WL.quiet (Runs.free rfl) rfl rfl (OV.quiet (ov_move rfl rfl)) ?_
          obtain ⟨s1, e5, hm⟩ := bind_some hm
          refine WL.quiet (Runs.free rfl) rfl rfl (OV.quiet (ov_sadd' e5 rfl rfl rfl)) ?_
          refine WL.quiet (Runs.free rfl) rfl rfl (OV.quiet (ov_move rfl rfl)) ?_
          obtain ⟨r4, e6, hm⟩ := bind_some hm
          refine WL.quiet (Runs.free rfl) rfl rfl (oq_con (r := (mkS r4)) Tryd.call50 rfl rfl (fun w' s => ⟨_, (itoa_con r3  w' H1 s.hold hG r4 e6)⟩)) ?_
          obtain ⟨s2, e7, hm⟩ := bind_some hm
          refine WL.quiet (Runs.free rfl) rfl rfl (OV.quiet (ov_sadd' e7 rfl rfl rfl)) ?_
          obtain ⟨s3, e8, hm⟩ := bind_some hm
          refine WL.quiet (Runs.free rfl) rfl rfl (OV.quiet (ov_sadd' e8 rfl rfl rfl)) ?_
          refine WL.step (Runs.free rfl) rfl rfl (os_inline (cap := []) (vs := [(pB b2 0), (mkS s3)]) Tryd.call49 rfl rfl rfl Tryd.func49 rfl 19 Tryd.ntmps49 rfl (fun w' s => ?_))
          refine WP.seq ?_
          refine WP.region ?_
          refine WL.quiet (Runs.free rfl) rfl rfl (OV.quiet (ov_assign rfl rfl)) ?_
          refine WL.quiet (Runs.free rfl) rfl rfl (OV.quiet (ov_assign rfl rfl)) ?_
          refine WL.nil ?_
          refine then_normal ?_
          refine WP.seq ?_
          refine WP.region ?_
          refine WL.quiet (Runs.free rfl) rfl rfl (OV.quiet (ov_move rfl rfl)) ?_
          refine WL.step (Runs.free rfl) rfl rfl (os_copyCheck (i := 2) rfl rfl rfl hv1 ?_)
          refine WL.nil ?_
          refine then_normal ?_
          refine WP.seq ?_
          refine WP.region ?_
          refine WL.quiet (Runs.free rfl) rfl rfl (OV.quiet (ov_move rfl rfl)) ?_
          refine WL.quiet (Runs.free rfl) rfl rfl (OV.quiet (ov_move rfl rfl)) ?_
          refine WL.quiet (Runs.free rfl) rfl rfl (OV.quiet (ov_nilCheckB rfl rfl)) ?_
          refine WL.quiet (Runs.free rfl) rfl rfl (OV.quiet (ov_fieldAddr Tryd.underlying97 rfl rfl rfl Tryd.sizeOf95 rfl rfl)) ?_
          refine WL.quiet (Runs.free rfl) rfl rfl (OV.quiet (ov_load_box (i := 2) Tryd.isAgg95 rfl rfl rfl rfl)) ?_
          refine WL.quiet (Runs.free rfl) rfl rfl (OV.quiet (ov_move rfl rfl)) ?_
          obtain ⟨l2, e9, hm⟩ := bind_some hm
          refine WL.step (Runs.free rfl) rfl rfl (os_app_str (i := 1) (xs := xs1) Tryd.underlying95 Tryd.underlying9 (by kernel_rfl : (Tryd.prog.info? 5).map (fun i => (i.zero, i.size, i.bytes)) = some (some (.int .u8 0), 1, 1)) rfl rfl rfl rfl rl2 e9 (fun ao4 cap4 ys1 rl3 => ?_))
          refine WL.quiet (Runs.free rfl) rfl rfl (OV.quiet (ov_nilCheckB rfl rfl)) ?_
          refine WL.quiet (Runs.free rfl) rfl rfl (OV.quiet (ov_fieldAddr Tryd.underlying97 rfl rfl rfl Tryd.sizeOf95 rfl rfl)) ?_
          refine WL.step0 (Runs.free rfl) rfl (os_store (i := 2) (vs := [(.slice ao4 (l1 ++ s3).length cap4)]) (cs' := [(pB b2 0), (.slice ao4 (l1 ++ s3).length cap4)]) Tryd.sizeOf95 rfl rfl rfl rfl rfl rfl rfl rfl rfl ?_)
          refine WL.nil ?_
          refine then_normal ?_
          refine WP.seq ?_
          refine WP.region ?_
          refine WL.quiet (Runs.free rfl) rfl rfl (OV.quiet (ov_move rfl rfl)) ?_
          refine WL.quiet (Runs.free rfl) rfl rfl (OV.quiet (ov_len_string Tryd.underlying9 rfl rfl)) ?_
          refine WL.quiet (Runs.free rfl) rfl rfl (OV.quiet (ov_assign rfl rfl)) ?_
          refine WL.quiet (Runs.free rfl) rfl rfl (OV.quiet (ov_assign rfl rfl)) ?_
          refine WL.nil ?_
          refine then_normal ?_
          refine WP.ret ?_
          refine retQ_ret (v := (.tuple #[(.int .i64 (s3.length : Int)), .nilIface])) Tryd.results49 (Res.tmp rfl (Res.tmp rfl Res.nil)) rfl (fun w' s => ⟨_, ?_, s⟩)
          refine WL.nil ?_
          refine then_normal ?_
          refine WP.seq ?_
          refine WP.region ?_
          refine WL.step (Runs.free rfl) rfl rfl (os_inline (cap := []) (vs := [(pB b2 0)]) Tryd.call51 rfl rfl rfl Tryd.func51 rfl 8 Tryd.ntmps51 rfl (fun w' s => ?_))
          refine WP.seq ?_
          refine WP.region ?_
          refine WL.quiet (Runs.free rfl) rfl rfl (OV.quiet (ov_assign rfl rfl)) ?_
          refine WL.nil ?_
          refine then_normal ?_
          refine WP.seq ?_
          refine WP.region ?_
          refine WL.quiet (Runs.free rfl) rfl rfl (OV.quiet (ov_move rfl rfl)) ?_
          refine WL.quiet (Runs.free rfl) rfl rfl (OV.quiet (ov_nilCheckB rfl rfl)) ?_
          refine WL.quiet (Runs.free rfl) rfl rfl (OV.quiet (ov_fieldAddr Tryd.underlying97 rfl rfl rfl Tryd.sizeOf95 rfl rfl)) ?_
          refine WL.quiet (Runs.free rfl) rfl rfl (OV.quiet (ov_load_box (i := 2) Tryd.isAgg95 rfl rfl rfl rfl)) ?_
          refine WL.quiet (Runs.free rfl) rfl rfl (OV.quiet (ov_len_slice Tryd.underlying95 rfl rfl)) ?_
          refine WL.quiet (Runs.free rfl) rfl rfl (OV.quiet (ov_assign rfl rfl)) ?_
          refine WL.nil ?_
          refine then_normal ?_
          refine WP.ret ?_
          refine retQ_ret (v := (.int .i64 ((l1 ++ s3).length : Int))) Tryd.results51 (Res.tmp rfl Res.nil) rfl (fun w' s => ⟨_, ?_, s⟩)
          refine WL.quiet (Runs.free rfl) rfl rfl (OV.quiet (ov_gtr rfl rfl rfl)) ?_
          refine WL.nil ?_
          refine then_normal ?_
          refine WP.cond rfl (fun hc5 => ?_) (fun hc5 => ?_)
          · replace hm := ite_t hc5 hm
            refine WP.seq ?_
            refine WP.region ?_
            refine WL.quiet (Runs.free rfl) rfl rfl (OV.quiet (ov_assign rfl rfl)) ?_
            refine WL.quiet (Runs.free rfl) rfl rfl (OV.quiet (ov_assign rfl rfl)) ?_
            refine WL.nil ?_
            refine then_normal ?_
            refine WP.ret ?_
            refine block_ret ?_
            refine then_ret ?_
            refine then_ret ?_
            refine block_ret ?_
            refine then_ret ?_
            obtain rfl := Option.some.inj hm
            refine retQ_ret Tryd.results27 (Res.tmp rfl (Res.tmp rfl Res.nil)) rfl (fun w' s => ⟨s.below, ?_⟩)
            exact rfl
          · replace hm := ite_f hc5 hm
            refine WP.skip ?_
            refine block_normal ?_
            refine then_normal ?_
            refine WP.region ?_
            refine WL.quiet (Runs.free rfl) rfl rfl (OV.quiet (ov_add rfl rfl rfl)) ?_
            refine WL.quiet (Runs.free rfl) rfl rfl (OV.quiet (ov_move rfl rfl)) ?_
            refine WL.nil ?_
            refine then_normal ?_
            exact ⟨r3, (IntKind.wrap .i64 (i2 + 1)), (pB b2 0), (l1 ++ s3), ao4, cap4, (xs1 ++ ys1), (.inr rfl), rl3, (Sub.cons rfl (Sub.cons rfl (Sub.cons rfl (Sub.cons rfl (Sub.cons rfl (Sub.nil _)))))), fun w' s => (s.select [1, 2] (by decide) rfl), hm⟩
        · replace hm := ite_f hc4 hm
          refine WP.exit ?_
          refine then_exit ?_
          refine then_exit ?_
          refine block_here ?_
          refine then_normal ?_
          exact ⟨v1, l1, ao3, cap3, xs1, hv1, rl2, (Sub.cons rfl (Sub.nil _)), fun w' s => s, hm⟩
    · rintro g' S' ⟨v2, l3, ao5, cap5, xs2, hv2, rl4, hsub2, hS2, hm⟩
      refine WP.sub hsub2 (WP.weaken hS2 ?_)
      replace hm := (congrFun hk1 l3).symm.trans hm
      refine WP.seq ?_
      refine WP.region ?_
      refine WL.step (Runs.free rfl) rfl rfl (os_bstring (i := 1) (j := 0) rfl rfl rfl rfl hv2 rl4 (fun H2 => ?_))
      refine WL.quiet (Runs.free rfl) rfl rfl (OV.quiet (ov_assign rfl rfl)) ?_
      refine WL.quiet (Runs.free rfl) rfl rfl (OV.quiet (ov_assign rfl rfl)) ?_
      refine WL.nil ?_
      refine then_normal ?_
      refine WP.ret ?_
      obtain rfl := Option.some.inj hm
      refine retQ_ret Tryd.results27 (Res.tmp rfl (Res.tmp rfl Res.nil)) rfl (fun w' s => ⟨s.below, ?_⟩)
      exact rfl

theorem law58_Four_con  (w : World) (H : Heap) (hH : Le H (hp w)) (hG : Glob H) (r : (List Entry)) (hm : law58_Four  = some r) :
    Con Tryd.prog 32 [] w H (fun v H' => ∃ (ao1 : Option Addr) (cap1 : Nat), v = (.slice ao1 r.length cap1) ∧ SL H' encEntry ao1 r ∧ r.length ≤ cap1) := by
  unfold law58_Four at hm
  refine con_of hH Tryd.func32 rfl 6 Tryd.ntmps32 rfl ?_
  refine WP.seq ?_
  refine WP.region ?_
  refine WL.quiet (Runs.free rfl) rfl rfl (OV.quiet (ov_assign rfl rfl)) ?_
  refine WL.nil ?_
  refine then_normal ?_
  refine WP.seq ?_
  refine WP.region ?_
  refine WL.quiet (Runs.free rfl) rfl rfl (OV.quiet (ov_build (r := (.agg #[(.int .i64 0), (mkS [65]), (.int .i64 100), (.int .i64 0)])) rfl rfl (fun _ => by kernel_rfl))) ?_
  refine WL.quiet (Runs.free rfl) rfl rfl (OV.quiet (ov_build (r := (.agg #[(.int .i64 1), (mkS [65]), (.int .i64 3), (.int .i64 20)])) rfl rfl (fun _ => by kernel_rfl))) ?_
  refine WL.quiet (Runs.free rfl) rfl rfl (OV.quiet (ov_build (r := (.agg #[(.int .i64 2), (mkS [65]), (.int .i64 0), (.int .i64 0)])) rfl rfl (fun _ => by kernel_rfl))) ?_
  refine WL.quiet (Runs.free rfl) rfl rfl (OV.quiet (ov_build (r := (.agg #[(.int .i64 3), (mkS [65]), (.int .i64 0), (.int .i64 0)])) rfl rfl (fun _ => by kernel_rfl))) ?_
  have rl1 : RL H encEntry ([(Entry.mk 0 [65] 100 0), (Entry.mk 1 [65] 3 20), (Entry.mk 2 [65] 0 0), (Entry.mk 3 [65] 0 0)] : List Entry) [(.int .i64 0), (mkS [65]), (.int .i64 100), (.int .i64 0), (.int .i64 1), (mkS [65]), (.int .i64 3), (.int .i64 20), (.int .i64 2), (mkS [65]), (.int .i64 0), (.int .i64 0), (.int .i64 3), (mkS [65]), (.int .i64 0), (.int .i64 0)] := RL.cons (cs := [(.int .i64 0), (mkS [65]), (.int .i64 100), (.int .i64 0)]) (xs := [(.int .i64 1), (mkS [65]), (.int .i64 3), (.int .i64 20), (.int .i64 2), (mkS [65]), (.int .i64 0), (.int .i64 0), (.int .i64 3), (mkS [65]), (.int .i64 0), (.int .i64 0)]) rfl (RL.cons (cs := [(.int .i64 1), (mkS [65]), (.int .i64 3), (.int .i64 20)]) (xs := [(.int .i64 2), (mkS [65]), (.int .i64 0), (.int .i64 0), (.int .i64 3), (mkS [65]), (.int .i64 0), (.int .i64 0)]) rfl (RL.cons (cs := [(.int .i64 2), (mkS [65]), (.int .i64 0), (.int .i64 0)]) (xs := [(.int .i64 3), (mkS [65]), (.int .i64 0), (.int .i64 0)]) rfl (RL.cons (cs := [(.int .i64 3), (mkS [65]), (.int .i64 0), (.int .i64 0)]) (xs := []) rfl (RL.nil _ _))))
  refine WL.step (Runs.free rfl) rfl rfl (os_buildSlice (cs := [(.int .i64 0), (mkS [65]), (.int .i64 100), (.int .i64 0), (.int .i64 1), (mkS [65]), (.int .i64 3), (.int .i64 20), (.int .i64 2), (mkS [65]), (.int .i64 0), (.int .i64 0), (.int .i64 3), (mkS [65]), (.int .i64 0), (.int .i64 0)]) (E := 26) (sz := 4) rfl rfl (fun _ => by kernel_rfl) rfl (by decide) (fun b1 => ?_))
  refine WL.held rl1 (fun H1 hc2 hle1 h2 => ?_)
  replace hG := hG.mono hle1
  refine WL.quiet (Runs.free rfl) rfl rfl (OV.quiet (ov_assign rfl rfl)) ?_
  refine WL.nil ?_
  refine then_normal ?_
  refine WP.ret ?_
  obtain rfl := Option.some.inj hm
  refine retQ_ret Tryd.results32 (Res.tmp rfl Res.nil) rfl (fun w' s => ⟨s.below, ?_⟩)
  exact ⟨(some ⟨b1, 0, none⟩), 4, rfl, h2.mono s.le_newer, hc2⟩

theorem ref12_Digits_con (p_n : Int) (w : World) (H : Heap) (hH : Le H (hp w)) (hG : Glob H) (r : (List UInt8)) (hm : ref12_Digits p_n = some r) :
    Con Tryd.prog 33 [(.int .i64 p_n)] w H (fun v _ => v = (mkS r)) := by
  unfold ref12_Digits at hm
  refine con_of hH Tryd.func33 rfl 25 Tryd.ntmps33 rfl ?_
  refine WP.seq ?_
  refine WP.region ?_
  refine WL.quiet (Runs.free rfl) rfl rfl (OV.quiet (ov_assign rfl rfl)) ?_
  refine WL.nil ?_
  refine then_normal ?_
  refine WP.seq ?_
  refine WP.region ?_
  refine WL.quiet (Runs.free rfl) rfl rfl (OV.quiet (ov_move rfl rfl)) ?_
  refine WL.quiet (Runs.free rfl) rfl rfl (OV.quiet (ov_rem rfl rfl rfl (by decide))) ?_
  refine WL.quiet (Runs.free rfl) rfl rfl (OV.quiet (ov_move rfl rfl)) ?_
  refine WL.quiet (Runs.free rfl) rfl rfl (OV.quiet (ov_rem rfl rfl rfl (by decide))) ?_
  refine WL.quiet (Runs.free rfl) rfl rfl (OV.quiet (ov_add rfl rfl rfl)) ?_
  obtain ⟨s1, e1, hm⟩ := bind_some hm
  refine WL.quiet (Runs.free rfl) rfl rfl (OV.quiet (ov_slice_string Tryd.underlying9 rfl rfl rfl rfl e1)) ?_
  refine WL.quiet (Runs.free rfl) rfl rfl (OV.quiet (ov_assign rfl rfl)) ?_
  refine WL.nil ?_
  refine then_normal ?_
  obtain ⟨k1, hk1, hm⟩ := joinK_some hm
  refine WP.seq_join (fun g' S' => ∃ (s5 : (List UInt8)), Sub [(3, (mkS s5))] g' ∧ (∀ w', S' w' → St w H [] H w') ∧ k1 s5 = some r) ?_ ?_
  · skip
    refine WP.seq ?_
    refine WP.region ?_
    refine WL.quiet (Runs.free rfl) rfl rfl (OV.quiet (ov_move rfl rfl)) ?_
    refine WL.quiet (Runs.free rfl) rfl rfl (OV.quiet (ov_quo rfl rfl rfl (by decide))) ?_
    refine WL.quiet (Runs.free rfl) rfl rfl (OV.quiet (ov_assign rfl rfl)) ?_
    refine WL.nil ?_
    refine then_normal ?_
    refine WP.block ?_
    refine WP.loop (fun m1 g' S' => ∃ (i1 : Int) (s2 : (List UInt8)), Sub [(0, (.int .i64 i1)), (3, (mkS s2))] g' ∧ (∀ w', S' w' → St w H [] H w') ∧ ref12_Digits_loop1 k1 m1 i1 s2 = some r) ((p_n.toNat + 2)) ⟨(IntKind.wrap .i64 (Int.tdiv p_n 10)), s1, (Sub.cons rfl (Sub.cons rfl (Sub.nil _))), fun w' s => s, hm⟩ ?_ ?_
    · rintro g' S' ⟨_, _, _, _, hm⟩
      exact none_some hm
    · rintro m1 g' S' ⟨i1, s2, hsub1, hS1, hm⟩
      refine WP.sub hsub1 (WP.weaken hS1 ?_)
      rw [ref12_Digits_loop1] at hm
      refine WP.seq ?_
      refine WP.seq ?_
      refine WP.region ?_
      refine WL.quiet (Runs.free rfl) rfl rfl (OV.quiet (ov_move rfl rfl)) ?_
      refine WL.quiet (Runs.free rfl) rfl rfl (OV.quiet (ov_gtr rfl rfl rfl)) ?_
      refine WL.nil ?_
      refine then_normal ?_
      refine WP.cond rfl (fun hc1 => ?_) (fun hc1 => ?_)
      · replace hm := ite_t hc1 hm
        refine WP.skip ?_
        refine then_normal ?_
        refine WP.seq ?_
        refine WP.block ?_
        refine WP.region ?_
        refine WL.quiet (Runs.free rfl) rfl rfl (OV.quiet (ov_move rfl rfl)) ?_
        refine WL.quiet (Runs.free rfl) rfl rfl (OV.quiet (ov_rem rfl rfl rfl (by decide))) ?_
        refine WL.quiet (Runs.free rfl) rfl rfl (OV.quiet (ov_move rfl rfl)) ?_
        refine WL.quiet (Runs.free rfl) rfl rfl (OV.quiet (ov_rem rfl rfl rfl (by decide))) ?_
        refine WL.quiet (Runs.free rfl) rfl rfl (OV.quiet (ov_add rfl rfl rfl)) ?_
        obtain ⟨s3, e2, hm⟩ := bind_some hm
        refine WL.quiet (Runs.free rfl) rfl rfl (OV.quiet (ov_slice_string Tryd.underlying9 rfl rfl rfl rfl e2)) ?_
        refine WL.quiet (Runs.free rfl) rfl rfl (OV.quiet (ov_move rfl rfl)) ?_
        obtain ⟨s4, e3, hm⟩ := bind_some hm
        refine WL.quiet (Runs.free rfl) rfl rfl (OV.quiet (ov_sadd' e3 rfl rfl rfl)) ?_
        refine WL.quiet (Runs.free rfl) rfl rfl (OV.quiet (ov_assign rfl rfl)) ?_
        refine WL.nil ?_
        refine block_normal ?_
        refine then_normal ?_
        refine WP.region ?_
        refine WL.quiet (Runs.free rfl) rfl rfl (OV.quiet (ov_move rfl rfl)) ?_
        refine WL.quiet (Runs.free rfl) rfl rfl (OV.quiet (ov_quo rfl rfl rfl (by decide))) ?_
        refine WL.quiet (Runs.free rfl) rfl rfl (OV.quiet (ov_assign rfl rfl)) ?_
        refine WL.nil ?_
        refine then_normal ?_
        exact ⟨(IntKind.wrap .i64 (Int.tdiv i1 10)), s4, (Sub.cons rfl (Sub.cons rfl (Sub.nil _))), fun w' s => s, hm⟩
      · replace hm := ite_f hc1 hm
        refine WP.exit ?_
        refine then_exit ?_
        refine then_exit ?_
        refine block_here ?_
        refine then_normal ?_
        exact ⟨s2, (Sub.cons rfl (Sub.nil _)), fun w' s => s, hm⟩
  · rintro g' S' ⟨s5, hsub2, hS2, hm⟩
    refine WP.sub hsub2 (WP.weaken hS2 ?_)
    replace hm := (congrFun hk1 s5).symm.trans hm
    refine WP.seq ?_
    refine WP.region ?_
    refine WL.quiet (Runs.free rfl) rfl rfl (OV.quiet (ov_move rfl rfl)) ?_
    refine WL.quiet (Runs.free rfl) rfl rfl (OV.quiet (ov_assign rfl rfl)) ?_
    refine WL.nil ?_
    refine then_normal ?_
    refine WP.ret ?_
    obtain rfl := Option.some.inj hm
    refine retQ_ret Tryd.results33 (Res.tmp rfl Res.nil) rfl (fun w' s => ⟨s.below, ?_⟩)
    exact rfl

theorem ref58_Mark_con (p_before : Int) (p_s : (List UInt8)) (w : World) (H : Heap) (hH : Le H (hp w)) (hG : Glob H) (r : Int) (hm : ref58_Mark p_before p_s = some r) :
    Con Tryd.prog 34 [(.int .i64 p_before), (mkS p_s)] w H (fun v _ => v = (.int .i64 r)) := by
  unfold ref58_Mark at hm
  refine con_of hH Tryd.func34 rfl 29 Tryd.ntmps34 rfl ?_
  refine WP.seq ?_
  refine WP.region ?_
  refine WL.quiet (Runs.free rfl) rfl rfl (OV.quiet (ov_assign rfl rfl)) ?_
  refine WL.nil ?_
  refine then_normal ?_
  refine WP.seq ?_
  refine WP.region ?_
  refine WL.quiet (Runs.free rfl) rfl rfl (OV.quiet (ov_move rfl rfl)) ?_
  refine WL.quiet (Runs.free rfl) rfl rfl (OV.quiet (ov_rem rfl rfl rfl (by decide))) ?_
  refine WL.quiet (Runs.free rfl) rfl rfl (OV.quiet (ov_assign rfl rfl)) ?_
  refine WL.nil ?_
  refine then_normal ?_
  obtain ⟨k1, hk1, hm⟩ := joinK_some hm
  refine WP.seq_join (fun g' S' => ∃ (i1 : Int), Sub [(1, (mkS p_s)), (5, (.int .i64 i1))] g' ∧ (∀ w', S' w' → St w H [] H w') ∧ k1 i1 = some r) ?_ ?_
  · skip
    refine WP.seq ?_
    refine WP.region ?_
    refine WL.quiet (Runs.free rfl) rfl rfl (OV.quiet (ov_move rfl rfl)) ?_
    refine WL.quiet (Runs.free rfl) rfl rfl (OV.quiet (ov_lss rfl rfl rfl)) ?_
    refine WL.nil ?_
    refine then_normal ?_
    refine WP.cond rfl (fun hc1 => ?_) (fun hc1 => ?_)
    · replace hm := ite_t hc1 hm
      refine WP.region ?_
      refine WL.quiet (Runs.free rfl) rfl rfl (OV.quiet (ov_move rfl rfl)) ?_
      refine WL.quiet (Runs.free rfl) rfl rfl (OV.quiet (ov_add rfl rfl rfl)) ?_
      refine WL.quiet (Runs.free rfl) rfl rfl (OV.quiet (ov_assign rfl rfl)) ?_
      refine WL.nil ?_
      refine then_normal ?_
      exact ⟨(IntKind.wrap .i64 ((Int.tmod p_before 65521) + 65521)), (Sub.cons rfl (Sub.cons rfl (Sub.nil _))), fun w' s => s, hm⟩
    · replace hm := ite_f hc1 hm
      refine WP.skip ?_
      refine then_normal ?_
      exact ⟨(Int.tmod p_before 65521), (Sub.cons rfl (Sub.cons rfl (Sub.nil _))), fun w' s => s, hm⟩
  · rintro g' S' ⟨i1, hsub1, hS1, hm⟩
    refine WP.sub hsub1 (WP.weaken hS1 ?_)
    replace hm := (congrFun hk1 i1).symm.trans hm
    obtain ⟨k2, hk2, hm⟩ := joinK_some hm
    refine WP.seq_join (fun g' S' => ∃ (i4 : Int), Sub [(5, (.int .i64 i4))] g' ∧ (∀ w', S' w' → St w H [] H w') ∧ k2 i4 = some r) ?_ ?_
    · skip
      refine WP.seq ?_
      refine WP.region ?_
      refine WL.quiet (Runs.free rfl) rfl rfl (OV.quiet (ov_assign rfl rfl)) ?_
      refine WL.nil ?_
      refine then_normal ?_
      refine WP.block ?_
      refine WP.loop (fun m1 g' S' => ∃ (i2 : Int) (i3 : Int), Sub [(1, (mkS p_s)), (5, (.int .i64 i2)), (6, (.int .i64 i3))] g' ∧ (∀ w', S' w' → St w H [] H w') ∧ ref58_Mark_loop1 p_s k2 m1 i2 i3 = some r) ((Int.toNat ((p_s.length : Int) - 0) + 1)) ⟨i1, 0, (Sub.cons rfl (Sub.cons rfl (Sub.cons rfl (Sub.nil _)))), fun w' s => s, hm⟩ ?_ ?_
      · rintro g' S' ⟨_, _, _, _, hm⟩
        exact none_some hm
      · rintro m1 g' S' ⟨i2, i3, hsub2, hS2, hm⟩
        refine WP.sub hsub2 (WP.weaken hS2 ?_)
        rw [ref58_Mark_loop1] at hm
        refine WP.seq ?_
        refine WP.seq ?_
        refine WP.region ?_
        refine WL.quiet (Runs.free rfl) rfl rfl (OV.quiet (ov_move rfl rfl)) ?_
        refine WL.quiet (Runs.free rfl) rfl rfl (OV.quiet (ov_move rfl rfl)) ?_
        refine WL.quiet (Runs.free rfl) rfl rfl (OV.quiet (ov_len_string Tryd.underlying9 rfl rfl)) ?_
        refine WL.quiet (Runs.free rfl) rfl rfl (OV.quiet (ov_lss rfl rfl rfl)) ?_
        refine WL.nil ?_
        refine then_normal ?_
        refine WP.cond rfl (fun hc2 => ?_) (fun hc2 => ?_)
        · replace hm := ite_t hc2 hm
          refine WP.skip ?_
          refine then_normal ?_
          refine WP.seq ?_
          refine WP.block ?_
          refine WP.region ?_
          refine WL.quiet (Runs.free rfl) rfl rfl (OV.quiet (ov_move rfl rfl)) ?_
          refine WL.quiet (Runs.free rfl) rfl rfl (OV.quiet (ov_mul rfl rfl rfl)) ?_
          refine WL.quiet (Runs.free rfl) rfl rfl (OV.quiet (ov_move rfl rfl)) ?_
          refine WL.quiet (Runs.free rfl) rfl rfl (OV.quiet (ov_move rfl rfl)) ?_
          obtain ⟨b1, e1, hm⟩ := bind_some hm
          refine WL.quiet (Runs.free rfl) rfl rfl (OV.quiet (ov_index_string Tryd.underlying9 rfl rfl rfl e1)) ?_
          refine WL.quiet (Runs.free rfl) rfl rfl (OV.quiet (ov_convert_int Tryd.underlying5 Tryd.underlying3 rfl rfl)) ?_
          refine WL.quiet (Runs.free rfl) rfl rfl (OV.quiet (ov_add rfl rfl rfl)) ?_
          refine WL.quiet (Runs.free rfl) rfl rfl (OV.quiet (ov_add rfl rfl rfl)) ?_
          refine WL.quiet (Runs.free rfl) rfl rfl (OV.quiet (ov_rem rfl rfl rfl (by decide))) ?_
          refine WL.quiet (Runs.free rfl) rfl rfl (OV.quiet (ov_assign rfl rfl)) ?_
          refine WL.nil ?_
          refine block_normal ?_
          refine then_normal ?_
          refine WP.region ?_
          refine WL.quiet (Runs.free rfl) rfl rfl (OV.quiet (ov_move rfl rfl)) ?_
          refine WL.quiet (Runs.free rfl) rfl rfl (OV.quiet (ov_add rfl rfl rfl)) ?_
          refine WL.quiet (Runs.free rfl) rfl rfl (OV.quiet (ov_assign rfl rfl)) ?_
          refine WL.nil ?_
          refine then_normal ?_
          exact ⟨(Int.tmod (IntKind.wrap .i64 ((IntKind.wrap .i64 ((IntKind.wrap .i64 (31 * i2)) + (IntKind.wrap .i64 (b1.toNat : Int)))) + 7)) 65521), (IntKind.wrap .i64 (i3 + 1)), (Sub.cons rfl (Sub.cons rfl (Sub.cons rfl (Sub.nil _)))), fun w' s => s, hm⟩
        · replace hm := ite_f hc2 hm
          refine WP.exit ?_
          refine then_exit ?_
          refine then_exit ?_
          refine block_here ?_
          refine then_normal ?_
          exact ⟨i2, (Sub.cons rfl (Sub.nil _)), fun w' s => s, hm⟩
    · rintro g' S' ⟨i4, hsub3, hS3, hm⟩
      refine WP.sub hsub3 (WP.weaken hS3 ?_)
      replace hm := (congrFun hk2 i4).symm.trans hm
      refine WP.seq ?_
      refine WP.region ?_
      refine WL.quiet (Runs.free rfl) rfl rfl (OV.quiet (ov_move rfl rfl)) ?_
      refine WL.quiet (Runs.free rfl) rfl rfl (OV.quiet (ov_assign rfl rfl)) ?_
      refine WL.nil ?_
      refine then_normal ?_
      refine WP.ret ?_
      obtain rfl := Option.some.inj hm
      refine retQ_ret Tryd.results34 (Res.tmp rfl Res.nil) rfl (fun w' s => ⟨s.below, ?_⟩)
      exact rfl

theorem slices_Equal_journal_Itemjournal_Item_con (p_s1 : (List Item)) (p_s2 : (List Item)) (ao1 : Option Addr) (cap1 : Nat) (ao2 : Option Addr) (cap2 : Nat) (w : World) (H : Heap) (hH : Le H (hp w)) (h1 : SL H encItem ao1 p_s1) (hc1 : p_s1.length ≤ cap1) (h2 : SL H encItem ao2 p_s2) (hc2 : p_s2.length ≤ cap2) (hG : Glob H) (r : Bool) (hm : slices_Equal_journal_Itemjournal_Item p_s1 p_s2 = some r) :
    Con Tryd.prog 35 [(.slice ao1 p_s1.length cap1), (.slice ao2 p_s2.length cap2)] w H (fun v _ => v = (.bool r)) := by
  unfold slices_Equal_journal_Itemjournal_Item at hm
  refine con_of hH Tryd.func35 rfl 26 Tryd.ntmps35 rfl ?_
  refine WP.seq ?_
  refine WP.region ?_
  refine WL.quiet (Runs.free rfl) rfl rfl (OV.quiet (ov_assign rfl rfl)) ?_
  refine WL.nil ?_
  refine then_normal ?_
  refine WP.seq ?_
  refine WP.seq ?_
  refine WP.region ?_
  refine WL.quiet (Runs.free rfl) rfl rfl (OV.quiet (ov_move rfl rfl)) ?_
  refine WL.quiet (Runs.free rfl) rfl rfl (OV.quiet (ov_len_slice Tryd.underlying22 rfl rfl)) ?_
  refine WL.quiet (Runs.free rfl) rfl rfl (OV.quiet (ov_move rfl rfl)) ?_
  refine WL.quiet (Runs.free rfl) rfl rfl (OV.quiet (ov_len_slice Tryd.underlying22 rfl rfl)) ?_
  refine WL.quiet (Runs.free rfl) rfl rfl (OV.quiet (ov_neq rfl rfl rfl)) ?_
  refine WL.nil ?_
  refine then_normal ?_
  refine WP.cond rfl (fun hc3 => ?_) (fun hc3 => ?_)
  · replace hm := ite_t hc3 hm
    refine WP.seq ?_
    refine WP.region ?_
    refine WL.quiet (Runs.free rfl) rfl rfl (OV.quiet (ov_assign rfl rfl)) ?_
    refine WL.nil ?_
    refine then_normal ?_
    refine WP.ret ?_
    refine then_ret ?_
    obtain rfl := Option.some.inj hm
    refine retQ_ret Tryd.results35 (Res.tmp rfl Res.nil) rfl (fun w' s => ⟨s.below, ?_⟩)
    exact rfl
  · replace hm := ite_f hc3 hm
    refine WP.skip ?_
    refine then_normal ?_
    obtain ⟨k1, hk1, hm⟩ := joinK_some hm
    refine WP.seq_join (fun g' S' => Sub [] g' ∧ (∀ w', S' w' → St w H [] H w') ∧ k1 = some r) ?_ ?_
    · skip
      refine WP.seq ?_
      refine WP.region ?_
      refine WL.quiet (Runs.free rfl) rfl rfl (OV.quiet (ov_move rfl rfl)) ?_
      refine WL.quiet (Runs.free rfl) rfl rfl (OV.quiet (ov_len_slice Tryd.underlying22 rfl rfl)) ?_
      refine WL.quiet (Runs.free rfl) rfl rfl (OV.quiet (ov_move rfl rfl)) ?_
      refine WL.nil ?_
      refine then_normal ?_
      refine WP.block ?_
      refine WP.loop (fun m1 g' S' => ∃ (i1 : Int), Sub [(0, (.slice ao1 p_s1.length cap1)), (1, (.slice ao2 p_s2.length cap2)), (12, (.int .i64 (p_s1.length : Int))), (13, (.int .i64 i1))] g' ∧ (∀ w', S' w' → St w H [] H w') ∧ slices_Equal_journal_Itemjournal_Item_loop1 p_s1 p_s2 k1 m1 i1 = some r) ((Int.toNat ((p_s1.length : Int) - 0) + 1)) ⟨0, (Sub.cons rfl (Sub.cons rfl (Sub.cons rfl (Sub.cons rfl (Sub.nil _))))), fun w' s => s, hm⟩ ?_ ?_
      · rintro g' S' ⟨_, _, _, hm⟩
        exact none_some hm
      · rintro m1 g' S' ⟨i1, hsub1, hS1, hm⟩
        refine WP.sub hsub1 (WP.weaken hS1 ?_)
        rw [slices_Equal_journal_Itemjournal_Item_loop1] at hm
        refine WP.seq ?_
        refine WP.region ?_
        refine WL.quiet (Runs.free rfl) rfl rfl (OV.quiet (ov_lss rfl rfl rfl)) ?_
        refine WL.nil ?_
        refine then_normal ?_
        refine WP.seq ?_
        refine WP.cond rfl (fun hc4 => ?_) (fun hc4 => ?_)
        · replace hm := ite_t hc4 hm
          refine WP.skip ?_
          refine then_normal ?_
          refine WP.seq ?_
          refine WP.block ?_
          refine WP.seq ?_
          refine WP.region ?_
          refine WL.quiet (Runs.free rfl) rfl rfl (OV.quiet (ov_move rfl rfl)) ?_
          refine WL.quiet (Runs.free rfl) rfl rfl (OV.quiet (ov_assign rfl rfl)) ?_
          refine WL.nil ?_
          refine then_normal ?_
          refine WP.seq ?_
          refine WP.region_draws (by kernel_rfl) (by kernel_rfl) (fun _ s => s.drew) ?_
          refine QL.quiet (Runs.free rfl) rfl rfl (OV.quiet (ov_move rfl rfl)) ?_
          refine QL.quiet (Runs.free rfl) rfl rfl (OV.quiet (ov_move rfl rfl)) ?_
          obtain ⟨x1, e1, hm⟩ := bind_some hm
          obtain ⟨h3, h4, h5, cs1, h6, h7⟩ := h1.get e1 (by decide)
          obtain rfl : cs1 = [(mkS x1.name), (.int .i64 x1.life), (.int .i64 x1.used), (.int .i64 x1.faults), (.bool x1.faulty), (.int .i64 x1.since), (.int .i64 x1.cycles)] := h6
          refine QL.quiet (Runs.free rfl) rfl rfl (OV.quiet (ov_indexAddr Tryd.underlying22 Tryd.sizeOf79 rfl rfl rfl h3 h4 h5)) ?_
          refine QL.quiet (Runs.free rfl) rfl rfl (OV.quiet (ov_load_elems (vs := [(mkS x1.name), (.int .i64 x1.life), (.int .i64 x1.used), (.int .i64 x1.faults), (.bool x1.faulty), (.int .i64 x1.since), (.int .i64 x1.cycles)]) Tryd.isAgg79 Tryd.sizeOf79 rfl rfl rfl h7 h5)) ?_
          refine QL.quiet (Runs.free rfl) rfl rfl (OV.quiet (ov_move rfl rfl)) ?_
          refine QL.quiet (Runs.free rfl) rfl rfl (OV.quiet (ov_move rfl rfl)) ?_
          obtain ⟨x2, e2, hm⟩ := bind_some hm
          obtain ⟨h8, h9, h10, cs2, h11, h12⟩ := h2.get e2 (by decide)
          obtain rfl : cs2 = [(mkS x2.name), (.int .i64 x2.life), (.int .i64 x2.used), (.int .i64 x2.faults), (.bool x2.faulty), (.int .i64 x2.since), (.int .i64 x2.cycles)] := h11
          refine QL.quiet (Runs.free rfl) rfl rfl (OV.quiet (ov_indexAddr Tryd.underlying22 Tryd.sizeOf79 rfl rfl rfl h8 h9 h10)) ?_
          refine QL.quiet (Runs.free rfl) rfl rfl (OV.quiet (ov_load_elems (vs := [(mkS x2.name), (.int .i64 x2.life), (.int .i64 x2.used), (.int .i64 x2.faults), (.bool x2.faulty), (.int .i64 x2.since), (.int .i64 x2.cycles)]) Tryd.isAgg79 Tryd.sizeOf79 rfl rfl rfl h12 h10)) ?_
          refine QL.quiet (Runs.free rfl) rfl rfl (OV.quiet (neq_struct79 rfl rfl rfl)) ?_
          refine QL.nil ?_
          refine then_normal ?_
          refine WP.cond rfl (fun hc5 => ?_) (fun hc5 => ?_)
          · replace hm := ite_t hc5 hm
            refine WP.seq ?_
            refine WP.region ?_
            refine WL.quiet (Runs.free rfl) rfl rfl (OV.quiet (ov_assign rfl rfl)) ?_
            refine WL.nil ?_
            refine then_normal ?_
            refine WP.ret ?_
            refine block_ret ?_
            refine then_ret ?_
            refine then_ret ?_
            refine block_ret ?_
            refine then_ret ?_
            obtain rfl := Option.some.inj hm
            refine retQ_ret Tryd.results35 (Res.tmp rfl Res.nil) rfl (fun w' s => ⟨s.below, ?_⟩)
            exact rfl
          · replace hm := ite_f hc5 hm
            refine WP.skip ?_
            refine block_normal ?_
            refine then_normal ?_
            refine WP.region ?_
            refine WL.quiet (Runs.free rfl) rfl rfl (OV.quiet (ov_add rfl rfl rfl)) ?_
            refine WL.quiet (Runs.free rfl) rfl rfl (OV.quiet (ov_move rfl rfl)) ?_
            refine WL.nil ?_
            refine then_normal ?_
            exact ⟨(IntKind.wrap .i64 (i1 + 1)), (Sub.cons rfl (Sub.cons rfl (Sub.cons rfl (Sub.cons rfl (Sub.nil _))))), fun w' s => s, hm⟩
        · replace hm := ite_f hc4 hm
          refine WP.exit ?_
          refine then_exit ?_
          refine then_exit ?_
          refine block_here ?_
          refine then_normal ?_
          exact ⟨(Sub.nil _), fun w' s => s, hm⟩
    · rintro g' S' ⟨hsub2, hS2, hm⟩
      refine WP.sub hsub2 (WP.weaken hS2 ?_)
      replace hm := hk1.symm.trans hm
      refine WP.seq ?_
      refine WP.region ?_
      refine WL.quiet (Runs.free rfl) rfl rfl (OV.quiet (ov_assign rfl rfl)) ?_
      refine WL.nil ?_
      refine then_normal ?_
      refine WP.ret ?_
      obtain rfl := Option.some.inj hm
      refine retQ_ret Tryd.results35 (Res.tmp rfl Res.nil) rfl (fun w' s => ⟨s.below, ?_⟩)
      exact rfl

theorem law58_awake_con  (w : World) (H : Heap) (hH : Le H (hp w)) (hG : Glob H) (r : Bool) (hm : law58_awake  = some r) :
    Con Tryd.prog 9 [] w H (fun v _ => v = (.bool r)) := by
  unfold law58_awake at hm
  refine con_of hH Tryd.func9 rfl 123 Tryd.ntmps9 rfl ?_
  refine WP.seq ?_
  refine WP.region ?_
  refine WL.quiet (Runs.free rfl) rfl rfl (OV.quiet (ov_assign rfl rfl)) ?_
  refine WL.nil ?_
  refine then_normal ?_
  refine WP.seq ?_
  refine WP.region ?_
  obtain ⟨r1, e1, hm⟩ := bind_some hm
  refine WL.step (Runs.free rfl) rfl rfl (os_con Tryd.call32 rfl rfl (fun w' s => (law58_Four_con   w' H s.hold hG r1 e1)) (fun rr1 H1 hle1 hR1 => ?_))
  replace hG := hG.mono hle1
  obtain ⟨ao1, cap1, rfl, h1, hc1⟩ := hR1
  obtain ⟨r2, e2, hm⟩ := bind_some hm
  refine WL.step (Runs.free rfl) rfl rfl (os_con Tryd.call25 rfl rfl (fun w' s => (journal_Run_con r1 ao1 cap1  w' H1 s.hold h1 hc1 hG r2 e2)) (fun rr2 H2 hle2 hR2 => ?_))
  replace h1 := h1.mono hle2
  replace hG := hG.mono hle2
  obtain ⟨ao2, cap2, rfl, h2, hc2⟩ := hR2
  refine WL.quiet (Runs.free rfl) rfl rfl (OV.quiet (ov_move rfl rfl)) ?_
  refine WL.quiet (Runs.free rfl) rfl rfl (OV.quiet (ov_extract rfl rfl rfl)) ?_
  refine WL.quiet (Runs.free rfl) rfl rfl (OV.quiet (ov_extract rfl rfl rfl)) ?_
  refine WL.quiet (Runs.free rfl) rfl rfl (OV.quiet (ov_extract rfl rfl rfl)) ?_
  refine WL.step (Runs.free rfl) rfl rfl (os_alloc (cs := [(.slice none 0 0), (.int .i64 0)]) Tryd.zeroValue24 rfl rfl (fun b1 => ?_))
  refine WL.step0 (Runs.free rfl) rfl (os_store (i := 0) (vs := [(.slice ao2 r2.1.items.length cap2), (.int .i64 r2.1.cycles)]) (cs' := [(.slice ao2 r2.1.items.length cap2), (.int .i64 r2.1.cycles)]) Tryd.sizeOf24 rfl rfl rfl rfl rfl rfl rfl rfl rfl ?_)
  refine WL.quiet (Runs.free rfl) rfl rfl (OV.quiet (ov_assign rfl rfl)) ?_
  refine WL.quiet (Runs.free rfl) rfl rfl (OV.quiet (ov_assign rfl rfl)) ?_
  refine WL.nil ?_
  refine then_normal ?_
  refine WP.seq ?_
  refine WP.region ?_
  refine WL.quiet (Runs.free rfl) rfl rfl (OV.quiet (ov_load_whole (i := 0) Tryd.isAgg24 Tryd.sizeOf24 rfl rfl rfl rfl)) ?_
  obtain ⟨r3, e3, hm⟩ := bind_some hm
  refine WL.quiet (Runs.free rfl) rfl rfl (oq_con (r := (.tuple #[(.int .i64 r3.1), (.int .i64 r3.2)])) Tryd.call20 rfl rfl (fun w' s => ⟨_, (journal_Left_con r2.1 [65] 20 ao2 cap2  w' H2 s.hold h2 hc2 hG r3 e3)⟩)) ?_
  refine WL.quiet (Runs.free rfl) rfl rfl (OV.quiet (ov_move rfl rfl)) ?_
  refine WL.quiet (Runs.free rfl) rfl rfl (OV.quiet (ov_extract rfl rfl rfl)) ?_
  refine WL.quiet (Runs.free rfl) rfl rfl (OV.quiet (ov_extract rfl rfl rfl)) ?_
  refine WL.quiet (Runs.free rfl) rfl rfl (OV.quiet (ov_assign rfl rfl)) ?_
  refine WL.quiet (Runs.free rfl) rfl rfl (OV.quiet (ov_assign rfl rfl)) ?_
  refine WL.nil ?_
  refine then_normal ?_
  refine WP.seq ?_
  refine WP.region ?_
  refine WL.quiet (Runs.free rfl) rfl rfl (OV.quiet (ov_load_whole (i := 0) Tryd.isAgg24 Tryd.sizeOf24 rfl rfl rfl rfl)) ?_
  obtain ⟨r4, e4, hm⟩ := bind_some hm
  refine WL.step (Runs.free rfl) rfl rfl (os_con Tryd.call18 rfl rfl (fun w' s => (journal_Due_con r2.1 ao2 cap2  w' H2 s.hold h2 hc2 hG r4 e4)) (fun rr3 H3 hle3 hR3 => ?_))
  replace h1 := h1.mono hle3
  replace h2 := h2.mono hle3
  replace hG := hG.mono hle3
  obtain ⟨ao3, cap3, rfl, h3, hc3⟩ := hR3
  refine WL.quiet (Runs.free rfl) rfl rfl (OV.quiet (ov_move rfl rfl)) ?_
  refine WL.quiet (Runs.free rfl) rfl rfl (OV.quiet (ov_extract rfl rfl rfl)) ?_
  refine WL.quiet (Runs.free rfl) rfl rfl (OV.quiet (ov_extract rfl rfl rfl)) ?_
  refine WL.quiet (Runs.free rfl) rfl rfl (OV.quiet (ov_assign rfl rfl)) ?_
  refine WL.quiet (Runs.free rfl) rfl rfl (OV.quiet (ov_assign rfl rfl)) ?_
  refine WL.nil ?_
  refine then_normal ?_
  refine WP.seq ?_
  refine WP.region ?_
  obtain ⟨r5, e5, hm⟩ := bind_some hm
  refine WL.step (Runs.free rfl) rfl rfl (os_con Tryd.call32 rfl rfl (fun w' s => (law58_Four_con   w' H3 s.hold hG r5 e5)) (fun rr4 H4 hle4 hR4 => ?_))
  replace h1 := h1.mono hle4
  replace h2 := h2.mono hle4
  replace h3 := h3.mono hle4
  replace hG := hG.mono hle4
  obtain ⟨ao4, cap4, rfl, h4, hc4⟩ := hR4
  obtain ⟨l1, e6, hm⟩ := bind_some hm
  obtain ⟨ao5, cap5, h5, h6, hc5⟩ := sl_h h4 hc4 e6
  refine WL.quiet (Runs.free rfl) rfl rfl (OV.quiet (h5 Tryd.underlying56 Tryd.sizeOf26 rfl rfl rfl )) ?_
  obtain ⟨r6, e7, hm⟩ := bind_some hm
  refine WL.step (Runs.free rfl) rfl rfl (os_con Tryd.call25 rfl rfl (fun w' s => (journal_Run_con l1 ao5 cap5  w' H4 s.hold h6 hc5 hG r6 e7)) (fun rr5 H5 hle5 hR5 => ?_))
  replace h1 := h1.mono hle5
  replace h2 := h2.mono hle5
  replace h3 := h3.mono hle5
  replace h4 := h4.mono hle5
  replace h6 := h6.mono hle5
  replace hG := hG.mono hle5
  obtain ⟨ao6, cap6, rfl, h7, hc6⟩ := hR5
  refine WL.quiet (Runs.free rfl) rfl rfl (OV.quiet (ov_move rfl rfl)) ?_
  refine WL.quiet (Runs.free rfl) rfl rfl (OV.quiet (ov_extract rfl rfl rfl)) ?_
  refine WL.quiet (Runs.free rfl) rfl rfl (OV.quiet (ov_extract rfl rfl rfl)) ?_
  refine WL.quiet (Runs.free rfl) rfl rfl (OV.quiet (ov_extract rfl rfl rfl)) ?_
  refine WL.step (Runs.free rfl) rfl rfl (os_alloc (cs := [(.slice none 0 0), (.int .i64 0)]) Tryd.zeroValue24 rfl rfl (fun b2 => ?_))
  refine WL.step0 (Runs.free rfl) rfl (os_store (i := 0) (vs := [(.slice ao6 r6.1.items.length cap6), (.int .i64 r6.1.cycles)]) (cs' := [(.slice ao6 r6.1.items.length cap6), (.int .i64 r6.1.cycles)]) Tryd.sizeOf24 rfl rfl rfl rfl rfl rfl rfl rfl rfl ?_)
  refine WL.quiet (Runs.free rfl) rfl rfl (OV.quiet (ov_assign rfl rfl)) ?_
  refine WL.quiet (Runs.free rfl) rfl rfl (OV.quiet (ov_assign rfl rfl)) ?_
  refine WL.nil ?_
  refine then_normal ?_
  refine WP.seq ?_
  refine WP.region ?_
  refine WL.quiet (Runs.free rfl) rfl rfl (OV.quiet (ov_load_whole (i := 0) Tryd.isAgg24 Tryd.sizeOf24 rfl rfl rfl rfl)) ?_
  refine WL.quiet (Runs.free rfl) rfl rfl (OV.quiet (ov_build (r := (.agg #[(.int .i64 1), (mkS [65]), (.int .i64 1), (.int .i64 20)])) rfl rfl (fun _ => by kernel_rfl))) ?_
  obtain ⟨r7, e8, hm⟩ := bind_some hm
  refine WL.step (Runs.free rfl) rfl rfl (os_con Tryd.call10 rfl rfl (fun w' s => (journal_Do_con r6.1 (Entry.mk 1 [65] 1 20) ao6 cap6  w' H5 s.hold h7 hc6 hG r7 e8)) (fun rr6 H6 hle6 hR6 => ?_))
  replace h1 := h1.mono hle6
  replace h2 := h2.mono hle6
  replace h3 := h3.mono hle6
  replace h4 := h4.mono hle6
  replace h6 := h6.mono hle6
  replace h7 := h7.mono hle6
  replace hG := hG.mono hle6
  obtain ⟨ao7, cap7, rfl, h8, hc7⟩ := hR6
  refine WL.quiet (Runs.free rfl) rfl rfl (OV.quiet (ov_move rfl rfl)) ?_
  refine WL.quiet (Runs.free rfl) rfl rfl (OV.quiet (ov_extract rfl rfl rfl)) ?_
  refine WL.quiet (Runs.free rfl) rfl rfl (OV.quiet (ov_extract rfl rfl rfl)) ?_
  refine WL.step (Runs.free rfl) rfl rfl (os_alloc (cs := [(.slice none 0 0), (.int .i64 0)]) Tryd.zeroValue24 rfl rfl (fun b3 => ?_))
  refine WL.step0 (Runs.free rfl) rfl (os_store (i := 0) (vs := [(.slice ao7 r7.1.items.length cap7), (.int .i64 r7.1.cycles)]) (cs' := [(.slice ao7 r7.1.items.length cap7), (.int .i64 r7.1.cycles)]) Tryd.sizeOf24 rfl rfl rfl rfl rfl rfl rfl rfl rfl ?_)
  refine WL.quiet (Runs.free rfl) rfl rfl (OV.quiet (ov_assign rfl rfl)) ?_
  refine WL.nil ?_
  refine then_normal ?_
  refine WP.seq ?_
  refine WP.region ?_
  refine WL.quiet (Runs.free rfl) rfl rfl (OV.quiet (ov_load_whole (i := 2) Tryd.isAgg24 Tryd.sizeOf24 rfl rfl rfl rfl)) ?_
  refine WL.quiet (Runs.free rfl) rfl rfl (OV.quiet (ov_build (r := (.agg #[(.int .i64 3), (mkS [65]), (.int .i64 0), (.int .i64 0)])) rfl rfl (fun _ => by kernel_rfl))) ?_
  obtain ⟨r8, e9, hm⟩ := bind_some hm
  refine WL.step (Runs.free rfl) rfl rfl (os_con Tryd.call10 rfl rfl (fun w' s => (journal_Do_con r2.1 (Entry.mk 3 [65] 0 0) ao2 cap2  w' H6 s.hold h2 hc2 hG r8 e9)) (fun rr7 H7 hle7 hR7 => ?_))
  replace h1 := h1.mono hle7
  replace h2 := h2.mono hle7
  replace h3 := h3.mono hle7
  replace h4 := h4.mono hle7
  replace h6 := h6.mono hle7
  replace h7 := h7.mono hle7
  replace h8 := h8.mono hle7
  replace hG := hG.mono hle7
  obtain ⟨ao8, cap8, rfl, h9, hc8⟩ := hR7
  refine WL.quiet (Runs.free rfl) rfl rfl (OV.quiet (ov_move rfl rfl)) ?_
  refine WL.quiet (Runs.free rfl) rfl rfl (OV.quiet (ov_extract rfl rfl rfl)) ?_
  refine WL.quiet (Runs.free rfl) rfl rfl (OV.quiet (ov_extract rfl rfl rfl)) ?_
  refine WL.step (Runs.free rfl) rfl rfl (os_alloc (cs := [(.slice none 0 0), (.int .i64 0)]) Tryd.zeroValue24 rfl rfl (fun b4 => ?_))
  refine WL.step0 (Runs.free rfl) rfl (os_store (i := 0) (vs := [(.slice ao8 r8.1.items.length cap8), (.int .i64 r8.1.cycles)]) (cs' := [(.slice ao8 r8.1.items.length cap8), (.int .i64 r8.1.cycles)]) Tryd.sizeOf24 rfl rfl rfl rfl rfl rfl rfl rfl rfl ?_)
  refine WL.quiet (Runs.free rfl) rfl rfl (OV.quiet (ov_assign rfl rfl)) ?_
  refine WL.nil ?_
  refine then_normal ?_
  refine WP.seq ?_
  refine WP.region ?_
  refine WL.quiet (Runs.free rfl) rfl rfl (OV.quiet (ov_load_whole (i := 3) Tryd.isAgg24 Tryd.sizeOf24 rfl rfl rfl rfl)) ?_
  refine WL.quiet (Runs.free rfl) rfl rfl (OV.quiet (ov_build (r := (.agg #[(.int .i64 0), (mkS [65]), (.int .i64 5), (.int .i64 0)])) rfl rfl (fun _ => by kernel_rfl))) ?_
  obtain ⟨r9, e10, hm⟩ := bind_some hm
  refine WL.step (Runs.free rfl) rfl rfl (os_con Tryd.call10 rfl rfl (fun w' s => (journal_Do_con r2.1 (Entry.mk 0 [65] 5 0) ao2 cap2  w' H7 s.hold h2 hc2 hG r9 e10)) (fun rr8 H8 hle8 hR8 => ?_))
  replace h1 := h1.mono hle8
  replace h2 := h2.mono hle8
  replace h3 := h3.mono hle8
  replace h4 := h4.mono hle8
  replace h6 := h6.mono hle8
  replace h7 := h7.mono hle8
  replace h8 := h8.mono hle8
  replace h9 := h9.mono hle8
  replace hG := hG.mono hle8
  obtain ⟨ao9, cap9, rfl, h10, hc9⟩ := hR8
  refine WL.quiet (Runs.free rfl) rfl rfl (OV.quiet (ov_move rfl rfl)) ?_
  refine WL.quiet (Runs.free rfl) rfl rfl (OV.quiet (ov_extract rfl rfl rfl)) ?_
  refine WL.quiet (Runs.free rfl) rfl rfl (OV.quiet (ov_extract rfl rfl rfl)) ?_
  refine WL.step (Runs.free rfl) rfl rfl (os_alloc (cs := [(.slice none 0 0), (.int .i64 0)]) Tryd.zeroValue24 rfl rfl (fun b5 => ?_))
  refine WL.step0 (Runs.free rfl) rfl (os_store (i := 0) (vs := [(.slice ao9 r9.1.items.length cap9), (.int .i64 r9.1.cycles)]) (cs' := [(.slice ao9 r9.1.items.length cap9), (.int .i64 r9.1.cycles)]) Tryd.sizeOf24 rfl rfl rfl rfl rfl rfl rfl rfl rfl ?_)
  refine WL.quiet (Runs.free rfl) rfl rfl (OV.quiet (ov_assign rfl rfl)) ?_
  refine WL.nil ?_
  refine then_normal ?_
  refine WP.seq ?_
  refine WP.region ?_
  obtain ⟨r10, e11, hm⟩ := bind_some hm
  refine WL.step (Runs.free rfl) rfl rfl (os_con Tryd.call32 rfl rfl (fun w' s => (law58_Four_con   w' H8 s.hold hG r10 e11)) (fun rr9 H9 hle9 hR9 => ?_))
  replace h1 := h1.mono hle9
  replace h2 := h2.mono hle9
  replace h3 := h3.mono hle9
  replace h4 := h4.mono hle9
  replace h6 := h6.mono hle9
  replace h7 := h7.mono hle9
  replace h8 := h8.mono hle9
  replace h9 := h9.mono hle9
  replace h10 := h10.mono hle9
  replace hG := hG.mono hle9
  obtain ⟨ao10, cap10, rfl, h11, hc10⟩ := hR9
  obtain ⟨l2, e12, hm⟩ := bind_some hm
  obtain ⟨ao11, cap11, h12, h13, hc11⟩ := sl_h h11 hc10 e12
  refine WL.quiet (Runs.free rfl) rfl rfl (OV.quiet (h12 Tryd.underlying56 Tryd.sizeOf26 rfl rfl rfl )) ?_
  obtain ⟨r11, e13, hm⟩ := bind_some hm
  refine WL.quiet (Runs.free rfl) rfl rfl (oq_con (r := (.tuple #[(mkS r11.1), (.int .i64 r11.2)])) Tryd.call27 rfl rfl (fun w' s => ⟨_, (journal_Log_con l2 ao11 cap11  w' H9 s.hold h13 hc11 hG r11 e13)⟩)) ?_
  refine WL.quiet (Runs.free rfl) rfl rfl (OV.quiet (ov_move rfl rfl)) ?_
  refine WL.quiet (Runs.free rfl) rfl rfl (OV.quiet (ov_extract rfl rfl rfl)) ?_
  refine WL.quiet (Runs.free rfl) rfl rfl (OV.quiet (ov_extract rfl rfl rfl)) ?_
  refine WL.quiet (Runs.free rfl) rfl rfl (OV.quiet (ov_assign rfl rfl)) ?_
  refine WL.quiet (Runs.free rfl) rfl rfl (OV.quiet (ov_assign rfl rfl)) ?_
  refine WL.nil ?_
  refine then_normal ?_
  refine WP.seq ?_
  refine WP.seq ?_
  refine WP.region ?_
  refine WL.quiet (Runs.free rfl) rfl rfl (OV.quiet (ov_move rfl rfl)) ?_
  refine WL.quiet (Runs.free rfl) rfl rfl (OV.quiet (ov_move rfl rfl)) ?_
  refine WL.quiet (Runs.free rfl) rfl rfl (OV.quiet (ov_add rfl rfl rfl)) ?_
  refine WL.quiet (Runs.free rfl) rfl rfl (OV.quiet (ov_move rfl rfl)) ?_
  refine WL.quiet (Runs.free rfl) rfl rfl (OV.quiet (ov_add rfl rfl rfl)) ?_
  refine WL.quiet (Runs.free rfl) rfl rfl (OV.quiet (ov_move rfl rfl)) ?_
  refine WL.quiet (Runs.free rfl) rfl rfl (OV.quiet (ov_add rfl rfl rfl)) ?_
  refine WL.quiet (Runs.free rfl) rfl rfl (OV.quiet (ov_move rfl rfl)) ?_
  refine WL.quiet (Runs.free rfl) rfl rfl (OV.quiet (ov_add rfl rfl rfl)) ?_
  refine WL.quiet (Runs.free rfl) rfl rfl (OV.quiet (ov_neq rfl rfl rfl)) ?_
  refine WL.quiet (Runs.free rfl) rfl rfl (OV.quiet (ov_move rfl rfl)) ?_
  refine WL.cut_bool 3 79 (x := (((IntKind.wrap .i64 ((IntKind.wrap .i64 ((IntKind.wrap .i64 ((IntKind.wrap .i64 (r2.2.2 + r3.2)) + r4.2)) + r6.2.2)) + r11.2)) != 0) || (r7.2 != 14))) ?_ ?_
  · rcases Bool.eq_false_or_eq_true ((IntKind.wrap .i64 ((IntKind.wrap .i64 ((IntKind.wrap .i64 ((IntKind.wrap .i64 (r2.2.2 + r3.2)) + r4.2)) + r6.2.2)) + r11.2)) != 0) with hc12 | hc12
    · skip
      refine WL.idle (Idle.no rfl rfl rfl hc12) rfl rfl ?_
      refine WL.idle (Idle.no rfl rfl rfl hc12) rfl rfl ?_
      refine WL.quiet (Runs.free rfl) rfl rfl (OV.quiet (ov_pick_true rfl (guard_eq rfl hc12) rfl)) ?_
      exact WL.nil ⟨Sub.cons' rfl (congrArg Value.bool (by rw [hc12]; rfl)) (Sub.skip rfl (Sub.skip rfl (Sub.skip rfl (Sub.refl _)))), fun _ s => s⟩
    · skip
      refine WL.quiet (Runs.yes rfl rfl rfl hc12) rfl rfl (OV.quiet (ov_move rfl rfl)) ?_
      refine WL.quiet (Runs.yes rfl rfl rfl hc12) rfl rfl (OV.quiet (ov_neq rfl rfl rfl)) ?_
      refine WL.quiet (Runs.free rfl) rfl rfl (OV.quiet (ov_pick_false rfl (guard_eq rfl hc12) rfl)) ?_
      exact WL.nil ⟨Sub.cons' rfl (congrArg Value.bool (by rw [hc12]; rfl)) (Sub.skip rfl (Sub.skip rfl (Sub.skip rfl (Sub.refl _)))), fun _ s => s⟩
  refine WL.quiet (Runs.free rfl) rfl rfl (OV.quiet (ov_move rfl rfl)) ?_
  refine WL.cut_bool 3 83 (x := ((((IntKind.wrap .i64 ((IntKind.wrap .i64 ((IntKind.wrap .i64 ((IntKind.wrap .i64 (r2.2.2 + r3.2)) + r4.2)) + r6.2.2)) + r11.2)) != 0) || (r7.2 != 14)) || (r8.2 != 14))) ?_ ?_
  · rcases Bool.eq_false_or_eq_true (((IntKind.wrap .i64 ((IntKind.wrap .i64 ((IntKind.wrap .i64 ((IntKind.wrap .i64 (r2.2.2 + r3.2)) + r4.2)) + r6.2.2)) + r11.2)) != 0) || (r7.2 != 14)) with hc13 | hc13
    · skip
      refine WL.idle (Idle.no rfl rfl rfl hc13) rfl rfl ?_
      refine WL.idle (Idle.no rfl rfl rfl hc13) rfl rfl ?_
      refine WL.quiet (Runs.free rfl) rfl rfl (OV.quiet (ov_pick_true rfl (guard_eq rfl hc13) rfl)) ?_
      exact WL.nil ⟨Sub.cons' rfl (congrArg Value.bool (by rw [hc13]; rfl)) (Sub.skip rfl (Sub.skip rfl (Sub.skip rfl (Sub.refl _)))), fun _ s => s⟩
    · skip
      refine WL.quiet (Runs.yes rfl rfl rfl hc13) rfl rfl (OV.quiet (ov_move rfl rfl)) ?_
      refine WL.quiet (Runs.yes rfl rfl rfl hc13) rfl rfl (OV.quiet (ov_neq rfl rfl rfl)) ?_
      refine WL.quiet (Runs.free rfl) rfl rfl (OV.quiet (ov_pick_false rfl (guard_eq rfl hc13) rfl)) ?_
      exact WL.nil ⟨Sub.cons' rfl (congrArg Value.bool (by rw [hc13]; rfl)) (Sub.skip rfl (Sub.skip rfl (Sub.skip rfl (Sub.refl _)))), fun _ s => s⟩
  refine WL.quiet (Runs.free rfl) rfl rfl (OV.quiet (ov_move rfl rfl)) ?_
  refine WL.cut_bool 3 87 (x := (((((IntKind.wrap .i64 ((IntKind.wrap .i64 ((IntKind.wrap .i64 ((IntKind.wrap .i64 (r2.2.2 + r3.2)) + r4.2)) + r6.2.2)) + r11.2)) != 0) || (r7.2 != 14)) || (r8.2 != 14)) || (r9.2 != 7))) ?_ ?_
  · rcases Bool.eq_false_or_eq_true ((((IntKind.wrap .i64 ((IntKind.wrap .i64 ((IntKind.wrap .i64 ((IntKind.wrap .i64 (r2.2.2 + r3.2)) + r4.2)) + r6.2.2)) + r11.2)) != 0) || (r7.2 != 14)) || (r8.2 != 14)) with hc14 | hc14
    · skip
      refine WL.idle (Idle.no rfl rfl rfl hc14) rfl rfl ?_
      refine WL.idle (Idle.no rfl rfl rfl hc14) rfl rfl ?_
      refine WL.quiet (Runs.free rfl) rfl rfl (OV.quiet (ov_pick_true rfl (guard_eq rfl hc14) rfl)) ?_
      exact WL.nil ⟨Sub.cons' rfl (congrArg Value.bool (by rw [hc14]; rfl)) (Sub.skip rfl (Sub.skip rfl (Sub.skip rfl (Sub.refl _)))), fun _ s => s⟩
    · skip
      refine WL.quiet (Runs.yes rfl rfl rfl hc14) rfl rfl (OV.quiet (ov_move rfl rfl)) ?_
      refine WL.quiet (Runs.yes rfl rfl rfl hc14) rfl rfl (OV.quiet (ov_neq rfl rfl rfl)) ?_
      refine WL.quiet (Runs.free rfl) rfl rfl (OV.quiet (ov_pick_false rfl (guard_eq rfl hc14) rfl)) ?_
      exact WL.nil ⟨Sub.cons' rfl (congrArg Value.bool (by rw [hc14]; rfl)) (Sub.skip rfl (Sub.skip rfl (Sub.skip rfl (Sub.refl _)))), fun _ s => s⟩
  refine WL.quiet (Runs.free rfl) rfl rfl (OV.quiet (ov_move rfl rfl)) ?_
  refine WL.cut_bool 3 91 (x := ((((((IntKind.wrap .i64 ((IntKind.wrap .i64 ((IntKind.wrap .i64 ((IntKind.wrap .i64 (r2.2.2 + r3.2)) + r4.2)) + r6.2.2)) + r11.2)) != 0) || (r7.2 != 14)) || (r8.2 != 14)) || (r9.2 != 7)) || (r3.1 != 2))) ?_ ?_
  · rcases Bool.eq_false_or_eq_true (((((IntKind.wrap .i64 ((IntKind.wrap .i64 ((IntKind.wrap .i64 ((IntKind.wrap .i64 (r2.2.2 + r3.2)) + r4.2)) + r6.2.2)) + r11.2)) != 0) || (r7.2 != 14)) || (r8.2 != 14)) || (r9.2 != 7)) with hc15 | hc15
    · skip
      refine WL.idle (Idle.no rfl rfl rfl hc15) rfl rfl ?_
      refine WL.idle (Idle.no rfl rfl rfl hc15) rfl rfl ?_
      refine WL.quiet (Runs.free rfl) rfl rfl (OV.quiet (ov_pick_true rfl (guard_eq rfl hc15) rfl)) ?_
      exact WL.nil ⟨Sub.cons' rfl (congrArg Value.bool (by rw [hc15]; rfl)) (Sub.skip rfl (Sub.skip rfl (Sub.skip rfl (Sub.refl _)))), fun _ s => s⟩
    · skip
      refine WL.quiet (Runs.yes rfl rfl rfl hc15) rfl rfl (OV.quiet (ov_move rfl rfl)) ?_
      refine WL.quiet (Runs.yes rfl rfl rfl hc15) rfl rfl (OV.quiet (ov_neq rfl rfl rfl)) ?_
      refine WL.quiet (Runs.free rfl) rfl rfl (OV.quiet (ov_pick_false rfl (guard_eq rfl hc15) rfl)) ?_
      exact WL.nil ⟨Sub.cons' rfl (congrArg Value.bool (by rw [hc15]; rfl)) (Sub.skip rfl (Sub.skip rfl (Sub.skip rfl (Sub.refl _)))), fun _ s => s⟩
  refine WL.quiet (Runs.free rfl) rfl rfl (OV.quiet (ov_move rfl rfl)) ?_
  refine WL.cut_bool 4 96 (x := (((((((IntKind.wrap .i64 ((IntKind.wrap .i64 ((IntKind.wrap .i64 ((IntKind.wrap .i64 (r2.2.2 + r3.2)) + r4.2)) + r6.2.2)) + r11.2)) != 0) || (r7.2 != 14)) || (r8.2 != 14)) || (r9.2 != 7)) || (r3.1 != 2)) || ((r4.1.length : Int) != 0))) ?_ ?_
  · rcases Bool.eq_false_or_eq_true ((((((IntKind.wrap .i64 ((IntKind.wrap .i64 ((IntKind.wrap .i64 ((IntKind.wrap .i64 (r2.2.2 + r3.2)) + r4.2)) + r6.2.2)) + r11.2)) != 0) || (r7.2 != 14)) || (r8.2 != 14)) || (r9.2 != 7)) || (r3.1 != 2)) with hc16 | hc16
    · skip
      refine WL.idle (Idle.no rfl rfl rfl hc16) rfl rfl ?_
      refine WL.idle (Idle.no rfl rfl rfl hc16) rfl rfl ?_
      refine WL.idle (Idle.no rfl rfl rfl hc16) rfl rfl ?_
      refine WL.quiet (Runs.free rfl) rfl rfl (OV.quiet (ov_pick_true rfl (guard_eq rfl hc16) rfl)) ?_
      exact WL.nil ⟨Sub.cons' rfl (congrArg Value.bool (by rw [hc16]; rfl)) (Sub.skip rfl (Sub.skip rfl (Sub.skip rfl (Sub.skip rfl (Sub.refl _))))), fun _ s => s⟩
    · skip
      refine WL.quiet (Runs.yes rfl rfl rfl hc16) rfl rfl (OV.quiet (ov_move rfl rfl)) ?_
      refine WL.quiet (Runs.yes rfl rfl rfl hc16) rfl rfl (OV.quiet (ov_len_slice Tryd.underlying45 rfl rfl)) ?_
      refine WL.quiet (Runs.yes rfl rfl rfl hc16) rfl rfl (OV.quiet (ov_neq rfl rfl rfl)) ?_
      refine WL.quiet (Runs.free rfl) rfl rfl (OV.quiet (ov_pick_false rfl (guard_eq rfl hc16) rfl)) ?_
      exact WL.nil ⟨Sub.cons' rfl (congrArg Value.bool (by rw [hc16]; rfl)) (Sub.skip rfl (Sub.skip rfl (Sub.skip rfl (Sub.skip rfl (Sub.refl _))))), fun _ s => s⟩
  refine WL.quiet (Runs.free rfl) rfl rfl (OV.quiet (ov_move rfl rfl)) ?_
  refine WL.cut_bool 4 101 (x := ((((((((IntKind.wrap .i64 ((IntKind.wrap .i64 ((IntKind.wrap .i64 ((IntKind.wrap .i64 (r2.2.2 + r3.2)) + r4.2)) + r6.2.2)) + r11.2)) != 0) || (r7.2 != 14)) || (r8.2 != 14)) || (r9.2 != 7)) || (r3.1 != 2)) || ((r4.1.length : Int) != 0)) || (r2.1.cycles != 3))) ?_ ?_
  · rcases Bool.eq_false_or_eq_true (((((((IntKind.wrap .i64 ((IntKind.wrap .i64 ((IntKind.wrap .i64 ((IntKind.wrap .i64 (r2.2.2 + r3.2)) + r4.2)) + r6.2.2)) + r11.2)) != 0) || (r7.2 != 14)) || (r8.2 != 14)) || (r9.2 != 7)) || (r3.1 != 2)) || ((r4.1.length : Int) != 0)) with hc17 | hc17
    · skip
      refine WL.idle (Idle.no rfl rfl rfl hc17) rfl rfl ?_
      refine WL.idle (Idle.no rfl rfl rfl hc17) rfl rfl ?_
      refine WL.idle (Idle.no rfl rfl rfl hc17) rfl rfl ?_
      refine WL.quiet (Runs.free rfl) rfl rfl (OV.quiet (ov_pick_true rfl (guard_eq rfl hc17) rfl)) ?_
      exact WL.nil ⟨Sub.cons' rfl (congrArg Value.bool (by rw [hc17]; rfl)) (Sub.skip rfl (Sub.skip rfl (Sub.skip rfl (Sub.skip rfl (Sub.refl _))))), fun _ s => s⟩
    · skip
      refine WL.quiet (Runs.yes rfl rfl rfl hc17) rfl rfl (OV.quiet (ov_fieldAddr Tryd.underlying24 rfl rfl rfl Tryd.sizeOf3 rfl rfl)) ?_
      refine WL.quiet (Runs.yes rfl rfl rfl hc17) rfl rfl (OV.quiet (ov_load_box (i := 4) Tryd.isAgg3 rfl rfl rfl rfl)) ?_
      refine WL.quiet (Runs.yes rfl rfl rfl hc17) rfl rfl (OV.quiet (ov_neq rfl rfl rfl)) ?_
      refine WL.quiet (Runs.free rfl) rfl rfl (OV.quiet (ov_pick_false rfl (guard_eq rfl hc17) rfl)) ?_
      exact WL.nil ⟨Sub.cons' rfl (congrArg Value.bool (by rw [hc17]; rfl)) (Sub.skip rfl (Sub.skip rfl (Sub.skip rfl (Sub.skip rfl (Sub.refl _))))), fun _ s => s⟩
  refine WL.quiet (Runs.free rfl) rfl rfl (OV.quiet (ov_move rfl rfl)) ?_
  obtain ⟨c1, e14, hm⟩ := bind_some hm
  refine WL.cut_bool 7 109 (x := c1) ?_ ?_
  · rcases Bool.eq_false_or_eq_true ((((((((IntKind.wrap .i64 ((IntKind.wrap .i64 ((IntKind.wrap .i64 ((IntKind.wrap .i64 (r2.2.2 + r3.2)) + r4.2)) + r6.2.2)) + r11.2)) != 0) || (r7.2 != 14)) || (r8.2 != 14)) || (r9.2 != 7)) || (r3.1 != 2)) || ((r4.1.length : Int) != 0)) || (r2.1.cycles != 3)) with hc18 | hc18
    · skip
      replace hm := ite_t hc18 e14
      refine WL.idle (Idle.no rfl rfl rfl hc18) rfl rfl ?_
      refine WL.idle (Idle.no rfl rfl rfl hc18) rfl rfl ?_
      refine WL.idle (Idle.no rfl rfl rfl hc18) rfl rfl ?_
      refine WL.idle (Idle.no rfl rfl rfl hc18) rfl rfl ?_
      refine WL.idle (Idle.no rfl rfl rfl hc18) rfl rfl ?_
      refine WL.idle (Idle.no rfl rfl rfl hc18) rfl rfl ?_
      refine WL.quiet (Runs.free rfl) rfl rfl (OV.quiet (ov_pick_true rfl (guard_eq rfl hc18) rfl)) ?_
      exact WL.nil ⟨Sub.cons' rfl (congrArg Value.bool (Option.some.inj hm)) (Sub.skip rfl (Sub.skip rfl (Sub.skip rfl (Sub.skip rfl (Sub.skip rfl (Sub.skip rfl (Sub.skip rfl (Sub.refl _)))))))), fun _ s => s⟩
    · skip
      replace hm := ite_f hc18 e14
      refine WL.quiet (Runs.yes rfl rfl rfl hc18) rfl rfl (OV.quiet (ov_move rfl rfl)) ?_
      obtain ⟨r12, e15, hm⟩ := bind_some hm
      refine WL.quiet (Runs.yes rfl rfl rfl hc18) rfl rfl (oq_con (r := (.int .i64 r12)) Tryd.call34 rfl rfl (fun w' s => ⟨_, (ref58_Mark_con 0 [112, 97, 114, 116, 32, 65, 32, 49, 48, 48]  w' H9 s.hold hG r12 e15)⟩)) ?_
      obtain ⟨r13, e16, hm⟩ := bind_some hm
      refine WL.quiet (Runs.yes rfl rfl rfl hc18) rfl rfl (oq_con (r := (mkS r13)) Tryd.call33 rfl rfl (fun w' s => ⟨_, (ref12_Digits_con r12  w' H9 s.hold hG r13 e16)⟩)) ?_
      obtain ⟨s1, e17, hm⟩ := bind_some hm
      refine WL.quiet (Runs.yes rfl rfl rfl hc18) rfl rfl (OV.quiet (ov_sadd' e17 rfl rfl rfl)) ?_
      obtain ⟨s2, e18, hm⟩ := bind_some hm
      refine WL.quiet (Runs.yes rfl rfl rfl hc18) rfl rfl (OV.quiet (ov_sadd' e18 rfl rfl rfl)) ?_
      refine WL.quiet (Runs.yes rfl rfl rfl hc18) rfl rfl (OV.quiet (ov_sneq rfl rfl rfl)) ?_
      refine WL.quiet (Runs.free rfl) rfl rfl (OV.quiet (ov_pick_false rfl (guard_eq rfl hc18) rfl)) ?_
      exact WL.nil ⟨Sub.cons' rfl (congrArg Value.bool (Option.some.inj hm)) (Sub.skip rfl (Sub.skip rfl (Sub.skip rfl (Sub.skip rfl (Sub.skip rfl (Sub.skip rfl (Sub.skip rfl (Sub.refl _)))))))), fun _ s => s⟩
  refine WL.nil ?_
  refine then_normal ?_
  refine WP.cond rfl (fun hc19 => ?_) (fun hc19 => ?_)
  · replace hm := ite_t hc19 hm
    refine WP.seq ?_
    refine WP.region ?_
    refine WL.quiet (Runs.free rfl) rfl rfl (OV.quiet (ov_assign rfl rfl)) ?_
    refine WL.nil ?_
    refine then_normal ?_
    refine WP.ret ?_
    refine then_ret ?_
    obtain rfl := Option.some.inj hm
    refine retQ_ret Tryd.results9 (Res.tmp rfl Res.nil) rfl (fun w' s => ⟨s.below, ?_⟩)
    exact rfl
  · replace hm := ite_f hc19 hm
    refine WP.skip ?_
    refine then_normal ?_
    refine WP.seq ?_
    refine WP.region ?_
    refine WL.quiet (Runs.free rfl) rfl rfl (OV.quiet (ov_fieldAddr Tryd.underlying24 rfl rfl rfl Tryd.sizeOf22 rfl rfl)) ?_
    refine WL.quiet (Runs.free rfl) rfl rfl (OV.quiet (ov_load_box (i := 4) Tryd.isAgg22 rfl rfl rfl rfl)) ?_
    refine WL.quiet (Runs.free rfl) rfl rfl (OV.quiet (ov_build (r := (.agg #[(mkS [65]), (.int .i64 100), (.int .i64 60), (.int .i64 1), (.bool false), (.int .i64 0), (.int .i64 3)])) rfl rfl (fun _ => by kernel_rfl))) ?_
    have rl1 : RL H9 encItem ([(Item.mk [65] 100 60 1 false 0 3)] : List Item) [(mkS [65]), (.int .i64 100), (.int .i64 60), (.int .i64 1), (.bool false), (.int .i64 0), (.int .i64 3)] := RL.cons (cs := [(mkS [65]), (.int .i64 100), (.int .i64 60), (.int .i64 1), (.bool false), (.int .i64 0), (.int .i64 3)]) (xs := []) rfl (RL.nil _ _)
    refine WL.step (Runs.free rfl) rfl rfl (os_buildSlice (cs := [(mkS [65]), (.int .i64 100), (.int .i64 60), (.int .i64 1), (.bool false), (.int .i64 0), (.int .i64 3)]) (E := 79) (sz := 7) rfl rfl (fun _ => by kernel_rfl) rfl (by decide) (fun b6 => ?_))
    refine WL.held rl1 (fun H10 hc20 hle10 h14 => ?_)
    replace h1 := h1.mono hle10
    replace h2 := h2.mono hle10
    replace h3 := h3.mono hle10
    replace h4 := h4.mono hle10
    replace h6 := h6.mono hle10
    replace h7 := h7.mono hle10
    replace h8 := h8.mono hle10
    replace h9 := h9.mono hle10
    replace h10 := h10.mono hle10
    replace h11 := h11.mono hle10
    replace h13 := h13.mono hle10
    replace hG := hG.mono hle10
    obtain ⟨r14, e19, hm⟩ := bind_some hm
    refine WL.quiet (Runs.free rfl) rfl rfl (oq_con (r := (.bool r14)) Tryd.call35 rfl rfl (fun w' s => ⟨_, (slices_Equal_journal_Itemjournal_Item_con r2.1.items ([(Item.mk [65] 100 60 1 false 0 3)] : List Item) ao2 cap2 (some ⟨b6, 0, none⟩) 1  w' H10 s.hold h2 hc2 h14 hc20 hG r14 e19)⟩)) ?_
    refine WL.quiet (Runs.free rfl) rfl rfl (OV.quiet (ov_move rfl rfl)) ?_
    obtain ⟨c2, e20, hm⟩ := bind_some hm
    refine WL.cut_bool 3 118 (x := c2) ?_ ?_
    · rcases Bool.eq_false_or_eq_true r14 with hc21 | hc21
      · skip
        replace hm := ite_t hc21 e20
        obtain ⟨r15, e21, hm⟩ := bind_some hm
        refine WL.quiet (Runs.yes rfl rfl rfl hc21) rfl rfl (oq_con (r := (.int .i64 r15)) Tryd.call34 rfl rfl (fun w' s => ⟨_, (ref58_Mark_con 0 [97]  w' H10 s.hold hG r15 e21)⟩)) ?_
        refine WL.quiet (Runs.yes rfl rfl rfl hc21) rfl rfl (OV.quiet (ov_eql rfl rfl rfl)) ?_
        refine WL.quiet (Runs.free rfl) rfl rfl (OV.quiet (ov_pick_true rfl (guard_eq rfl hc21) rfl)) ?_
        exact WL.nil ⟨Sub.cons' rfl (congrArg Value.bool (Option.some.inj hm)) (Sub.skip rfl (Sub.skip rfl (Sub.skip rfl (Sub.refl _)))), fun _ s => s⟩
      · skip
        replace hm := ite_f hc21 e20
        refine WL.idle (Idle.no rfl rfl rfl hc21) rfl rfl ?_
        refine WL.idle (Idle.no rfl rfl rfl hc21) rfl rfl ?_
        refine WL.quiet (Runs.free rfl) rfl rfl (OV.quiet (ov_pick_false rfl (guard_eq rfl hc21) rfl)) ?_
        exact WL.nil ⟨Sub.cons' rfl (congrArg Value.bool (Option.some.inj hm)) (Sub.skip rfl (Sub.skip rfl (Sub.skip rfl (Sub.refl _)))), fun _ s => s⟩
    refine WL.quiet (Runs.free rfl) rfl rfl (OV.quiet (ov_move rfl rfl)) ?_
    obtain ⟨c3, e22, hm⟩ := bind_some hm
    refine WL.cut_bool 3 122 (x := c3) ?_ ?_
    · rcases Bool.eq_false_or_eq_true c2 with hc22 | hc22
      · skip
        replace hm := ite_t hc22 e22
        obtain ⟨r16, e23, hm⟩ := bind_some hm
        refine WL.quiet (Runs.yes rfl rfl rfl hc22) rfl rfl (oq_con (r := (.int .i64 r16)) Tryd.call34 rfl rfl (fun w' s => ⟨_, (ref58_Mark_con 0 [97, 98]  w' H10 s.hold hG r16 e23)⟩)) ?_
        refine WL.quiet (Runs.yes rfl rfl rfl hc22) rfl rfl (OV.quiet (ov_eql rfl rfl rfl)) ?_
        refine WL.quiet (Runs.free rfl) rfl rfl (OV.quiet (ov_pick_true rfl (guard_eq rfl hc22) rfl)) ?_
        exact WL.nil ⟨Sub.cons' rfl (congrArg Value.bool (Option.some.inj hm)) (Sub.skip rfl (Sub.skip rfl (Sub.skip rfl (Sub.refl _)))), fun _ s => s⟩
      · skip
        replace hm := ite_f hc22 e22
        refine WL.idle (Idle.no rfl rfl rfl hc22) rfl rfl ?_
        refine WL.idle (Idle.no rfl rfl rfl hc22) rfl rfl ?_
        refine WL.quiet (Runs.free rfl) rfl rfl (OV.quiet (ov_pick_false rfl (guard_eq rfl hc22) rfl)) ?_
        exact WL.nil ⟨Sub.cons' rfl (congrArg Value.bool (Option.some.inj hm)) (Sub.skip rfl (Sub.skip rfl (Sub.skip rfl (Sub.refl _)))), fun _ s => s⟩
    refine WL.quiet (Runs.free rfl) rfl rfl (OV.quiet (ov_assign rfl rfl)) ?_
    refine WL.nil ?_
    refine then_normal ?_
    refine WP.ret ?_
    obtain rfl := Option.some.inj hm
    refine retQ_ret Tryd.results9 (Res.tmp rfl Res.nil) rfl (fun w' s => ⟨s.below, ?_⟩)
    exact rfl

theorem ref58_in_con (p_n : Int) (p_low : Int) (p_high : Int) (w : World) (H : Heap) (hH : Le H (hp w)) (hG : Glob H) (r : Bool) (hm : ref58_in p_n p_low p_high = some r) :
    Con Tryd.prog 40 [(.int .i64 p_n), (.int .i64 p_low), (.int .i64 p_high)] w H (fun v _ => v = (.bool r)) := by
  unfold ref58_in at hm
  refine con_of hH Tryd.func40 rfl 15 Tryd.ntmps40 rfl ?_
  refine WP.seq ?_
  refine WP.region ?_
  refine WL.quiet (Runs.free rfl) rfl rfl (OV.quiet (ov_assign rfl rfl)) ?_
  refine WL.nil ?_
  refine then_normal ?_
  refine WP.seq ?_
  refine WP.region ?_
  refine WL.quiet (Runs.free rfl) rfl rfl (OV.quiet (ov_move rfl rfl)) ?_
  refine WL.quiet (Runs.free rfl) rfl rfl (OV.quiet (ov_move rfl rfl)) ?_
  refine WL.quiet (Runs.free rfl) rfl rfl (OV.quiet (ov_geq rfl rfl rfl)) ?_
  refine WL.quiet (Runs.free rfl) rfl rfl (OV.quiet (ov_move rfl rfl)) ?_
  refine WL.cut_bool 4 14 (x := ((decide (p_n ≥ p_low)) && (decide (p_n ≤ p_high)))) ?_ ?_
  · rcases Bool.eq_false_or_eq_true (decide (p_n ≥ p_low)) with hc1 | hc1
    · skip
      refine WL.quiet (Runs.yes rfl rfl rfl hc1) rfl rfl (OV.quiet (ov_move rfl rfl)) ?_
      refine WL.quiet (Runs.yes rfl rfl rfl hc1) rfl rfl (OV.quiet (ov_move rfl rfl)) ?_
      refine WL.quiet (Runs.yes rfl rfl rfl hc1) rfl rfl (OV.quiet (ov_leq rfl rfl rfl)) ?_
      refine WL.quiet (Runs.free rfl) rfl rfl (OV.quiet (ov_pick_true rfl (guard_eq rfl hc1) rfl)) ?_
      exact WL.nil ⟨Sub.cons' rfl (congrArg Value.bool (by rw [hc1]; rfl)) (Sub.skip rfl (Sub.skip rfl (Sub.skip rfl (Sub.skip rfl (Sub.refl _))))), fun _ s => s⟩
    · skip
      refine WL.idle (Idle.no rfl rfl rfl hc1) rfl rfl ?_
      refine WL.idle (Idle.no rfl rfl rfl hc1) rfl rfl ?_
      refine WL.idle (Idle.no rfl rfl rfl hc1) rfl rfl ?_
      refine WL.quiet (Runs.free rfl) rfl rfl (OV.quiet (ov_pick_false rfl (guard_eq rfl hc1) rfl)) ?_
      exact WL.nil ⟨Sub.cons' rfl (congrArg Value.bool (by rw [hc1]; rfl)) (Sub.skip rfl (Sub.skip rfl (Sub.skip rfl (Sub.skip rfl (Sub.refl _))))), fun _ s => s⟩
  refine WL.quiet (Runs.free rfl) rfl rfl (OV.quiet (ov_assign rfl rfl)) ?_
  refine WL.nil ?_
  refine then_normal ?_
  refine WP.ret ?_
  obtain rfl := Option.some.inj hm
  refine retQ_ret Tryd.results40 (Res.tmp rfl Res.nil) rfl (fun w' s => ⟨s.below, ?_⟩)
  exact rfl

end Go.Proofs.YtpigfknmlmeihaaDoor.W
