/- The walks. Written by our own program gen.py; Lean checks it. -/
import Derived.Test.YtmfphbdafgmplaaDoorPlain
import Derived.Test.YtmfphbdafgmplaaDoorEqs
import Derived.Test.YtmfphbdafgmplaaDoorProg
import Derived.Test.YtmfphbdafgmplaaDoorExt
import Derived.Test.YtmfphbdafgmplaaDoorClone
import Derived.Test.YtmfphbdafgmplaaDoorBuild
import Derived.Test.YtmfphbdafgmplaaDoorWalk0
import Derived.Test.YtmfphbdafgmplaaDoorWalk3
import Derived.Test.YtmfphbdafgmplaaDoorWalk4
set_option linter.unusedVariables false
set_option maxRecDepth 100000
set_option maxHeartbeats 4000000
namespace Go.Proofs.YtmfphbdafgmplaaDoor.W
open Go Go.RowKit
theorem ref12_token_con (p_t : Token) (p_last : Bool) (w : World) (H : Heap) (hH : Le H (hp w)) (hG : Glob H) (r : Int) (hm : ref12_token p_t p_last = some r) :
    Con Tryd.prog 55 [(.agg #[(.int .i64 p_t.kind), (mkS p_t.text), (.int .i64 p_t.at_)]), (.bool p_last)] w H (fun v _ => v = (.int .i64 r)) := by
  unfold ref12_token at hm
  refine con_of hH Tryd.func55 rfl 37 Tryd.ntmps55 rfl ?_
  refine WP.seq (WP.region ?_)
  refine WL.step (Runs.free rfl) rfl rfl (os_box (cs := [(.int .i64 p_t.kind), (mkS p_t.text), (.int .i64 p_t.at_)]) rfl rfl rfl (fun b1 => ?_))
  refine wq rfl rfl rfl (ov_assign rfl rfl) ?_
  refine WL.nil (then_normal (WP.seq (WP.seq (WP.region ?_))))
  refine wq rfl rfl rfl (ov_fieldAddr Tryd.underlying37 rfl rfl rfl Tryd.sizeOf3 rfl rfl) ?_
  refine wq rfl rfl rfl (ov_load_box (i := 0) Tryd.isAgg3 rfl rfl rfl rfl) ?_
  refine WL.nil (then_normal (WP.block (WP.seq (WP.region ?_))))
  refine wq rfl rfl rfl (ov_eql rfl rfl rfl) ?_
  refine wq rfl rfl rfl (ov_assign rfl rfl) ?_
  refine WL.nil (then_normal ?_)
  refine WP.cond rfl (fun hc1 => ?_) (fun hc1 => ?_)
  · replace hm := ite_t hc1 hm
    refine WP.seq (WP.region ?_)
    refine wq rfl rfl rfl (ov_fieldAddr Tryd.underlying37 rfl rfl rfl Tryd.sizeOf9 rfl rfl) ?_
    refine wq rfl rfl rfl (ov_load_box (i := 0) Tryd.isAgg9 rfl rfl rfl rfl) ?_
    obtain ⟨r1, e1, hm⟩ := bind_some hm
    refine WL.quiet (Runs.free rfl) rfl rfl (oq_con (r := (.int .i64 r1)) Tryd.call35 rfl rfl (fun w' s => ⟨_, (ref12_Word_con p_t.text  w' H s.hold hG r1 e1)⟩)) ?_
    refine wq rfl rfl rfl (ov_assign rfl rfl) ?_
    refine WL.nil (then_normal (WP.ret (block_ret (then_ret ?_))))
    obtain rfl := Option.some.inj hm
    refine retQ_ret Tryd.results55 (Res.tmp rfl Res.nil) rfl (fun w' s => ⟨s.below, ?_⟩)
    exact rfl
  · replace hm := ite_f hc1 hm
    refine WP.seq (WP.region ?_)
    refine wq rfl rfl rfl (ov_eql rfl rfl rfl) ?_
    refine wq rfl rfl rfl (ov_assign rfl rfl) ?_
    refine WL.nil (then_normal ?_)
    refine WP.cond rfl (fun hc2 => ?_) (fun hc2 => ?_)
    · replace hm := ite_t hc2 hm
      refine WP.seq (WP.region ?_)
      refine wq rfl rfl rfl (ov_fieldAddr Tryd.underlying37 rfl rfl rfl Tryd.sizeOf9 rfl rfl) ?_
      refine wq rfl rfl rfl (ov_load_box (i := 0) Tryd.isAgg9 rfl rfl rfl rfl) ?_
      obtain ⟨r2, e2, hm⟩ := bind_some hm
      refine WL.quiet (Runs.free rfl) rfl rfl (oq_con (r := (.int .i64 r2)) Tryd.call36 rfl rfl (fun w' s => ⟨_, (ref12_Number_con p_t.text  w' H s.hold hG r2 e2)⟩)) ?_
      refine wq rfl rfl rfl (ov_assign rfl rfl) ?_
      refine WL.nil (then_normal (WP.ret (block_ret (then_ret ?_))))
      obtain rfl := Option.some.inj hm
      refine retQ_ret Tryd.results55 (Res.tmp rfl Res.nil) rfl (fun w' s => ⟨s.below, ?_⟩)
      exact rfl
    · replace hm := ite_f hc2 hm
      refine WP.seq (WP.region ?_)
      refine wq rfl rfl rfl (ov_eql rfl rfl rfl) ?_
      refine wq rfl rfl rfl (ov_assign rfl rfl) ?_
      refine WL.nil (then_normal ?_)
      refine WP.cond rfl (fun hc3 => ?_) (fun hc3 => ?_)
      · replace hm := ite_t hc3 hm
        refine WP.seq (WP.seq (WP.region ?_))
        refine wq rfl rfl rfl (ov_fieldAddr Tryd.underlying37 rfl rfl rfl Tryd.sizeOf9 rfl rfl) ?_
        refine wq rfl rfl rfl (ov_load_box (i := 0) Tryd.isAgg9 rfl rfl rfl rfl) ?_
        refine wq rfl rfl rfl (ov_len_string Tryd.underlying9 rfl rfl) ?_
        refine wq rfl rfl rfl (ov_neq rfl rfl rfl) ?_
        refine wq rfl rfl rfl (ov_move rfl rfl) ?_
        obtain ⟨c1, e3, hm⟩ := bind_some hm
        refine WL.cut_bool 6 29 (x := c1) ?_ ?_
        · rcases Bool.eq_false_or_eq_true ((p_t.text.length : Int) != 1) with hc4 | hc4
          · skip
            replace hm := ite_t hc4 e3
            refine WL.idle (Idle.no rfl rfl rfl hc4) rfl rfl ?_
            refine WL.idle (Idle.no rfl rfl rfl hc4) rfl rfl ?_
            refine WL.idle (Idle.no rfl rfl rfl hc4) rfl rfl ?_
            refine WL.idle (Idle.no rfl rfl rfl hc4) rfl rfl ?_
            refine WL.idle (Idle.no rfl rfl rfl hc4) rfl rfl ?_
            refine wq rfl rfl rfl (ov_pick_true rfl (guard_eq rfl hc4) rfl) ?_
            exact WL.nil ⟨Sub.cons' rfl (congrArg Value.bool (Option.some.inj hm)) (Sub.skip rfl (Sub.skip rfl (Sub.skip rfl (Sub.skip rfl (Sub.skip rfl (Sub.skip rfl (Sub.refl _))))))), fun _ s => s⟩
          · skip
            replace hm := ite_f hc4 e3
            refine WL.quiet (Runs.yes rfl rfl rfl hc4) rfl rfl (OV.quiet (ov_fieldAddr Tryd.underlying37 rfl rfl rfl Tryd.sizeOf9 rfl rfl)) ?_
            refine WL.quiet (Runs.yes rfl rfl rfl hc4) rfl rfl (OV.quiet (ov_load_box (i := 0) Tryd.isAgg9 rfl rfl rfl rfl)) ?_
            obtain ⟨b2, e4, hm⟩ := bind_some hm
            refine WL.quiet (Runs.yes rfl rfl rfl hc4) rfl rfl (OV.quiet (ov_index_string Tryd.underlying9 rfl rfl rfl e4)) ?_
            obtain ⟨r3, e5, hm⟩ := bind_some hm
            refine WL.quiet (Runs.yes rfl rfl rfl hc4) rfl rfl (oq_con (r := (.bool r3)) Tryd.call83 rfl rfl (fun w' s => ⟨_, (ref12_Sign_con (b2.toNat : Int)  w' H s.hold hG r3 e5)⟩)) ?_
            refine WL.quiet (Runs.yes rfl rfl rfl hc4) rfl rfl (OV.quiet (ov_not rfl rfl)) ?_
            refine wq rfl rfl rfl (ov_pick_false rfl (guard_eq rfl hc4) rfl) ?_
            exact WL.nil ⟨Sub.cons' rfl (congrArg Value.bool (Option.some.inj hm)) (Sub.skip rfl (Sub.skip rfl (Sub.skip rfl (Sub.skip rfl (Sub.skip rfl (Sub.skip rfl (Sub.refl _))))))), fun _ s => s⟩
        refine WL.nil (then_normal ?_)
        refine WP.cond rfl (fun hc5 => ?_) (fun hc5 => ?_)
        · replace hm := ite_t hc5 hm
          refine WP.seq (WP.region ?_)
          refine wq rfl rfl rfl (ov_assign rfl rfl) ?_
          refine WL.nil (then_normal (WP.ret (then_ret (block_ret (then_ret ?_)))))
          obtain rfl := Option.some.inj hm
          refine retQ_ret Tryd.results55 (Res.tmp rfl Res.nil) rfl (fun w' s => ⟨s.below, ?_⟩)
          exact rfl
        · replace hm := ite_f hc5 hm
          refine WP.skip (then_normal (WP.seq (WP.region ?_)))
          refine wq rfl rfl rfl (ov_assign rfl rfl) ?_
          refine WL.nil (then_normal (WP.ret (block_ret (then_ret ?_))))
          obtain rfl := Option.some.inj hm
          refine retQ_ret Tryd.results55 (Res.tmp rfl Res.nil) rfl (fun w' s => ⟨s.below, ?_⟩)
          exact rfl
      · replace hm := ite_f hc3 hm
        refine WP.seq (WP.region ?_)
        refine wq rfl rfl rfl (ov_eql rfl rfl rfl) ?_
        refine wq rfl rfl rfl (ov_assign rfl rfl) ?_
        refine WL.nil (then_normal ?_)
        refine WP.cond rfl (fun hc6 => ?_) (fun hc6 => ?_)
        · replace hm := ite_t hc6 hm
          refine WP.seq (WP.seq (WP.region ?_))
          refine wq rfl rfl rfl (ov_move rfl rfl) ?_
          refine wq rfl rfl rfl (ov_not rfl rfl) ?_
          refine WL.nil (then_normal ?_)
          refine WP.cond rfl (fun hc7 => ?_) (fun hc7 => ?_)
          · replace hm := ite_t hc7 hm
            refine WP.seq (WP.region ?_)
            refine wq rfl rfl rfl (ov_assign rfl rfl) ?_
            refine WL.nil (then_normal (WP.ret (then_ret (block_ret (then_ret ?_)))))
            obtain rfl := Option.some.inj hm
            refine retQ_ret Tryd.results55 (Res.tmp rfl Res.nil) rfl (fun w' s => ⟨s.below, ?_⟩)
            exact rfl
          · replace hm := ite_f hc7 hm
            refine WP.skip (then_normal (WP.seq (WP.seq (WP.region ?_))))
            refine wq rfl rfl rfl (ov_fieldAddr Tryd.underlying37 rfl rfl rfl Tryd.sizeOf9 rfl rfl) ?_
            refine wq rfl rfl rfl (ov_load_box (i := 0) Tryd.isAgg9 rfl rfl rfl rfl) ?_
            refine wq rfl rfl rfl (ov_sneq rfl rfl rfl) ?_
            refine WL.nil (then_normal ?_)
            refine WP.cond rfl (fun hc8 => ?_) (fun hc8 => ?_)
            · replace hm := ite_t hc8 hm
              refine WP.seq (WP.region ?_)
              refine wq rfl rfl rfl (ov_assign rfl rfl) ?_
              refine WL.nil (then_normal (WP.ret (then_ret (block_ret (then_ret ?_)))))
              obtain rfl := Option.some.inj hm
              refine retQ_ret Tryd.results55 (Res.tmp rfl Res.nil) rfl (fun w' s => ⟨s.below, ?_⟩)
              exact rfl
            · replace hm := ite_f hc8 hm
              refine WP.skip (then_normal (WP.seq (WP.region ?_)))
              refine wq rfl rfl rfl (ov_assign rfl rfl) ?_
              refine WL.nil (then_normal (WP.ret (block_ret (then_ret ?_))))
              obtain rfl := Option.some.inj hm
              refine retQ_ret Tryd.results55 (Res.tmp rfl Res.nil) rfl (fun w' s => ⟨s.below, ?_⟩)
              exact rfl
        · replace hm := ite_f hc6 hm
          refine WP.skip (block_normal (then_normal (WP.seq (WP.region ?_))))
          refine wq rfl rfl rfl (ov_assign rfl rfl) ?_
          refine WL.nil (then_normal (WP.ret ?_))
          obtain rfl := Option.some.inj hm
          refine retQ_ret Tryd.results55 (Res.tmp rfl Res.nil) rfl (fun w' s => ⟨s.below, ?_⟩)
          exact rfl

theorem ref12_Joined_con (p_l : (List Token)) (ao1 : Option Addr) (cap1 : Nat) (w : World) (H : Heap) (hH : Le H (hp w)) (h1 : SL H encToken ao1 p_l) (hc1 : p_l.length ≤ cap1) (hG : Glob H) (r : (List UInt8)) (hm : ref12_Joined p_l = some r) :
    Con Tryd.prog 56 [(.slice ao1 p_l.length cap1)] w H (fun v _ => v = (mkS r)) := by
  unfold ref12_Joined at hm
  refine con_of hH Tryd.func56 rfl 40 Tryd.ntmps56 rfl ?_
  refine WP.seq (WP.region ?_)
  refine wq rfl rfl rfl (ov_assign rfl rfl) ?_
  refine WL.nil (then_normal (WP.seq (WP.region ?_)))
  refine wq rfl rfl rfl (ov_assign rfl rfl) ?_
  refine WL.nil (then_normal ?_)
  obtain ⟨k1, hk1, hm⟩ := joinK_some hm
  refine WP.seq_join (fun g' S' => ∃ (s5 : (List UInt8)), Sub [(3, (mkS s5)), (1000000007, (.bool false))] g' ∧ (∀ w', S' w' → St w H [] H w') ∧ k1 s5 = some r) ?_ ?_
  · skip
    refine WP.seq (WP.region ?_)
    refine wq rfl rfl rfl (ov_assign rfl rfl) ?_
    refine WL.nil (then_normal (WP.block ?_))
    refine WP.loop (fun m1 g' S' => ∃ (s1 : (List UInt8)) (i1 : Int), Sub [(0, (.slice ao1 p_l.length cap1)), (3, (mkS s1)), (4, (.int .i64 i1)), (1000000007, (.bool false))] g' ∧ (∀ w', S' w' → St w H [] H w') ∧ ref12_Joined_loop1 p_l k1 m1 s1 i1 = some r) ((Int.toNat ((p_l.length : Int) - 0) + 1)) ⟨[], 0, (Sub.cons rfl (Sub.cons rfl (Sub.cons rfl (Sub.cons rfl (Sub.nil _))))), fun w' s => s, hm⟩ ?_ ?_
    · rintro g' S' ⟨_, _, _, _, hm⟩
      exact none_some hm
    · rintro m1 g' S' ⟨s1, i1, hsub1, hS1, hm⟩
      refine WP.sub hsub1 (WP.weaken hS1 ?_)
      rw [ref12_Joined_loop1] at hm
      refine WP.seq (WP.seq (WP.region ?_))
      refine wq rfl rfl rfl (ov_move rfl rfl) ?_
      refine wq rfl rfl rfl (ov_move rfl rfl) ?_
      refine wq rfl rfl rfl (ov_len_slice Tryd.underlying30 rfl rfl) ?_
      refine wq rfl rfl rfl (ov_lss rfl rfl rfl) ?_
      refine WL.nil (then_normal ?_)
      refine WP.cond rfl (fun hc2 => ?_) (fun hc2 => ?_)
      · replace hm := ite_t hc2 hm
        refine WP.skip (then_normal (WP.seq (WP.block ?_)))
        obtain ⟨k2, hk2, hm⟩ := joinK_some hm
        refine WP.seq_join (fun g' S' => ∃ (s3 : (List UInt8)), Sub [(0, (.slice ao1 p_l.length cap1)), (3, (mkS s3)), (4, (.int .i64 i1)), (1000000007, (.bool false))] g' ∧ (∀ w', S' w' → St w H [] H w') ∧ k2 s3 = some r) ?_ ?_
        · skip
          refine WP.seq (WP.region ?_)
          refine wq rfl rfl rfl (ov_move rfl rfl) ?_
          refine wq rfl rfl rfl (ov_gtr rfl rfl rfl) ?_
          refine wq rfl rfl rfl (ov_move rfl rfl) ?_
          obtain ⟨c1, e1, hm⟩ := bind_some hm
          refine WL.cut_bool 7 20 (x := c1) ?_ ?_
          · rcases Bool.eq_false_or_eq_true (decide (i1 > 0)) with hc3 | hc3
            · skip
              replace hm := ite_t hc3 e1
              refine WL.quiet (Runs.yes rfl rfl rfl hc3) rfl rfl (OV.quiet (ov_move rfl rfl)) ?_
              refine WL.quiet (Runs.yes rfl rfl rfl hc3) rfl rfl (OV.quiet (ov_move rfl rfl)) ?_
              obtain ⟨x1, e2, hm⟩ := bind_some hm
              obtain ⟨h2, h3, h4, cs1, h5, h6⟩ := h1.get e2 (by decide)
              obtain rfl : cs1 = [(.int .i64 x1.kind), (mkS x1.text), (.int .i64 x1.at_)] := h5
              refine WL.quiet (Runs.yes rfl rfl rfl hc3) rfl rfl (OV.quiet (ov_indexAddr Tryd.underlying30 Tryd.sizeOf37 rfl rfl rfl h2 h3 h4)) ?_
              refine WL.quiet (Runs.yes rfl rfl rfl hc3) rfl rfl (OV.quiet (ov_fieldAddrE Tryd.underlying37 rfl rfl rfl Tryd.sizeOf3 rfl rfl)) ?_
              refine WL.quiet (Runs.yes rfl rfl rfl hc3) rfl rfl (OV.quiet (ov_load_elem (v := (.int .i64 x1.kind)) Tryd.isAgg3 rfl rfl (h6.one (off := 0) rfl))) ?_
              refine WL.quiet (Runs.yes rfl rfl rfl hc3) rfl rfl (OV.quiet (ov_leq rfl rfl rfl)) ?_
              refine wq rfl rfl rfl (ov_pick_true rfl (guard_eq rfl hc3) rfl) ?_
              exact WL.nil ⟨Sub.cons' rfl (congrArg Value.bool (Option.some.inj hm)) (Sub.skip rfl (Sub.skip rfl (Sub.skip rfl (Sub.skip rfl (Sub.skip rfl (Sub.skip rfl (Sub.skip rfl (Sub.refl _)))))))), fun _ s => s⟩
            · skip
              replace hm := ite_f hc3 e1
              refine WL.idle (Idle.no rfl rfl rfl hc3) rfl rfl ?_
              refine WL.idle (Idle.no rfl rfl rfl hc3) rfl rfl ?_
              refine WL.idle (Idle.no rfl rfl rfl hc3) rfl rfl ?_
              refine WL.idle (Idle.no rfl rfl rfl hc3) rfl rfl ?_
              refine WL.idle (Idle.no rfl rfl rfl hc3) rfl rfl ?_
              refine WL.idle (Idle.no rfl rfl rfl hc3) rfl rfl ?_
              refine wq rfl rfl rfl (ov_pick_false rfl (guard_eq rfl hc3) rfl) ?_
              exact WL.nil ⟨Sub.cons' rfl (congrArg Value.bool (Option.some.inj hm)) (Sub.skip rfl (Sub.skip rfl (Sub.skip rfl (Sub.skip rfl (Sub.skip rfl (Sub.skip rfl (Sub.skip rfl (Sub.refl _)))))))), fun _ s => s⟩
          refine wq rfl rfl rfl (ov_move rfl rfl) ?_
          obtain ⟨c2, e3, hm⟩ := bind_some hm
          refine WL.cut_bool 8 29 (x := c2) ?_ ?_
          · rcases Bool.eq_false_or_eq_true c1 with hc4 | hc4
            · skip
              replace hm := ite_t hc4 e3
              refine WL.quiet (Runs.yes rfl rfl rfl hc4) rfl rfl (OV.quiet (ov_move rfl rfl)) ?_
              refine WL.quiet (Runs.yes rfl rfl rfl hc4) rfl rfl (OV.quiet (ov_move rfl rfl)) ?_
              refine WL.quiet (Runs.yes rfl rfl rfl hc4) rfl rfl (OV.quiet (ov_sub rfl rfl rfl)) ?_
              obtain ⟨x2, e4, hm⟩ := bind_some hm
              obtain ⟨h7, h8, h9, cs2, h10, h11⟩ := h1.get e4 (by decide)
              obtain rfl : cs2 = [(.int .i64 x2.kind), (mkS x2.text), (.int .i64 x2.at_)] := h10
              refine WL.quiet (Runs.yes rfl rfl rfl hc4) rfl rfl (OV.quiet (ov_indexAddr Tryd.underlying30 Tryd.sizeOf37 rfl rfl rfl h7 h8 h9)) ?_
              refine WL.quiet (Runs.yes rfl rfl rfl hc4) rfl rfl (OV.quiet (ov_fieldAddrE Tryd.underlying37 rfl rfl rfl Tryd.sizeOf3 rfl rfl)) ?_
              refine WL.quiet (Runs.yes rfl rfl rfl hc4) rfl rfl (OV.quiet (ov_load_elem (v := (.int .i64 x2.kind)) Tryd.isAgg3 rfl rfl (h11.one (off := 0) rfl))) ?_
              refine WL.quiet (Runs.yes rfl rfl rfl hc4) rfl rfl (OV.quiet (ov_leq rfl rfl rfl)) ?_
              refine wq rfl rfl rfl (ov_pick_true rfl (guard_eq rfl hc4) rfl) ?_
              exact WL.nil ⟨Sub.cons' rfl (congrArg Value.bool (Option.some.inj hm)) (Sub.skip rfl (Sub.skip rfl (Sub.skip rfl (Sub.skip rfl (Sub.skip rfl (Sub.skip rfl (Sub.skip rfl (Sub.skip rfl (Sub.refl _))))))))), fun _ s => s⟩
            · skip
              replace hm := ite_f hc4 e3
              refine WL.idle (Idle.no rfl rfl rfl hc4) rfl rfl ?_
              refine WL.idle (Idle.no rfl rfl rfl hc4) rfl rfl ?_
              refine WL.idle (Idle.no rfl rfl rfl hc4) rfl rfl ?_
              refine WL.idle (Idle.no rfl rfl rfl hc4) rfl rfl ?_
              refine WL.idle (Idle.no rfl rfl rfl hc4) rfl rfl ?_
              refine WL.idle (Idle.no rfl rfl rfl hc4) rfl rfl ?_
              refine WL.idle (Idle.no rfl rfl rfl hc4) rfl rfl ?_
              refine wq rfl rfl rfl (ov_pick_false rfl (guard_eq rfl hc4) rfl) ?_
              exact WL.nil ⟨Sub.cons' rfl (congrArg Value.bool (Option.some.inj hm)) (Sub.skip rfl (Sub.skip rfl (Sub.skip rfl (Sub.skip rfl (Sub.skip rfl (Sub.skip rfl (Sub.skip rfl (Sub.skip rfl (Sub.refl _))))))))), fun _ s => s⟩
          refine WL.nil (then_normal ?_)
          refine WP.cond rfl (fun hc5 => ?_) (fun hc5 => ?_)
          · replace hm := ite_t hc5 hm
            refine WP.region ?_
            refine wq rfl rfl rfl (ov_move rfl rfl) ?_
            obtain ⟨s2, e5, hm⟩ := bind_some hm
            refine wq rfl rfl rfl (ov_sadd' e5 rfl rfl rfl) ?_
            refine wq rfl rfl rfl (ov_assign rfl rfl) ?_
            refine WL.nil (then_normal ?_)
            exact ⟨s2, (Sub.cons rfl (Sub.cons rfl (Sub.cons rfl (Sub.cons rfl (Sub.nil _))))), fun w' s => s, hm⟩
          · replace hm := ite_f hc5 hm
            refine WP.skip (then_normal ?_)
            exact ⟨s1, (Sub.cons rfl (Sub.cons rfl (Sub.cons rfl (Sub.cons rfl (Sub.nil _))))), fun w' s => s, hm⟩
        · rintro g' S' ⟨s3, hsub2, hS2, hm⟩
          refine WP.sub hsub2 (WP.weaken hS2 ?_)
          replace hm := (congrFun hk2 s3).symm.trans hm
          refine WP.region ?_
          refine wq rfl rfl rfl (ov_move rfl rfl) ?_
          refine wq rfl rfl rfl (ov_move rfl rfl) ?_
          refine wq rfl rfl rfl (ov_move rfl rfl) ?_
          obtain ⟨x3, e6, hm⟩ := bind_some hm
          obtain ⟨h12, h13, h14, cs3, h15, h16⟩ := h1.get e6 (by decide)
          obtain rfl : cs3 = [(.int .i64 x3.kind), (mkS x3.text), (.int .i64 x3.at_)] := h15
          refine wq rfl rfl rfl (ov_indexAddr Tryd.underlying30 Tryd.sizeOf37 rfl rfl rfl h12 h13 h14) ?_
          refine wq rfl rfl rfl (ov_fieldAddrE Tryd.underlying37 rfl rfl rfl Tryd.sizeOf9 rfl rfl) ?_
          refine wq rfl rfl rfl (ov_load_elem (v := (mkS x3.text)) Tryd.isAgg9 rfl rfl (h16.one (off := 1) rfl)) ?_
          obtain ⟨s4, e7, hm⟩ := bind_some hm
          refine wq rfl rfl rfl (ov_sadd' e7 rfl rfl rfl) ?_
          refine wq rfl rfl rfl (ov_assign rfl rfl) ?_
          refine WL.nil (block_normal (then_normal (WP.region ?_)))
          refine wq rfl rfl rfl (ov_move rfl rfl) ?_
          refine wq rfl rfl rfl (ov_add rfl rfl rfl) ?_
          refine wq rfl rfl rfl (ov_assign rfl rfl) ?_
          refine WL.nil (then_normal ?_)
          exact ⟨s4, (IntKind.wrap .i64 (i1 + 1)), (Sub.cons rfl (Sub.cons rfl (Sub.cons rfl (Sub.cons rfl (Sub.nil _))))), fun w' s => s, hm⟩
      · replace hm := ite_f hc2 hm
        refine WP.exit (then_exit (then_exit (block_here (then_normal ?_))))
        exact ⟨s1, (Sub.cons rfl (Sub.cons rfl (Sub.nil _))), fun w' s => s, hm⟩
  · rintro g' S' ⟨s5, hsub3, hS3, hm⟩
    refine WP.sub hsub3 (WP.weaken hS3 ?_)
    replace hm := (congrFun hk1 s5).symm.trans hm
    refine WP.seq (WP.region ?_)
    refine wq rfl rfl rfl (ov_move rfl rfl) ?_
    refine wq rfl rfl rfl (ov_assign rfl rfl) ?_
    refine WL.nil (then_normal (WP.ret ?_))
    obtain rfl := Option.some.inj hm
    refine retQ_ret Tryd.results56 (Res.tmp rfl Res.nil) rfl (fun w' s => ⟨s.below, ?_⟩)
    exact rfl

theorem ref12_Join_con (p_l : (List Token)) (ao1 : Option Addr) (cap1 : Nat) (w : World) (H : Heap) (hH : Le H (hp w)) (h1 : SL H encToken ao1 p_l) (hc1 : p_l.length ≤ cap1) (hG : Glob H) (r : ((List UInt8) × Int)) (hm : ref12_Join p_l = some r) :
    Con Tryd.prog 25 [(.slice ao1 p_l.length cap1)] w H (fun v _ => v = (.tuple #[(mkS r.1), (.int .i64 r.2)])) := by
  unfold ref12_Join at hm
  refine con_of hH Tryd.func25 rfl 35 Tryd.ntmps25 rfl ?_
  refine WP.seq (WP.region ?_)
  refine wq rfl rfl rfl (ov_assign rfl rfl) ?_
  refine wq rfl rfl rfl (ov_assign rfl rfl) ?_
  refine WL.nil (then_normal (WP.seq (WP.seq (WP.region ?_))))
  refine wq rfl rfl rfl (ov_move rfl rfl) ?_
  refine wq rfl rfl rfl (ov_len_slice Tryd.underlying30 rfl rfl) ?_
  refine wq rfl rfl rfl (ov_gtr rfl rfl rfl) ?_
  refine WL.nil (then_normal ?_)
  refine WP.cond rfl (fun hc2 => ?_) (fun hc2 => ?_)
  · replace hm := ite_t hc2 hm
    refine WP.seq (WP.region ?_)
    refine wq rfl rfl rfl (ov_assign rfl rfl) ?_
    refine wq rfl rfl rfl (ov_assign rfl rfl) ?_
    refine WL.nil (then_normal (WP.ret (then_ret ?_)))
    obtain rfl := Option.some.inj hm
    refine retQ_ret Tryd.results25 (Res.tmp rfl (Res.tmp rfl Res.nil)) rfl (fun w' s => ⟨s.below, ?_⟩)
    exact rfl
  · replace hm := ite_f hc2 hm
    refine WP.skip (then_normal ?_)
    obtain ⟨k1, hk1, hm⟩ := joinK_some hm
    refine WP.seq_join (fun g' S' => Sub [(0, (.slice ao1 p_l.length cap1)), (1000000007, (.bool false))] g' ∧ (∀ w', S' w' → St w H [] H w') ∧ k1 = some r) ?_ ?_
    · skip
      refine WP.seq (WP.region ?_)
      refine wq rfl rfl rfl (ov_assign rfl rfl) ?_
      refine WL.nil (then_normal (WP.block ?_))
      refine WP.loop (fun m1 g' S' => ∃ (i1 : Int), Sub [(0, (.slice ao1 p_l.length cap1)), (4, (.int .i64 i1)), (1000000007, (.bool false))] g' ∧ (∀ w', S' w' → St w H [] H w') ∧ ref12_Join_loop1 p_l k1 m1 i1 = some r) ((Int.toNat ((p_l.length : Int) - 0) + 1)) ⟨0, (Sub.cons rfl (Sub.cons rfl (Sub.cons rfl (Sub.nil _)))), fun w' s => s, hm⟩ ?_ ?_
      · rintro g' S' ⟨_, _, _, hm⟩
        exact none_some hm
      · rintro m1 g' S' ⟨i1, hsub1, hS1, hm⟩
        refine WP.sub hsub1 (WP.weaken hS1 ?_)
        rw [ref12_Join_loop1] at hm
        refine WP.seq (WP.seq (WP.region ?_))
        refine wq rfl rfl rfl (ov_move rfl rfl) ?_
        refine wq rfl rfl rfl (ov_move rfl rfl) ?_
        refine wq rfl rfl rfl (ov_len_slice Tryd.underlying30 rfl rfl) ?_
        refine wq rfl rfl rfl (ov_lss rfl rfl rfl) ?_
        refine WL.nil (then_normal ?_)
        refine WP.cond rfl (fun hc3 => ?_) (fun hc3 => ?_)
        · replace hm := ite_t hc3 hm
          refine WP.skip (then_normal (WP.seq (WP.block (WP.seq (WP.region ?_)))))
          refine wq rfl rfl rfl (ov_move rfl rfl) ?_
          refine wq rfl rfl rfl (ov_move rfl rfl) ?_
          obtain ⟨x1, e1, hm⟩ := bind_some hm
          obtain ⟨h2, h3, h4, cs1, h5, h6⟩ := h1.get e1 (by decide)
          obtain rfl : cs1 = [(.int .i64 x1.kind), (mkS x1.text), (.int .i64 x1.at_)] := h5
          refine wq rfl rfl rfl (ov_indexAddr Tryd.underlying30 Tryd.sizeOf37 rfl rfl rfl h2 h3 h4) ?_
          refine wq rfl rfl rfl (ov_load_elems (vs := [(.int .i64 x1.kind), (mkS x1.text), (.int .i64 x1.at_)]) Tryd.isAgg37 Tryd.sizeOf37 rfl rfl rfl h6 h4) ?_
          refine wq rfl rfl rfl (ov_move rfl rfl) ?_
          refine wq rfl rfl rfl (ov_move rfl rfl) ?_
          refine wq rfl rfl rfl (ov_len_slice Tryd.underlying30 rfl rfl) ?_
          refine wq rfl rfl rfl (ov_sub rfl rfl rfl) ?_
          refine wq rfl rfl rfl (ov_eql rfl rfl rfl) ?_
          obtain ⟨r1, e2, hm⟩ := bind_some hm
          refine WL.quiet (Runs.free rfl) rfl rfl (oq_con (r := (.int .i64 r1)) Tryd.call55 rfl rfl (fun w' s => ⟨_, (ref12_token_con x1 (i1 == (IntKind.wrap .i64 ((p_l.length : Int) - 1)))  w' H s.hold hG r1 e2)⟩)) ?_
          refine wq rfl rfl rfl (ov_assign rfl rfl) ?_
          refine WL.nil (then_normal (WP.seq (WP.region ?_)))
          refine wq rfl rfl rfl (ov_move rfl rfl) ?_
          refine wq rfl rfl rfl (ov_neq rfl rfl rfl) ?_
          refine WL.nil (then_normal ?_)
          refine WP.cond rfl (fun hc4 => ?_) (fun hc4 => ?_)
          · replace hm := ite_t hc4 hm
            refine WP.seq (WP.region ?_)
            refine wq rfl rfl rfl (ov_move rfl rfl) ?_
            refine wq rfl rfl rfl (ov_assign rfl rfl) ?_
            refine wq rfl rfl rfl (ov_assign rfl rfl) ?_
            refine WL.nil (then_normal (WP.ret (block_ret (then_ret (then_ret (block_ret (then_ret ?_)))))))
            obtain rfl := Option.some.inj hm
            refine retQ_ret Tryd.results25 (Res.tmp rfl (Res.tmp rfl Res.nil)) rfl (fun w' s => ⟨s.below, ?_⟩)
            exact rfl
          · replace hm := ite_f hc4 hm
            refine WP.skip (block_normal (then_normal (WP.region ?_)))
            refine wq rfl rfl rfl (ov_move rfl rfl) ?_
            refine wq rfl rfl rfl (ov_add rfl rfl rfl) ?_
            refine wq rfl rfl rfl (ov_assign rfl rfl) ?_
            refine WL.nil (then_normal ?_)
            exact ⟨(IntKind.wrap .i64 (i1 + 1)), (Sub.cons rfl (Sub.cons rfl (Sub.cons rfl (Sub.nil _)))), fun w' s => s, hm⟩
        · replace hm := ite_f hc3 hm
          refine WP.exit (then_exit (then_exit (block_here (then_normal ?_))))
          exact ⟨(Sub.cons rfl (Sub.cons rfl (Sub.nil _))), fun w' s => s, hm⟩
    · rintro g' S' ⟨hsub2, hS2, hm⟩
      refine WP.sub hsub2 (WP.weaken hS2 ?_)
      replace hm := hk1.symm.trans hm
      refine WP.seq (WP.region ?_)
      refine wq rfl rfl rfl (ov_move rfl rfl) ?_
      obtain ⟨r2, e3, hm⟩ := bind_some hm
      refine WL.quiet (Runs.free rfl) rfl rfl (oq_con (r := (mkS r2)) Tryd.call56 rfl rfl (fun w' s => ⟨_, (ref12_Joined_con p_l ao1 cap1  w' H s.hold h1 hc1 hG r2 e3)⟩)) ?_
      refine wq rfl rfl rfl (ov_assign rfl rfl) ?_
      refine WL.nil (then_normal (WP.seq (WP.seq (WP.region ?_))))
      refine wq rfl rfl rfl (ov_move rfl rfl) ?_
      refine wq rfl rfl rfl (ov_len_string Tryd.underlying9 rfl rfl) ?_
      refine wq rfl rfl rfl (ov_gtr rfl rfl rfl) ?_
      refine WL.nil (then_normal ?_)
      refine WP.cond rfl (fun hc5 => ?_) (fun hc5 => ?_)
      · replace hm := ite_t hc5 hm
        refine WP.seq (WP.region ?_)
        refine wq rfl rfl rfl (ov_assign rfl rfl) ?_
        refine wq rfl rfl rfl (ov_assign rfl rfl) ?_
        refine WL.nil (then_normal (WP.ret (then_ret ?_)))
        obtain rfl := Option.some.inj hm
        refine retQ_ret Tryd.results25 (Res.tmp rfl (Res.tmp rfl Res.nil)) rfl (fun w' s => ⟨s.below, ?_⟩)
        exact rfl
      · replace hm := ite_f hc5 hm
        refine WP.skip (then_normal (WP.seq (WP.region ?_)))
        refine wq rfl rfl rfl (ov_move rfl rfl) ?_
        refine wq rfl rfl rfl (ov_assign rfl rfl) ?_
        refine wq rfl rfl rfl (ov_assign rfl rfl) ?_
        refine WL.nil (then_normal (WP.ret ?_))
        obtain rfl := Option.some.inj hm
        refine retQ_ret Tryd.results25 (Res.tmp rfl (Res.tmp rfl Res.nil)) rfl (fun w' s => ⟨s.below, ?_⟩)
        exact rfl

theorem ref12_Lines_con (p_text : (List UInt8)) (w : World) (H : Heap) (hH : Le H (hp w)) (hG : Glob H) (r : ((List (List UInt8)) × Int)) (hm : ref12_Lines p_text = some r) :
    Con Tryd.prog 27 [(mkS p_text)] w H (fun v H' => ∃ (ao1 : Option Addr) (cap1 : Nat), v = (.tuple #[(.slice ao1 r.1.length cap1), (.int .i64 r.2)]) ∧ SL H' encStr ao1 r.1 ∧ r.1.length ≤ cap1) := by
  unfold ref12_Lines at hm
  refine con_of hH Tryd.func27 rfl 31 Tryd.ntmps27 rfl ?_
  refine WP.seq (WP.region ?_)
  refine wq rfl rfl rfl (ov_assign rfl rfl) ?_
  refine wq rfl rfl rfl (ov_assign rfl rfl) ?_
  refine WL.nil (then_normal (WP.seq (WP.region ?_)))
  refine wq rfl rfl rfl (ov_assign rfl rfl) ?_
  refine WL.nil (then_normal (WP.seq (WP.region ?_)))
  refine wq rfl rfl rfl (ov_assign rfl rfl) ?_
  refine WL.nil (then_normal ?_)
  obtain ⟨k1, hk1, hm⟩ := joinK_some hm
  refine WP.seq_join (fun g' S' => ∃ (i4 : Int) (l4 : (List (List UInt8))) (ao5 : Option Addr) (cap5 : Nat) (xs3 : List Value), RL H encStr l4 xs3 ∧ Sub [(0, (mkS p_text)), (4, (.slice ao5 l4.length cap5)), (5, (.int .i64 i4)), (1000000007, (.bool false))] g' ∧ (∀ w', S' w' → St w H [.row 9 (encStr).size l4.length (.slice ao5 l4.length cap5) xs3] H w') ∧ k1 i4 l4 = some r) ?_ ?_
  · skip
    refine WP.seq (WP.region ?_)
    refine wq rfl rfl rfl (ov_assign rfl rfl) ?_
    refine WL.nil (then_normal (WP.block ?_))
    have rl1 := RL.nil (α := (List UInt8)) H encStr
    refine WP.weaken (fun _ s => s.nilrow 9 (encStr).size) ?_
    refine WP.loop (fun m1 g' S' => ∃ (i1 : Int) (i2 : Int) (l1 : (List (List UInt8))) (ao2 : Option Addr) (cap2 : Nat) (xs1 : List Value), RL H encStr l1 xs1 ∧ Sub [(0, (mkS p_text)), (4, (.slice ao2 l1.length cap2)), (5, (.int .i64 i1)), (6, (.int .i64 i2)), (1000000007, (.bool false))] g' ∧ (∀ w', S' w' → St w H [.row 9 (encStr).size l1.length (.slice ao2 l1.length cap2) xs1] H w') ∧ ref12_Lines_loop1 p_text k1 m1 i1 i2 l1 = some r) ((Int.toNat ((p_text.length : Int) - 0) + 1)) ⟨0, 0, ([] : List (List UInt8)), none, 0, [], rl1, (Sub.cons rfl (Sub.cons rfl (Sub.cons rfl (Sub.cons rfl (Sub.cons rfl (Sub.nil _)))))), fun w' s => s, hm⟩ ?_ ?_
    · rintro g' S' ⟨_, _, _, _, _, _, _, _, _, hm⟩
      exact none_some hm
    · rintro m1 g' S' ⟨i1, i2, l1, ao2, cap2, xs1, rl2, hsub1, hS1, hm⟩
      refine WP.sub hsub1 (WP.weaken hS1 ?_)
      rw [ref12_Lines_loop1] at hm
      refine WP.seq (WP.seq (WP.region ?_))
      refine wq rfl rfl rfl (ov_move rfl rfl) ?_
      refine wq rfl rfl rfl (ov_move rfl rfl) ?_
      refine wq rfl rfl rfl (ov_len_string Tryd.underlying9 rfl rfl) ?_
      refine wq rfl rfl rfl (ov_lss rfl rfl rfl) ?_
      refine WL.nil (then_normal ?_)
      refine WP.cond rfl (fun hc2 => ?_) (fun hc2 => ?_)
      · replace hm := ite_t hc2 hm
        refine WP.skip (then_normal ?_)
        obtain ⟨k2, hk2, hm⟩ := joinK_some hm
        refine WP.seq_join (fun g' S' => ∃ (i3 : Int) (l3 : (List (List UInt8))) (ao4 : Option Addr) (cap4 : Nat) (xs2 : List Value), RL H encStr l3 xs2 ∧ Sub [(0, (mkS p_text)), (4, (.slice ao4 l3.length cap4)), (5, (.int .i64 i3)), (6, (.int .i64 i2)), (1000000007, (.bool false))] g' ∧ (∀ w', S' w' → St w H [.row 9 (encStr).size l3.length (.slice ao4 l3.length cap4) xs2] H w') ∧ k2 i3 l3 = some r) ?_ ?_
        · skip
          refine WP.block (WP.seq (WP.region ?_))
          refine wq rfl rfl rfl (ov_move rfl rfl) ?_
          refine wq rfl rfl rfl (ov_move rfl rfl) ?_
          obtain ⟨b1, e1, hm⟩ := bind_some hm
          refine wq rfl rfl rfl (ov_index_string Tryd.underlying9 rfl rfl rfl e1) ?_
          refine wq rfl rfl rfl (ov_eql rfl rfl rfl) ?_
          refine WL.nil (then_normal ?_)
          refine WP.cond rfl (fun hc3 => ?_) (fun hc3 => ?_)
          · replace hm := ite_t hc3 hm
            refine WP.seq (WP.region ?_)
            refine wq rfl rfl rfl (ov_move rfl rfl) ?_
            refine wq rfl rfl rfl (ov_move rfl rfl) ?_
            refine wq rfl rfl rfl (ov_move rfl rfl) ?_
            refine wq rfl rfl rfl (ov_move rfl rfl) ?_
            obtain ⟨s1, e2, hm⟩ := bind_some hm
            refine wq rfl rfl rfl (ov_slice_string Tryd.underlying9 rfl rfl rfl rfl e2) ?_
            have rl3 : RL H encStr ([s1] : List (List UInt8)) [(mkS s1)] := RL.cons (cs := [(mkS s1)]) (xs := []) rfl (RL.nil _ _)
            refine WL.step (Runs.free rfl) rfl rfl (os_buildSlice (cs := [(mkS s1)]) (E := 9) (sz := 1) rfl rfl (fun _ => by kernel_rfl) rfl (by decide) (fun b2 => ?_))
            obtain ⟨l2, e3, hm⟩ := bind_some hm
            refine WL.step (Runs.free rfl) rfl rfl (os_app (i := 1) (j := 0) (En := encStr) (xs := xs1) (ys := [(mkS s1)]) Tryd.underlying44 (by kernel_rfl : (Tryd.prog.info? 9).map (fun i => (i.zero, i.size, i.bytes)) = some (some (mkS []), (encStr).size, 16)) rfl (by decide) rfl rfl rfl rfl rfl rfl rl2 rl3 e3 (fun ao3 cap3 rl4 => ?_))
            refine wq rfl rfl rfl (ov_assign rfl rfl) ?_
            refine WL.nil (then_normal (WP.region ?_))
            refine wq rfl rfl rfl (ov_move rfl rfl) ?_
            refine wq rfl rfl rfl (ov_add rfl rfl rfl) ?_
            refine wq rfl rfl rfl (ov_assign rfl rfl) ?_
            refine WL.nil (block_normal (then_normal ?_))
            exact ⟨(IntKind.wrap .i64 (i2 + 1)), (l1 ++ ([s1] : List (List UInt8))), ao3, cap3, (xs1 ++ [(mkS s1)]), rl4, (Sub.cons rfl (Sub.cons rfl (Sub.cons rfl (Sub.cons rfl (Sub.cons rfl (Sub.nil _)))))), fun w' s => (s.select [1] (by decide) rfl), hm⟩
          · replace hm := ite_f hc3 hm
            refine WP.skip (block_normal (then_normal ?_))
            exact ⟨i1, l1, ao2, cap2, xs1, rl2, (Sub.cons rfl (Sub.cons rfl (Sub.cons rfl (Sub.cons rfl (Sub.cons rfl (Sub.nil _)))))), fun w' s => s, hm⟩
        · rintro g' S' ⟨i3, l3, ao4, cap4, xs2, rl5, hsub2, hS2, hm⟩
          refine WP.sub hsub2 (WP.weaken hS2 ?_)
          replace hm := (congrFun (congrFun hk2 i3) l3).symm.trans hm
          refine WP.region ?_
          refine wq rfl rfl rfl (ov_move rfl rfl) ?_
          refine wq rfl rfl rfl (ov_add rfl rfl rfl) ?_
          refine wq rfl rfl rfl (ov_assign rfl rfl) ?_
          refine WL.nil (then_normal ?_)
          exact ⟨i3, (IntKind.wrap .i64 (i2 + 1)), l3, ao4, cap4, xs2, rl5, (Sub.cons rfl (Sub.cons rfl (Sub.cons rfl (Sub.cons rfl (Sub.cons rfl (Sub.nil _)))))), fun w' s => s, hm⟩
      · replace hm := ite_f hc2 hm
        refine WP.exit (then_exit (then_exit (block_here (then_normal ?_))))
        exact ⟨i1, l1, ao2, cap2, xs1, rl2, (Sub.cons rfl (Sub.cons rfl (Sub.cons rfl (Sub.cons rfl (Sub.nil _))))), fun w' s => s, hm⟩
  · rintro g' S' ⟨i4, l4, ao5, cap5, xs3, rl6, hsub3, hS3, hm⟩
    refine WP.sub hsub3 (WP.weaken hS3 ?_)
    replace hm := (congrFun (congrFun hk1 i4) l4).symm.trans hm
    refine WP.seq (WP.seq (WP.region ?_))
    refine wq rfl rfl rfl (ov_move rfl rfl) ?_
    refine wq rfl rfl rfl (ov_move rfl rfl) ?_
    refine wq rfl rfl rfl (ov_len_string Tryd.underlying9 rfl rfl) ?_
    refine wq rfl rfl rfl (ov_lss rfl rfl rfl) ?_
    refine WL.nil (then_normal ?_)
    refine WP.cond rfl (fun hc4 => ?_) (fun hc4 => ?_)
    · replace hm := ite_t hc4 hm
      refine WP.seq (WP.region ?_)
      refine wq rfl rfl rfl (ov_assign rfl rfl) ?_
      refine wq rfl rfl rfl (ov_assign rfl rfl) ?_
      refine WL.nil (then_normal (WP.ret (then_ret ?_)))
      obtain rfl := Option.some.inj hm
      refine retQ_ret Tryd.results27 (Res.tmp rfl (Res.tmp rfl Res.nil)) rfl (fun w' s => ⟨s.below, ?_⟩)
      exact ⟨none, 0, rfl, SL.nil _ _ _, Nat.le_refl _⟩
    · replace hm := ite_f hc4 hm
      refine WP.skip (then_normal (WP.seq (WP.region ?_)))
      refine wq rfl rfl rfl (ov_move rfl rfl) ?_
      refine wq rfl rfl rfl (ov_assign rfl rfl) ?_
      refine wq rfl rfl rfl (ov_assign rfl rfl) ?_
      refine WL.nil (then_normal (WP.ret ?_))
      obtain rfl := Option.some.inj hm
      refine retQ_ret Tryd.results27 (Res.tmp rfl (Res.tmp rfl Res.nil)) rfl (fun w' s => ⟨s.below, ?_⟩)
      obtain ⟨h2, hc5⟩ := s.ret_row (i := 0) rfl rl6
      exact ⟨ao5, cap5, rfl, h2, hc5⟩

theorem lexer_Unlines_con (p_l : (List (List UInt8))) (ao1 : Option Addr) (cap1 : Nat) (w : World) (H : Heap) (hH : Le H (hp w)) (h1 : SL H encStr ao1 p_l) (hc1 : p_l.length ≤ cap1) (hG : Glob H) (r : ((List UInt8) × Int)) (hm : lexer_Unlines p_l = some r) :
    Con Tryd.prog 28 [(.slice ao1 p_l.length cap1)] w H (fun v _ => v = (.tuple #[(mkS r.1), (.int .i64 r.2)])) := by
  unfold lexer_Unlines at hm
  refine con_of hH Tryd.func28 rfl 20 Tryd.ntmps28 rfl ?_
  refine WP.seq (WP.region ?_)
  refine wq rfl rfl rfl (ov_assign rfl rfl) ?_
  refine wq rfl rfl rfl (ov_assign rfl rfl) ?_
  refine WL.nil (then_normal (WP.seq (WP.region ?_)))
  refine WL.step (Runs.free rfl) rfl rfl (os_alloc (cs := [(.pointer none), (.slice none 0 0)]) Tryd.zeroValue86 rfl rfl (fun b1 => ?_))
  refine WL.nil (then_normal ?_)
  obtain ⟨k1, hk1, hm⟩ := joinK_some hm
  refine WP.seq_join (fun g' S' => ∃ (v2 : Value) (l3 : (List UInt8)) (ao4 : Option Addr) (cap4 : Nat) (xs2 : List Value), (v2 = .pointer none ∨ v2 = pB b1 0) ∧ RL H encByte l3 xs2 ∧ Sub [(4, (pB b1 0)), (1000000007, (.bool false))] g' ∧ (∀ w', S' w' → St w H [.row 5 (encByte).size l3.length (.slice ao4 l3.length cap4) xs2, .blk b1 86 [v2, (.slice ao4 l3.length cap4)]] H w') ∧ k1 l3 = some r) ?_ ?_
  · skip
    refine WP.seq (WP.region ?_)
    refine wq rfl rfl rfl (ov_move rfl rfl) ?_
    refine wq rfl rfl rfl (ov_len_slice Tryd.underlying44 rfl rfl) ?_
    refine wq rfl rfl rfl (ov_move rfl rfl) ?_
    refine WL.nil (then_normal (WP.block ?_))
    have rl1 := RL.nil (α := UInt8) H encByte
    refine WP.weaken (fun _ s => s.nilrow 5 (encByte).size) ?_
    refine WP.loop (fun m1 g' S' => ∃ (i1 : Int) (v1 : Value) (l1 : (List UInt8)) (ao2 : Option Addr) (cap2 : Nat) (xs1 : List Value), (v1 = .pointer none ∨ v1 = pB b1 0) ∧ RL H encByte l1 xs1 ∧ Sub [(4, (pB b1 0)), (7, (.slice ao1 p_l.length cap1)), (8, (.int .i64 (p_l.length : Int))), (9, (.int .i64 i1)), (1000000007, (.bool false))] g' ∧ (∀ w', S' w' → St w H [.row 5 (encByte).size l1.length (.slice ao2 l1.length cap2) xs1, .blk b1 86 [v1, (.slice ao2 l1.length cap2)]] H w') ∧ lexer_Unlines_loop1 p_l k1 m1 i1 l1 = some r) ((Int.toNat ((p_l.length : Int) - 0) + 1)) ⟨0, (.pointer none), ([] : List UInt8), none, 0, [], (.inl rfl), rl1, (Sub.cons rfl (Sub.cons rfl (Sub.cons rfl (Sub.cons rfl (Sub.cons rfl (Sub.nil _)))))), fun w' s => s, hm⟩ ?_ ?_
    · rintro g' S' ⟨_, _, _, _, _, _, _, _, _, _, hm⟩
      exact none_some hm
    · rintro m1 g' S' ⟨i1, v1, l1, ao2, cap2, xs1, hv1, rl2, hsub1, hS1, hm⟩
      refine WP.sub hsub1 (WP.weaken hS1 ?_)
      rw [lexer_Unlines_loop1] at hm
      refine WP.seq (WP.region ?_)
      refine wq rfl rfl rfl (ov_lss rfl rfl rfl) ?_
      refine WL.nil (then_normal (WP.seq ?_))
      refine WP.cond rfl (fun hc2 => ?_) (fun hc2 => ?_)
      · replace hm := ite_t hc2 hm
        refine WP.skip (then_normal (WP.seq (WP.block (WP.seq (WP.region ?_)))))
        obtain ⟨x1, e1, hm⟩ := bind_some hm
        obtain ⟨h2, h3, h4, cs1, h5, h6⟩ := h1.get e1 (by decide)
        obtain rfl : cs1 = [(mkS x1)] := h5
        refine wq rfl rfl rfl (ov_indexAddr Tryd.underlying44 Tryd.sizeOf9 rfl rfl rfl h2 h3 h4) ?_
        refine wq rfl rfl rfl (ov_load_elem (v := (mkS x1)) Tryd.isAgg9 rfl rfl h6) ?_
        refine wq rfl rfl rfl (ov_assign rfl rfl) ?_
        refine WL.nil (then_normal (WP.seq (WP.seq (WP.region ?_))))
        refine wq rfl rfl rfl (ov_move rfl rfl) ?_
        obtain ⟨r1, e2, hm⟩ := bind_some hm
        refine WL.quiet (Runs.free rfl) rfl rfl (oq_con (r := (.bool r1)) Tryd.call39 rfl rfl (fun w' s => ⟨_, (strings_Contains_con x1 [10]  w' H s.hold hG r1 e2)⟩)) ?_
        refine WL.nil (then_normal ?_)
        refine WP.cond rfl (fun hc3 => ?_) (fun hc3 => ?_)
        · replace hm := ite_t hc3 hm
          refine WP.seq (WP.region ?_)
          refine wq rfl rfl rfl (ov_assign rfl rfl) ?_
          refine wq rfl rfl rfl (ov_assign rfl rfl) ?_
          refine WL.nil (then_normal (WP.ret (then_ret (block_ret (then_ret (then_ret (block_ret (then_ret ?_))))))))
          obtain rfl := Option.some.inj hm
          refine retQ_ret Tryd.results28 (Res.tmp rfl (Res.tmp rfl Res.nil)) rfl (fun w' s => ⟨s.below, ?_⟩)
          exact rfl
        · replace hm := ite_f hc3 hm
          refine WP.skip (then_normal (WP.region ?_))
          refine wq rfl rfl rfl (ov_move rfl rfl) ?_
          obtain ⟨s1, e3, hm⟩ := bind_some hm
          refine wq rfl rfl rfl (ov_sadd' e3 rfl rfl rfl) ?_
          refine WL.step (Runs.free rfl) rfl rfl (os_inline (cap := []) (vs := [(pB b1 0), (mkS s1)]) Tryd.call52 rfl rfl rfl Tryd.func52 rfl 19 Tryd.ntmps52 rfl (fun w' s => ?_))
          refine WP.seq (WP.region ?_)
          refine wq rfl rfl rfl (ov_assign rfl rfl) ?_
          refine wq rfl rfl rfl (ov_assign rfl rfl) ?_
          refine WL.nil (then_normal (WP.seq (WP.region ?_)))
          refine wq rfl rfl rfl (ov_move rfl rfl) ?_
          refine WL.step (Runs.free rfl) rfl rfl (os_copyCheck (i := 1) rfl rfl rfl hv1 ?_)
          refine WL.nil (then_normal (WP.seq (WP.region ?_)))
          refine wq rfl rfl rfl (ov_move rfl rfl) ?_
          refine wq rfl rfl rfl (ov_move rfl rfl) ?_
          refine wq rfl rfl rfl (ov_nilCheckB rfl rfl) ?_
          refine wq rfl rfl rfl (ov_fieldAddr Tryd.underlying86 rfl rfl rfl Tryd.sizeOf84 rfl rfl) ?_
          refine wq rfl rfl rfl (ov_load_box (i := 1) Tryd.isAgg84 rfl rfl rfl rfl) ?_
          refine wq rfl rfl rfl (ov_move rfl rfl) ?_
          obtain ⟨l2, e4, hm⟩ := bind_some hm
          refine WL.step (Runs.free rfl) rfl rfl (os_app_str (i := 0) (xs := xs1) Tryd.underlying84 Tryd.underlying9 (by kernel_rfl : (Tryd.prog.info? 5).map (fun i => (i.zero, i.size, i.bytes)) = some (some (.int .u8 0), 1, 1)) rfl rfl rfl rfl rl2 e4 (fun ao3 cap3 ys1 rl3 => ?_))
          refine wq rfl rfl rfl (ov_nilCheckB rfl rfl) ?_
          refine wq rfl rfl rfl (ov_fieldAddr Tryd.underlying86 rfl rfl rfl Tryd.sizeOf84 rfl rfl) ?_
          refine WL.step0 (Runs.free rfl) rfl (os_store (i := 1) (vs := [(.slice ao3 (l1 ++ s1).length cap3)]) (cs' := [(pB b1 0), (.slice ao3 (l1 ++ s1).length cap3)]) Tryd.sizeOf84 rfl rfl rfl rfl rfl rfl rfl rfl rfl ?_)
          refine WL.nil (then_normal (WP.seq (WP.region ?_)))
          refine wq rfl rfl rfl (ov_move rfl rfl) ?_
          refine wq rfl rfl rfl (ov_len_string Tryd.underlying9 rfl rfl) ?_
          refine wq rfl rfl rfl (ov_assign rfl rfl) ?_
          refine wq rfl rfl rfl (ov_assign rfl rfl) ?_
          refine WL.nil (then_normal (WP.ret ?_))
          refine retQ_ret (v := (.tuple #[(.int .i64 (s1.length : Int)), .nilIface])) Tryd.results52 (Res.tmp rfl (Res.tmp rfl Res.nil)) rfl (fun w' s => ⟨_, ?_, s⟩)
          refine WL.nil (block_normal (then_normal (WP.region ?_)))
          refine wq rfl rfl rfl (ov_add rfl rfl rfl) ?_
          refine wq rfl rfl rfl (ov_move rfl rfl) ?_
          refine WL.nil (then_normal ?_)
          exact ⟨(IntKind.wrap .i64 (i1 + 1)), (pB b1 0), (l1 ++ s1), ao3, cap3, (xs1 ++ ys1), (.inr rfl), rl3, (Sub.cons rfl (Sub.cons rfl (Sub.cons rfl (Sub.cons rfl (Sub.cons rfl (Sub.nil _)))))), fun w' s => s, hm⟩
      · replace hm := ite_f hc2 hm
        refine WP.exit (then_exit (then_exit (block_here (then_normal ?_))))
        exact ⟨v1, l1, ao2, cap2, xs1, hv1, rl2, (Sub.cons rfl (Sub.cons rfl (Sub.nil _))), fun w' s => s, hm⟩
  · rintro g' S' ⟨v2, l3, ao4, cap4, xs2, hv2, rl4, hsub2, hS2, hm⟩
    refine WP.sub hsub2 (WP.weaken hS2 ?_)
    replace hm := (congrFun hk1 l3).symm.trans hm
    refine WP.seq (WP.region ?_)
    refine WL.step (Runs.free rfl) rfl rfl (os_bstring (i := 1) (j := 0) rfl rfl rfl rfl hv2 rl4 (fun H1 => ?_))
    refine wq rfl rfl rfl (ov_assign rfl rfl) ?_
    refine wq rfl rfl rfl (ov_assign rfl rfl) ?_
    refine WL.nil (then_normal (WP.ret ?_))
    obtain rfl := Option.some.inj hm
    refine retQ_ret Tryd.results28 (Res.tmp rfl (Res.tmp rfl Res.nil)) rfl (fun w' s => ⟨s.below, ?_⟩)
    exact rfl

theorem ref12_Unlines_con (p_l : (List (List UInt8))) (ao1 : Option Addr) (cap1 : Nat) (w : World) (H : Heap) (hH : Le H (hp w)) (h1 : SL H encStr ao1 p_l) (hc1 : p_l.length ≤ cap1) (hG : Glob H) (r : ((List UInt8) × Int)) (hm : ref12_Unlines p_l = some r) :
    Con Tryd.prog 29 [(.slice ao1 p_l.length cap1)] w H (fun v _ => v = (.tuple #[(mkS r.1), (.int .i64 r.2)])) := by
  unfold ref12_Unlines at hm
  refine con_of hH Tryd.func29 rfl 37 Tryd.ntmps29 rfl ?_
  refine WP.seq (WP.region ?_)
  refine wq rfl rfl rfl (ov_assign rfl rfl) ?_
  refine wq rfl rfl rfl (ov_assign rfl rfl) ?_
  refine WL.nil (then_normal (WP.seq (WP.region ?_)))
  refine wq rfl rfl rfl (ov_assign rfl rfl) ?_
  refine WL.nil (then_normal ?_)
  obtain ⟨k1, hk1, hm⟩ := joinK_some hm
  refine WP.seq_join (fun g' S' => ∃ (s5 : (List UInt8)), Sub [(4, (mkS s5)), (1000000007, (.bool false))] g' ∧ (∀ w', S' w' → St w H [] H w') ∧ k1 s5 = some r) ?_ ?_
  · skip
    refine WP.seq (WP.region ?_)
    refine wq rfl rfl rfl (ov_assign rfl rfl) ?_
    refine WL.nil (then_normal (WP.block ?_))
    refine WP.loop (fun m1 g' S' => ∃ (s1 : (List UInt8)) (i1 : Int), Sub [(0, (.slice ao1 p_l.length cap1)), (4, (mkS s1)), (5, (.int .i64 i1)), (1000000007, (.bool false))] g' ∧ (∀ w', S' w' → St w H [] H w') ∧ ref12_Unlines_loop1 p_l k1 m1 s1 i1 = some r) ((Int.toNat ((p_l.length : Int) - 0) + 1)) ⟨[], 0, (Sub.cons rfl (Sub.cons rfl (Sub.cons rfl (Sub.cons rfl (Sub.nil _))))), fun w' s => s, hm⟩ ?_ ?_
    · rintro g' S' ⟨_, _, _, _, hm⟩
      exact none_some hm
    · rintro m1 g' S' ⟨s1, i1, hsub1, hS1, hm⟩
      refine WP.sub hsub1 (WP.weaken hS1 ?_)
      rw [ref12_Unlines_loop1] at hm
      refine WP.seq (WP.seq (WP.region ?_))
      refine wq rfl rfl rfl (ov_move rfl rfl) ?_
      refine wq rfl rfl rfl (ov_move rfl rfl) ?_
      refine wq rfl rfl rfl (ov_len_slice Tryd.underlying44 rfl rfl) ?_
      refine wq rfl rfl rfl (ov_lss rfl rfl rfl) ?_
      refine WL.nil (then_normal ?_)
      refine WP.cond rfl (fun hc2 => ?_) (fun hc2 => ?_)
      · replace hm := ite_t hc2 hm
        refine WP.skip (then_normal ?_)
        obtain ⟨k2, hk2, hm⟩ := joinK_some hm
        refine WP.seq_join (fun g' S' => ∃ (s4 : (List UInt8)), Sub [(0, (.slice ao1 p_l.length cap1)), (4, (mkS s4)), (5, (.int .i64 i1)), (1000000007, (.bool false))] g' ∧ (∀ w', S' w' → St w H [] H w') ∧ k2 s4 = some r) ?_ ?_
        · skip
          refine WP.block ?_
          obtain ⟨k3, hk3, hm⟩ := joinK_some hm
          refine WP.seq_join (fun g' S' => Sub [(0, (.slice ao1 p_l.length cap1)), (4, (mkS s1)), (5, (.int .i64 i1)), (1000000007, (.bool false))] g' ∧ (∀ w', S' w' → St w H [] H w') ∧ k3 = some r) ?_ ?_
          · skip
            refine WP.seq (WP.region ?_)
            refine wq rfl rfl rfl (ov_assign rfl rfl) ?_
            refine WL.nil (then_normal (WP.block ?_))
            refine WP.loop (fun m2 g' S' => ∃ (i2 : Int), Sub [(0, (.slice ao1 p_l.length cap1)), (4, (mkS s1)), (5, (.int .i64 i1)), (6, (.int .i64 i2)), (1000000007, (.bool false))] g' ∧ (∀ w', S' w' → St w H [] H w') ∧ ref12_Unlines_loop2 p_l i1 k3 m2 i2 = some r) ((p_l.flatten.length + 1)) ⟨0, (Sub.cons rfl (Sub.cons rfl (Sub.cons rfl (Sub.cons rfl (Sub.cons rfl (Sub.nil _)))))), fun w' s => s, hm⟩ ?_ ?_
            · rintro g' S' ⟨_, _, _, hm⟩
              exact none_some hm
            · rintro m2 g' S' ⟨i2, hsub2, hS2, hm⟩
              refine WP.sub hsub2 (WP.weaken hS2 ?_)
              rw [ref12_Unlines_loop2] at hm
              refine WP.seq (WP.seq (WP.region ?_))
              refine wq rfl rfl rfl (ov_move rfl rfl) ?_
              refine wq rfl rfl rfl (ov_move rfl rfl) ?_
              refine wq rfl rfl rfl (ov_move rfl rfl) ?_
              obtain ⟨x1, e1, hm⟩ := bind_some hm
              obtain ⟨h2, h3, h4, cs1, h5, h6⟩ := h1.get e1 (by decide)
              obtain rfl : cs1 = [(mkS x1)] := h5
              refine wq rfl rfl rfl (ov_indexAddr Tryd.underlying44 Tryd.sizeOf9 rfl rfl rfl h2 h3 h4) ?_
              refine wq rfl rfl rfl (ov_load_elem (v := (mkS x1)) Tryd.isAgg9 rfl rfl h6) ?_
              refine wq rfl rfl rfl (ov_len_string Tryd.underlying9 rfl rfl) ?_
              refine wq rfl rfl rfl (ov_lss rfl rfl rfl) ?_
              refine WL.nil (then_normal ?_)
              refine WP.cond rfl (fun hc3 => ?_) (fun hc3 => ?_)
              · replace hm := ite_t hc3 hm
                refine WP.skip (then_normal (WP.seq (WP.block (WP.seq (WP.region ?_)))))
                refine wq rfl rfl rfl (ov_move rfl rfl) ?_
                refine wq rfl rfl rfl (ov_move rfl rfl) ?_
                obtain ⟨x2, e2, hm⟩ := bind_some hm
                obtain ⟨h7, h8, h9, cs2, h10, h11⟩ := h1.get e2 (by decide)
                obtain rfl : cs2 = [(mkS x2)] := h10
                refine wq rfl rfl rfl (ov_indexAddr Tryd.underlying44 Tryd.sizeOf9 rfl rfl rfl h7 h8 h9) ?_
                refine wq rfl rfl rfl (ov_load_elem (v := (mkS x2)) Tryd.isAgg9 rfl rfl h11) ?_
                refine wq rfl rfl rfl (ov_move rfl rfl) ?_
                obtain ⟨b1, e3, hm⟩ := bind_some hm
                refine wq rfl rfl rfl (ov_index_string Tryd.underlying9 rfl rfl rfl e3) ?_
                refine wq rfl rfl rfl (ov_eql rfl rfl rfl) ?_
                refine WL.nil (then_normal ?_)
                refine WP.cond rfl (fun hc4 => ?_) (fun hc4 => ?_)
                · replace hm := ite_t hc4 hm
                  refine WP.seq (WP.region ?_)
                  refine wq rfl rfl rfl (ov_assign rfl rfl) ?_
                  refine wq rfl rfl rfl (ov_assign rfl rfl) ?_
                  refine WL.nil (then_normal (WP.ret (block_ret (then_ret (then_ret (block_ret (then_ret (block_ret (then_ret (then_ret (block_ret (then_ret ?_))))))))))))
                  obtain rfl := Option.some.inj hm
                  refine retQ_ret Tryd.results29 (Res.tmp rfl (Res.tmp rfl Res.nil)) rfl (fun w' s => ⟨s.below, ?_⟩)
                  exact rfl
                · replace hm := ite_f hc4 hm
                  refine WP.skip (block_normal (then_normal (WP.region ?_)))
                  refine wq rfl rfl rfl (ov_move rfl rfl) ?_
                  refine wq rfl rfl rfl (ov_add rfl rfl rfl) ?_
                  refine wq rfl rfl rfl (ov_assign rfl rfl) ?_
                  refine WL.nil (then_normal ?_)
                  exact ⟨(IntKind.wrap .i64 (i2 + 1)), (Sub.cons rfl (Sub.cons rfl (Sub.cons rfl (Sub.cons rfl (Sub.cons rfl (Sub.nil _)))))), fun w' s => s, hm⟩
              · replace hm := ite_f hc3 hm
                refine WP.exit (then_exit (then_exit (block_here (then_normal ?_))))
                exact ⟨(Sub.cons rfl (Sub.cons rfl (Sub.cons rfl (Sub.cons rfl (Sub.nil _))))), fun w' s => s, hm⟩
          · rintro g' S' ⟨hsub3, hS3, hm⟩
            refine WP.sub hsub3 (WP.weaken hS3 ?_)
            replace hm := hk3.symm.trans hm
            refine WP.region ?_
            refine wq rfl rfl rfl (ov_move rfl rfl) ?_
            refine wq rfl rfl rfl (ov_move rfl rfl) ?_
            refine wq rfl rfl rfl (ov_move rfl rfl) ?_
            obtain ⟨x3, e4, hm⟩ := bind_some hm
            obtain ⟨h12, h13, h14, cs3, h15, h16⟩ := h1.get e4 (by decide)
            obtain rfl : cs3 = [(mkS x3)] := h15
            refine wq rfl rfl rfl (ov_indexAddr Tryd.underlying44 Tryd.sizeOf9 rfl rfl rfl h12 h13 h14) ?_
            refine wq rfl rfl rfl (ov_load_elem (v := (mkS x3)) Tryd.isAgg9 rfl rfl h16) ?_
            obtain ⟨s2, e5, hm⟩ := bind_some hm
            refine wq rfl rfl rfl (ov_sadd' e5 rfl rfl rfl) ?_
            obtain ⟨s3, e6, hm⟩ := bind_some hm
            refine wq rfl rfl rfl (ov_sadd' e6 rfl rfl rfl) ?_
            refine wq rfl rfl rfl (ov_assign rfl rfl) ?_
            refine WL.nil (block_normal (then_normal ?_))
            exact ⟨s3, (Sub.cons rfl (Sub.cons rfl (Sub.cons rfl (Sub.cons rfl (Sub.nil _))))), fun w' s => s, hm⟩
        · rintro g' S' ⟨s4, hsub4, hS4, hm⟩
          refine WP.sub hsub4 (WP.weaken hS4 ?_)
          replace hm := (congrFun hk2 s4).symm.trans hm
          refine WP.region ?_
          refine wq rfl rfl rfl (ov_move rfl rfl) ?_
          refine wq rfl rfl rfl (ov_add rfl rfl rfl) ?_
          refine wq rfl rfl rfl (ov_assign rfl rfl) ?_
          refine WL.nil (then_normal ?_)
          exact ⟨s4, (IntKind.wrap .i64 (i1 + 1)), (Sub.cons rfl (Sub.cons rfl (Sub.cons rfl (Sub.cons rfl (Sub.nil _))))), fun w' s => s, hm⟩
      · replace hm := ite_f hc2 hm
        refine WP.exit (then_exit (then_exit (block_here (then_normal ?_))))
        exact ⟨s1, (Sub.cons rfl (Sub.cons rfl (Sub.nil _))), fun w' s => s, hm⟩
  · rintro g' S' ⟨s5, hsub5, hS5, hm⟩
    refine WP.sub hsub5 (WP.weaken hS5 ?_)
    replace hm := (congrFun hk1 s5).symm.trans hm
    refine WP.seq (WP.region ?_)
    refine wq rfl rfl rfl (ov_move rfl rfl) ?_
    refine wq rfl rfl rfl (ov_assign rfl rfl) ?_
    refine wq rfl rfl rfl (ov_assign rfl rfl) ?_
    refine WL.nil (then_normal (WP.ret ?_))
    obtain rfl := Option.some.inj hm
    refine retQ_ret Tryd.results29 (Res.tmp rfl (Res.tmp rfl Res.nil)) rfl (fun w' s => ⟨s.below, ?_⟩)
    exact rfl

theorem ref12_Worth_con (p_s : (List UInt8)) (w : World) (H : Heap) (hH : Le H (hp w)) (hG : Glob H) (r : Int) (hm : ref12_Worth p_s = some r) :
    Con Tryd.prog 65 [(mkS p_s)] w H (fun v _ => v = (.int .i64 r)) := by
  unfold ref12_Worth at hm
  refine con_of hH Tryd.func65 rfl 20 Tryd.ntmps65 rfl ?_
  refine WP.seq (WP.region ?_)
  refine wq rfl rfl rfl (ov_assign rfl rfl) ?_
  refine WL.nil (then_normal (WP.seq (WP.region ?_)))
  refine wq rfl rfl rfl (ov_assign rfl rfl) ?_
  refine WL.nil (then_normal ?_)
  obtain ⟨k1, hk1, hm⟩ := joinK_some hm
  refine WP.seq_join (fun g' S' => ∃ (i3 : Int), Sub [(3, (.int .i64 i3)), (1000000007, (.bool false))] g' ∧ (∀ w', S' w' → St w H [] H w') ∧ k1 i3 = some r) ?_ ?_
  · skip
    refine WP.seq (WP.region ?_)
    refine wq rfl rfl rfl (ov_assign rfl rfl) ?_
    refine WL.nil (then_normal (WP.block ?_))
    refine WP.loop (fun m1 g' S' => ∃ (i1 : Int) (i2 : Int), Sub [(0, (mkS p_s)), (3, (.int .i64 i1)), (4, (.int .i64 i2)), (1000000007, (.bool false))] g' ∧ (∀ w', S' w' → St w H [] H w') ∧ ref12_Worth_loop1 p_s k1 m1 i1 i2 = some r) ((Int.toNat ((p_s.length : Int) - 0) + 1)) ⟨0, 0, (Sub.cons rfl (Sub.cons rfl (Sub.cons rfl (Sub.cons rfl (Sub.nil _))))), fun w' s => s, hm⟩ ?_ ?_
    · rintro g' S' ⟨_, _, _, _, hm⟩
      exact none_some hm
    · rintro m1 g' S' ⟨i1, i2, hsub1, hS1, hm⟩
      refine WP.sub hsub1 (WP.weaken hS1 ?_)
      rw [ref12_Worth_loop1] at hm
      refine WP.seq (WP.seq (WP.region ?_))
      refine wq rfl rfl rfl (ov_move rfl rfl) ?_
      refine wq rfl rfl rfl (ov_move rfl rfl) ?_
      refine wq rfl rfl rfl (ov_len_string Tryd.underlying9 rfl rfl) ?_
      refine wq rfl rfl rfl (ov_lss rfl rfl rfl) ?_
      refine WL.nil (then_normal ?_)
      refine WP.cond rfl (fun hc1 => ?_) (fun hc1 => ?_)
      · replace hm := ite_t hc1 hm
        refine WP.skip (then_normal (WP.seq (WP.block (WP.region ?_))))
        refine wq rfl rfl rfl (ov_move rfl rfl) ?_
        refine wq rfl rfl rfl (ov_mul rfl rfl rfl) ?_
        refine wq rfl rfl rfl (ov_move rfl rfl) ?_
        refine wq rfl rfl rfl (ov_move rfl rfl) ?_
        obtain ⟨b1, e1, hm⟩ := bind_some hm
        refine wq rfl rfl rfl (ov_index_string Tryd.underlying9 rfl rfl rfl e1) ?_
        refine wq rfl rfl rfl (ov_sub rfl rfl rfl) ?_
        refine wq rfl rfl rfl (ov_convert_int Tryd.underlying5 Tryd.underlying3 rfl rfl) ?_
        refine wq rfl rfl rfl (ov_add rfl rfl rfl) ?_
        refine wq rfl rfl rfl (ov_assign rfl rfl) ?_
        refine WL.nil (block_normal (then_normal (WP.region ?_)))
        refine wq rfl rfl rfl (ov_move rfl rfl) ?_
        refine wq rfl rfl rfl (ov_add rfl rfl rfl) ?_
        refine wq rfl rfl rfl (ov_assign rfl rfl) ?_
        refine WL.nil (then_normal ?_)
        exact ⟨(IntKind.wrap .i64 ((IntKind.wrap .i64 (10 * i1)) + (IntKind.wrap .i64 (IntKind.wrap .u8 ((b1.toNat : Int) - 48))))), (IntKind.wrap .i64 (i2 + 1)), (Sub.cons rfl (Sub.cons rfl (Sub.cons rfl (Sub.cons rfl (Sub.nil _))))), fun w' s => s, hm⟩
      · replace hm := ite_f hc1 hm
        refine WP.exit (then_exit (then_exit (block_here (then_normal ?_))))
        exact ⟨i1, (Sub.cons rfl (Sub.cons rfl (Sub.nil _))), fun w' s => s, hm⟩
  · rintro g' S' ⟨i3, hsub2, hS2, hm⟩
    refine WP.sub hsub2 (WP.weaken hS2 ?_)
    replace hm := (congrFun hk1 i3).symm.trans hm
    refine WP.seq (WP.region ?_)
    refine wq rfl rfl rfl (ov_move rfl rfl) ?_
    refine wq rfl rfl rfl (ov_assign rfl rfl) ?_
    refine WL.nil (then_normal (WP.ret ?_))
    obtain rfl := Option.some.inj hm
    refine retQ_ret Tryd.results65 (Res.tmp rfl Res.nil) rfl (fun w' s => ⟨s.below, ?_⟩)
    exact rfl

theorem ref12_Value_con (p_s : (List UInt8)) (w : World) (H : Heap) (hH : Le H (hp w)) (hG : Glob H) (r : (Int × Int)) (hm : ref12_Value p_s = some r) :
    Con Tryd.prog 34 [(mkS p_s)] w H (fun v _ => v = (.tuple #[(.int .i64 r.1), (.int .i64 r.2)])) := by
  unfold ref12_Value at hm
  refine con_of hH Tryd.func34 rfl 31 Tryd.ntmps34 rfl ?_
  refine WP.seq (WP.region ?_)
  refine wq rfl rfl rfl (ov_assign rfl rfl) ?_
  refine wq rfl rfl rfl (ov_assign rfl rfl) ?_
  refine WL.nil (then_normal (WP.seq (WP.region ?_)))
  refine wq rfl rfl rfl (ov_assign rfl rfl) ?_
  refine WL.nil (then_normal ?_)
  obtain ⟨k1, hk1, hm⟩ := joinK_some hm
  refine WP.seq_join (fun g' S' => ∃ (s2 : (List UInt8)) (i1 : Int), Sub [(0, (mkS s2)), (4, (.int .i64 i1)), (1000000007, (.bool false))] g' ∧ (∀ w', S' w' → St w H [] H w') ∧ k1 s2 i1 = some r) ?_ ?_
  · skip
    refine WP.seq (WP.region ?_)
    refine wq rfl rfl rfl (ov_move rfl rfl) ?_
    refine wq rfl rfl rfl (ov_len_string Tryd.underlying9 rfl rfl) ?_
    refine wq rfl rfl rfl (ov_gtr rfl rfl rfl) ?_
    refine wq rfl rfl rfl (ov_move rfl rfl) ?_
    obtain ⟨c1, e1, hm⟩ := bind_some hm
    refine WL.cut_bool 4 13 (x := c1) ?_ ?_
    · rcases Bool.eq_false_or_eq_true (decide ((p_s.length : Int) > 0)) with hc1 | hc1
      · skip
        replace hm := ite_t hc1 e1
        refine WL.quiet (Runs.yes rfl rfl rfl hc1) rfl rfl (OV.quiet (ov_move rfl rfl)) ?_
        obtain ⟨b1, e2, hm⟩ := bind_some hm
        refine WL.quiet (Runs.yes rfl rfl rfl hc1) rfl rfl (OV.quiet (ov_index_string Tryd.underlying9 rfl rfl rfl e2)) ?_
        refine WL.quiet (Runs.yes rfl rfl rfl hc1) rfl rfl (OV.quiet (ov_eql rfl rfl rfl)) ?_
        refine wq rfl rfl rfl (ov_pick_true rfl (guard_eq rfl hc1) rfl) ?_
        exact WL.nil ⟨Sub.cons' rfl (congrArg Value.bool (Option.some.inj hm)) (Sub.skip rfl (Sub.skip rfl (Sub.skip rfl (Sub.skip rfl (Sub.refl _))))), fun _ s => s⟩
      · skip
        replace hm := ite_f hc1 e1
        refine WL.idle (Idle.no rfl rfl rfl hc1) rfl rfl ?_
        refine WL.idle (Idle.no rfl rfl rfl hc1) rfl rfl ?_
        refine WL.idle (Idle.no rfl rfl rfl hc1) rfl rfl ?_
        refine wq rfl rfl rfl (ov_pick_false rfl (guard_eq rfl hc1) rfl) ?_
        exact WL.nil ⟨Sub.cons' rfl (congrArg Value.bool (Option.some.inj hm)) (Sub.skip rfl (Sub.skip rfl (Sub.skip rfl (Sub.skip rfl (Sub.refl _))))), fun _ s => s⟩
    refine WL.nil (then_normal ?_)
    refine WP.cond rfl (fun hc2 => ?_) (fun hc2 => ?_)
    · replace hm := ite_t hc2 hm
      refine WP.region ?_
      refine wq rfl rfl rfl (ov_move rfl rfl) ?_
      obtain ⟨s1, e3, hm⟩ := bind_some hm
      refine wq rfl rfl rfl (ov_slice_string_from Tryd.underlying9 rfl rfl rfl e3) ?_
      refine wq rfl rfl rfl (ov_assign rfl rfl) ?_
      refine wq rfl rfl rfl (ov_assign rfl rfl) ?_
      refine WL.nil (then_normal ?_)
      exact ⟨s1, (-1), (Sub.cons rfl (Sub.cons rfl (Sub.cons rfl (Sub.nil _)))), fun w' s => s, hm⟩
    · replace hm := ite_f hc2 hm
      refine WP.skip (then_normal ?_)
      exact ⟨p_s, 1, (Sub.cons rfl (Sub.cons rfl (Sub.cons rfl (Sub.nil _)))), fun w' s => s, hm⟩
  · rintro g' S' ⟨s2, i1, hsub1, hS1, hm⟩
    refine WP.sub hsub1 (WP.weaken hS1 ?_)
    replace hm := (congrFun (congrFun hk1 s2) i1).symm.trans hm
    refine WP.seq (WP.seq (WP.region ?_))
    refine wq rfl rfl rfl (ov_move rfl rfl) ?_
    refine wq rfl rfl rfl (ov_lss rfl rfl rfl) ?_
    refine wq rfl rfl rfl (ov_move rfl rfl) ?_
    refine WL.cut_bool 3 21 (x := ((decide (i1 < 0)) && (s2 == [48]))) ?_ ?_
    · rcases Bool.eq_false_or_eq_true (decide (i1 < 0)) with hc3 | hc3
      · skip
        refine WL.quiet (Runs.yes rfl rfl rfl hc3) rfl rfl (OV.quiet (ov_move rfl rfl)) ?_
        refine WL.quiet (Runs.yes rfl rfl rfl hc3) rfl rfl (OV.quiet (ov_seql rfl rfl rfl)) ?_
        refine wq rfl rfl rfl (ov_pick_true rfl (guard_eq rfl hc3) rfl) ?_
        exact WL.nil ⟨Sub.cons' rfl (congrArg Value.bool (andT hc3)) (Sub.skip rfl (Sub.skip rfl (Sub.skip rfl (Sub.refl _)))), fun _ s => s⟩
      · skip
        refine WL.idle (Idle.no rfl rfl rfl hc3) rfl rfl ?_
        refine WL.idle (Idle.no rfl rfl rfl hc3) rfl rfl ?_
        refine wq rfl rfl rfl (ov_pick_false rfl (guard_eq rfl hc3) rfl) ?_
        exact WL.nil ⟨Sub.cons' rfl (congrArg Value.bool (andF hc3)) (Sub.skip rfl (Sub.skip rfl (Sub.skip rfl (Sub.refl _)))), fun _ s => s⟩
    refine WL.nil (then_normal ?_)
    refine WP.cond rfl (fun hc4 => ?_) (fun hc4 => ?_)
    · replace hm := ite_t hc4 hm
      refine WP.seq (WP.region ?_)
      refine wq rfl rfl rfl (ov_assign rfl rfl) ?_
      refine wq rfl rfl rfl (ov_assign rfl rfl) ?_
      refine WL.nil (then_normal (WP.ret (then_ret ?_)))
      obtain rfl := Option.some.inj hm
      refine retQ_ret Tryd.results34 (Res.tmp rfl (Res.tmp rfl Res.nil)) rfl (fun w' s => ⟨s.below, ?_⟩)
      exact rfl
    · replace hm := ite_f hc4 hm
      refine WP.skip (then_normal (WP.seq (WP.seq (WP.region ?_))))
      refine wq rfl rfl rfl (ov_move rfl rfl) ?_
      obtain ⟨r1, e4, hm⟩ := bind_some hm
      refine WL.quiet (Runs.free rfl) rfl rfl (oq_con (r := (.int .i64 r1)) Tryd.call36 rfl rfl (fun w' s => ⟨_, (ref12_Number_con s2  w' H s.hold hG r1 e4)⟩)) ?_
      refine wq rfl rfl rfl (ov_assign rfl rfl) ?_
      refine WL.nil (then_normal (WP.seq (WP.region ?_)))
      refine wq rfl rfl rfl (ov_move rfl rfl) ?_
      refine wq rfl rfl rfl (ov_neq rfl rfl rfl) ?_
      refine WL.nil (then_normal ?_)
      refine WP.cond rfl (fun hc5 => ?_) (fun hc5 => ?_)
      · replace hm := ite_t hc5 hm
        refine WP.seq (WP.region ?_)
        refine wq rfl rfl rfl (ov_move rfl rfl) ?_
        refine wq rfl rfl rfl (ov_assign rfl rfl) ?_
        refine wq rfl rfl rfl (ov_assign rfl rfl) ?_
        refine WL.nil (then_normal (WP.ret (then_ret ?_)))
        obtain rfl := Option.some.inj hm
        refine retQ_ret Tryd.results34 (Res.tmp rfl (Res.tmp rfl Res.nil)) rfl (fun w' s => ⟨s.below, ?_⟩)
        exact rfl
      · replace hm := ite_f hc5 hm
        refine WP.skip (then_normal (WP.seq (WP.region ?_)))
        refine wq rfl rfl rfl (ov_move rfl rfl) ?_
        refine wq rfl rfl rfl (ov_move rfl rfl) ?_
        obtain ⟨r2, e5, hm⟩ := bind_some hm
        refine WL.quiet (Runs.free rfl) rfl rfl (oq_con (r := (.int .i64 r2)) Tryd.call65 rfl rfl (fun w' s => ⟨_, (ref12_Worth_con s2  w' H s.hold hG r2 e5)⟩)) ?_
        refine wq rfl rfl rfl (ov_mul rfl rfl rfl) ?_
        refine wq rfl rfl rfl (ov_assign rfl rfl) ?_
        refine wq rfl rfl rfl (ov_assign rfl rfl) ?_
        refine WL.nil (then_normal (WP.ret ?_))
        obtain rfl := Option.some.inj hm
        refine retQ_ret Tryd.results34 (Res.tmp rfl (Res.tmp rfl Res.nil)) rfl (fun w' s => ⟨s.below, ?_⟩)
        exact rfl

end Go.Proofs.YtmfphbdafgmplaaDoor.W
