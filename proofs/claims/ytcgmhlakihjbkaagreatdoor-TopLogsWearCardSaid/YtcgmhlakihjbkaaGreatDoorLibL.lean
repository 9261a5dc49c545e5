/- Our own calculus, twelfth part: ranges over functions: the iterator is walked in place, and in it, at each call of yield, the loop's body. A general text: it names no program. -/
import Derived.Test.YtcgmhlakihjbkaaGreatDoorLibK
import Derived.Laws.BytesArg
set_option linter.unusedVariables false
set_option linter.unusedSimpArgs false
set_option linter.unusedSectionVars false
namespace Go.Proofs.YtcgmhlakihjbkaaGreatDoor.W
open Go Go.RowKit
theorem andT {c a : Bool} (h : c = true) : a = (c && a) := by rw [h]; cases a <;> rfl
theorem andF {c a : Bool} (h : c = false) : false = (c && a) := by rw [h]; cases a <;> rfl
theorem orT {c a : Bool} (h : c = true) : true = (c || a) := by rw [h]; cases a <;> rfl
theorem orF {c a : Bool} (h : c = false) : a = (c || a) := by rw [h]; cases a <;> rfl
/-- short forms of what every walk asks -/
theorem wq {F : Fence} [Free F] {P : Program} {n : Nat} {g : Frm} {S : Pred} {K : Frm → Pred → Prop} {ops : Array Oper} {l : List Oper} {o : Oper} {d : Nat} {v : Value} (hg : o.guard = none) (hd : o.dst = some d) (hn : okDst d n = true) (h : OV P n o g S v) (k : WL F P n ops l ((d, v) :: g) S K) : WL F P n ops (o :: l) g S K :=
  WL.quiet (Runs.free hg) hd hn (OV.quiet h) k
theorem tq {P : Program} {n fuel : Nat} {g : Frm} {S S₀ : Pred} {K : Frm → Pred → Prop} {L : List Oper} {o : Oper} {listed : Array Bool} {i d : Nat} {v : Value} (hi : L[i]? = some o) (hh : (Region.noSelect L.toArray && (Region.free .any L.toArray listed i && (Region.ready .any L.toArray listed).contains i)) = true)
    (hg : o.guard = none) (hd : o.dst = some d) (hn : okDst d n = true) (h : OV P n o g S₀ v) (k : AL P n L.toArray S₀ fuel (listed.setIfInBounds i true) ((d, v) :: g) S K) : AL P n L.toArray S₀ (fuel + 1) listed g S K := by
  rw [Bool.and_eq_true, Bool.and_eq_true] at hh
  exact AL.take hi hh.1 hh.2.1 hh.2.2 (Runs.free hg) hd hn h k
/-- the record of a loop -/
def lrec (st : LoopState) (pd : Option Code) (fid : FuncId) (T : Array Value) (ps : Array Tmp) (assign body : Code) (D : Nat) : Obj :=
  .loop { state := st, pending := pd, fn := fid, tmps := T, params := ps, assign, body, defers := D }
/-- the frame of a round -/
def parFrm : List Tmp → List Value → Frm → Frm
  | p :: ps, v :: vs, g => parFrm ps vs ((p, v) :: g)
  | _, _, g => g
theorem fits_par {n : Nat} : ∀ (ps : List Tmp) (vs : List Value) (g : Frm) (T : Array Value), (ps.all fun p => okDst p n) = true → ps.length = vs.length → Fits n g ⟨T, []⟩ →
    Fits n (parFrm ps vs g) ⟨(ps.zip vs).foldl (fun tmps (x : Tmp × Value) => tmps.setIfInBounds x.1 x.2) T, []⟩
  | [], [], g, T, _, _, f => f
  | p :: ps, v :: vs, g, T, h, hl, f => by
    rw [List.all_cons, Bool.and_eq_true] at h
    exact fits_par ps vs ((p, v) :: g) (T.setIfInBounds p v) h.2 (by simpa using hl) (f.put h.1 v)
  | [], _ :: _, _, _, _, hl, _ => by simp at hl
  | _ :: _, [], _, _, _, hl, _ => by simp at hl
section
variable {P : Program} {n : Nat} {o : Oper} {g : Frm} {w0 : World} {ms : List Ent} {H0 H : Heap}
theorem St.obj_put {w : World} {i b : Nat} {x y : Obj} (h : St w0 H0 ms H w) (hi : ms[i]? = some (.obj b x)) : St w0 H0 (ms.set i (.obj b y)) H (w.putObj b y) := by
  have hx : w.heap[b]? = some x := h.sat _ (List.mem_of_getElem? hi)
  have hlt := (Array.getElem?_eq_some_iff.1 hx).1
  refine h.turn hi ⟨rfl, rfl, rfl, by simp, fun k hk hne => World.putObj_heap_other (fun e => hne (by subst e; rfl))⟩ ?_ (fun c hc => .inl hc)
  exact World.putObj_heap_same hlt
/-- how a loop's record looks in its states -/
def RecOf (R : LoopState → Option Code → Obj) (n : Nat) (g : Frm) (ps : List Tmp) (assign body : Code) (D : Nat) : Prop :=
  ∃ (fid : FuncId) (T : Array Value), (∀ st pd, R st pd = lrec st pd fid T ps.toArray assign body D) ∧ Fits n g ⟨T, []⟩
/-- what is asked when the function that was ranged over has returned -/
def AfterQ (w0 : World) (H0 : Heap) (l D : Nat) (R : LoopState → Option Code → Obj) (g : Frm) (Q : Exit → Frm → Pred → Prop) (S : Pred) : Prop :=
  ∃ (st : LoopState) (pd : Option Code) (ms : List Ent) (H : Heap), S = St w0 H0 (.obj l (R st pd) :: .obj D (.deferred (some [])) :: ms) H ∧ st ≠ .busy ∧
    match pd with
    | none => Q .normal ((markKey, .int .i64 D) :: g) (St w0 H0 (.obj D (.deferred (some [])) :: ms) H)
    | some .ret => Q .ret ((markKey, .int .i64 D) :: g) (St w0 H0 (.obj D (.deferred (some [])) :: ms) H)
    | some (.exit id) => Q (.exit id) ((markKey, .int .i64 D) :: g) (St w0 H0 (.obj D (.deferred (some [])) :: ms) H)
    | _ => False
section
variable {l D : Nat} {R : LoopState → Option Code → Obj} {Q : Exit → Frm → Pred → Prop}
theorem after_normal (h : Q .normal ((markKey, .int .i64 D) :: g) (St w0 H0 (.obj D (.deferred (some [])) :: ms) H)) : AfterQ w0 H0 l D R g Q (St w0 H0 (.obj l (R .ready none) :: .obj D (.deferred (some [])) :: ms) H) :=
  ⟨_, none, ms, H, rfl, by decide, h⟩
theorem after_ret (h : Q .ret ((markKey, .int .i64 D) :: g) (St w0 H0 (.obj D (.deferred (some [])) :: ms) H)) : AfterQ w0 H0 l D R g Q (St w0 H0 (.obj l (R .done (some .ret)) :: .obj D (.deferred (some [])) :: ms) H) :=
  ⟨_, some .ret, ms, H, rfl, by decide, h⟩
end
/-- the statement -/
theorem WP.range {gf : Operand} {ps : List Tmp} {assign body : Code} {F2 : FuncId} {fn2 : Func} {c2 : Code} {cap : List Value} {Q : Exit → Frm → Pred → Prop} (hc : ∀ args w, (callFunc F2 args).run P w = .ok (.enter F2 args) w)
    (hg : ev g gf = some (.func (.func F2) #[] cap.toArray)) (hf : P.funcs[F2]? = some fn2) (hb : fn2.body = some c2) (n2 : Nat) (hnt : fn2.ntmps = n2) (hn : Nat.ble (cap.length + 1) n2 = true)
    (k : ∀ (l D : Nat) (R : LoopState → Option Code → Obj), RecOf R n g ps assign body D →
      WP Fence.wide P n2 c2 (argFrm 0 (.func (.yield l) #[] #[] :: cap)) (St w0 H0 (.obj l (R .ready none) :: .obj D (.deferred (some [])) :: ms) H)
        (retQ n2 fn2 P fun _ w' => ∃ S', AfterQ w0 H0 l D R g Q S' ∧ S' w'))
    (hm : look g markKey = some (.bool false) := by rfl) (hk : Nat.ble (cap.length + 1) markKey = true := by rfl) : WP Fence.wide P n (.rangeFunc gf ps.toArray assign body) g (St w0 H0 ms H) Q := fun a w f s => by
  have hd : a.defers = [] := f.marks _ hm
  have ha : a = ⟨a.tmps, []⟩ := by cases a; simp_all
  refine wpIn_rangeFunc fun fid _ => ?_
  have hlrec : (Instr.enterLoop fid a.tmps ps.toArray assign body Fence.wide.round).run P w = _ := run_enterLoop_outer (P := P) (w := w) fid a.tmps ps.toArray assign body
  have s1 : St w0 H0 (.obj w.heap.size (.deferred (some [])) :: ms) H (w.alloc (.deferred (some []))) :=
    s.push ((Below.refl _ w).alloc (Nat.le_refl _) _) (World.alloc_heap_new w _) (fun b hb => by cases hb; exact Nat.le_refl _)
  have s2 := s1.push (e := .obj (w.heap.size + 1) (lrec .ready none fid a.tmps ps.toArray assign body w.heap.size)) ((Below.refl _ _).alloc (Nat.le_refl _) _)
    (by have := World.alloc_heap_new (w.alloc (.deferred (some []))) (lrec .ready none fid a.tmps ps.toArray assign body w.heap.size); rw [World.size_alloc] at this; exact this) (fun b hb => by cases hb; simp)
  have hcall := calls_of (w := (w.alloc (.deferred (some []))).alloc (lrec .ready none fid a.tmps ps.toArray assign body w.heap.size)) _ s2 hf hb n2 hnt (by simpa using hn) (k (w.heap.size + 1) w.heap.size (fun st pd => lrec st pd fid a.tmps ps.toArray assign body w.heap.size) ⟨fid, a.tmps, fun _ _ => rfl, by rw [← ha]; exact f⟩) (by simpa using hk)
  refine ⟨w.heap.size + 1, _, _, { target := .fn (.func F2) cap.toArray, args := #[.func (.yield (w.heap.size + 1)) #[] #[]] }, (w.alloc (.deferred (some []))).alloc (lrec .ready none fid a.tmps ps.toArray assign body w.heap.size), F2, _, _, hlrec, ?_, fun _ _ => trivial, ?_, fun h => (by cases h), callsIn_wide.2 (Calls.mono hcall ?_)⟩
  · simp [resolve, rangeCall, f.eval hg, Deferred.ofValue]
    exact ⟨rfl, rfl⟩
  · have := hc (#[.func (.yield (w.heap.size + 1)) #[] #[]] ++ cap.toArray) ((w.alloc (.deferred (some []))).alloc (lrec .ready none fid a.tmps ps.toArray assign body w.heap.size))
    simp only [invoke]
    simpa using this
  · rintro e w3 ⟨v, rfl, S', ⟨st, pd, ms', H', rfl, hst, hj⟩, s3⟩
    have hl : w3.heap[w.heap.size + 1]? = some (lrec st pd fid a.tmps ps.toArray assign body w.heap.size) := s3.sat _ (List.mem_cons_self ..)
    have s4 := (s3.obj_put (i := 0) (y := lrec .exhausted pd fid a.tmps ps.toArray assign body w.heap.size) rfl).less (List.sublist_cons_self _ _)
    have hfit : Fits n ((markKey, .int .i64 w.heap.size) :: g) { a with defers := [{ target := .collected w.heap.size, args := #[] }] ++ a.defers } := by
      refine ⟨fun v e => ?_, f.size, fun t v e ht => f.slots t v (by rw [look_cons, if_neg (fun q => ht q.symm)] at e; exact e) ht⟩
      rw [look_cons, if_pos rfl] at e
      cases e
      rw [hd]
      simp [defersOf]
    refine ⟨pd, _, run_endLoop hl hst, ?_⟩
    cases pd with
    | none => exact ⟨_, _, hfit, s4, hj⟩
    | some c =>
      cases c with
      | ret => exact wpIn_ret ⟨_, _, hfit, s4, hj⟩
      | exit id => exact wpIn_exit ⟨_, _, hfit, s4, hj⟩
      | _ => exact hj.elim
/-- what is asked at a round's end: the iterator goes on -/
def roundQ (w0 : World) (H0 : Heap) (l : Nat) (R : LoopState → Option Code → Obj) (K : Bool → Pred → Prop) : Exit → Frm → Pred → Prop
  | .normal, _, S => ∃ i ms H, (∀ w, S w → St w0 H0 ms H w) ∧ ms[i]? = some (.obj l (R .busy none)) ∧ K true (St w0 H0 (ms.set i (.obj l (R .ready none))) H)
  | .ret, _, S => ∃ i ms H, (∀ w, S w → St w0 H0 ms H w) ∧ ms[i]? = some (.obj l (R .busy none)) ∧ K false (St w0 H0 (ms.set i (.obj l (R .done (some .ret)))) H)
  | .exit id, _, S => ∃ i ms H, (∀ w, S w → St w0 H0 ms H w) ∧ ms[i]? = some (.obj l (R .busy none)) ∧ K false (St w0 H0 (ms.set i (.obj l (R .done (some (.exit id))))) H)
  | _, _, _ => False
/-- between the assignments and the body -/
def beginQ (P : Program) (w0 : World) (H0 : Heap) (n l : Nat) (R : LoopState → Option Code → Obj) (body : Code) (Q : Exit → Frm → Pred → Prop) (g : Frm) (S : Pred) : Prop :=
  ∃ i ms H, S = St w0 H0 ms H ∧ ms[i]? = some (.obj l (R .ready none)) ∧ WP (Fence.wide.inRound l) P n body g (St w0 H0 (ms.set i (.obj l (R .busy none))) H) Q
def noQ : Exit → Frm → Pred → Prop := fun _ _ _ => False
section
variable {l i : Nat} {R : LoopState → Option Code → Obj} {K : Bool → Pred → Prop}
theorem begin_of {n : Nat} {body : Code} {Q : Exit → Frm → Pred → Prop} (hi : ms[i]? = some (.obj l (R .ready none))) (h : WP (Fence.wide.inRound l) P n body g (St w0 H0 (ms.set i (.obj l (R .busy none))) H) Q) : beginQ P w0 H0 n l R body Q g (St w0 H0 ms H) := ⟨i, ms, H, rfl, hi, h⟩
theorem round_normal (hi : ms[i]? = some (.obj l (R .busy none))) (h : K true (St w0 H0 (ms.set i (.obj l (R .ready none))) H)) : roundQ w0 H0 l R K .normal g (St w0 H0 ms H) := ⟨i, ms, H, fun _ s => s, hi, h⟩
theorem round_ret (hi : ms[i]? = some (.obj l (R .busy none))) (h : K false (St w0 H0 (ms.set i (.obj l (R .done (some .ret)))) H)) : roundQ w0 H0 l R K .ret g (St w0 H0 ms H) := ⟨i, ms, H, fun _ s => s, hi, h⟩
end
/-- a call of yield -/
theorem WL.yield {ops : Array Oper} {L : List Oper} {K : Frm → Pred → Prop} {y : Operand} {xs : List Operand} {ats : Array TypeId} {vs : List Value} {i l D d nr : Nat} {R : LoopState → Option Code → Obj} {ps : List Tmp} {assign body : Code} {gr : Frm}
    (hr : Runs n ops g o) (hd : o.dst = some d) (hn : okDst d n = true) (h : o.op = .call { callee := .value y, args := xs.toArray, argTypes := ats }) (hy : ev g y = some (.func (.yield l) #[] #[])) (hx : evs g xs = some vs)
    (hrec : RecOf R nr gr ps assign body D) (hi : ms[i]? = some (.obj l (R .ready none))) (hps : (ps.all fun p => okDst p nr) = true) (hlen : ps.length = vs.length)
    (k : WP (Fence.wide.inRound l) P nr assign (parFrm ps vs gr) (St w0 H0 ms H) (thenQ (beginQ P w0 H0 nr l R body (roundQ w0 H0 l R fun b S' => WL Fence.wide P n ops L ((d, .bool b) :: g) S' K)) noQ)) :
    WL Fence.wide P n ops (o :: L) g (St w0 H0 ms H) K := fun a w f s Q hQ => by
  obtain ⟨fid, T, hR, hT⟩ := hrec
  obtain rfl : R = fun st pd => lrec st pd fid T ps.toArray assign body D := funext fun st => funext fun pd => hR st pd
  have hl : w.heap[l]? = some (lrec .ready none fid T ps.toArray assign body D) := s.sat _ (List.mem_of_getElem? hi)
  refine wpList_do (hr a f) ⟨fun _ _ => trivial, ?_⟩
  have hrun : (o.semAt Fence.wide.round a.eval).run P w = .ok (.round l fid ((ps.zip vs).foldl (fun tmps (x : Tmp × Value) => tmps.setIfInBounds x.1 x.2) T) assign body) w := by
    have h1 := run_yield (P := P) (args := vs.toArray) hl (by simp [hlen])
    show (execOp a.eval o).run P w = _
    simp only [execOp, h, resolve, Sem.run_bind]
    simp [invoke, f.eval hy, Deferred.ofValue, evs_arr hx a f]
    simpa using h1
  rw [hrun]
  refine ⟨fun q => (by cases q), roundIn_of_wpIn trivial ?_⟩
  refine Code.wpIn_mono ?_ (k _ w (fits_par ps vs gr T hps hlen hT) s)
  rintro e a1 w1 ⟨g', S', hf', hs', hq⟩
  cases e with
  | normal =>
    obtain ⟨j, ms1, H1, rfl, hj, hbody⟩ := hq
    have hl1 : w1.heap[l]? = some (lrec .ready none fid T ps.toArray assign body D) := hs'.sat _ (List.mem_of_getElem? hj)
    refine ⟨_, run_beginRound hl1 rfl, ?_⟩
    refine Code.wpIn_mono ?_ (hbody a1 _ hf' (hs'.obj_put hj))
    rintro e2 a2 w2 ⟨g2, S2, hf2, hs2, hq2⟩
    cases e2 with
    | normal =>
      obtain ⟨j2, ms2, H2, hS2, hj2, hk⟩ := hq2
      replace hs2 := hS2 _ hs2
      have hl2 : w2.heap[l]? = some (lrec .busy none fid T ps.toArray assign body D) := hs2.sat _ (List.mem_of_getElem? hj2)
      refine ⟨_, _, run_endRound none hl2, ?_⟩
      exact hk _ _ (by rw [hd]; exact f.put hn _) (hs2.obj_put hj2) Q hQ
    | ret =>
      obtain ⟨j2, ms2, H2, hS2, hj2, hk⟩ := hq2
      replace hs2 := hS2 _ hs2
      have hl2 : w2.heap[l]? = some (lrec .busy none fid T ps.toArray assign body D) := hs2.sat _ (List.mem_of_getElem? hj2)
      refine ⟨_, _, run_endRound (some .ret) hl2, ?_⟩
      exact hk _ _ (by rw [hd]; exact f.put hn _) (hs2.obj_put hj2) Q hQ
    | exit id =>
      obtain ⟨j2, ms2, H2, hS2, hj2, hk⟩ := hq2
      replace hs2 := hS2 _ hs2
      have hl2 : w2.heap[l]? = some (lrec .busy none fid T ps.toArray assign body D) := hs2.sat _ (List.mem_of_getElem? hj2)
      refine ⟨_, _, run_endRound (some (.exit id)) hl2, ?_⟩
      exact hk _ _ (by rw [hd]; exact f.put hn _) (hs2.obj_put hj2) Q hQ
    | goto _ => exact hq2.elim
    | panic _ => exact hq2.elim
    | outgrown => exact hq2.elim
  | exit id => exact hq.elim
  | ret => exact hq.elim
  | goto _ => exact hq.elim
  | panic _ => exact hq.elim
  | outgrown => exact hq.elim
/-- the end of a function with such a loop -/
theorem retQ_retM {fn : Func} {R : Value → World → Prop} {rs : List ResultVar} {vs : List Value} {v : Value} {D i : Nat} (hi : ms[i]? = some (.obj D (.deferred (some [])))) (hr : fn.results = rs.toArray) (h : Res P g (St w0 H0 (ms.eraseIdx i) H) rs vs) (hv : tupled vs = v) (hR : ∀ w, St w0 H0 (ms.eraseIdx i) H w → R v w) (hm : look g markKey = some (.int .i64 D) := by rfl) : retQ n fn P R .ret g (St w0 H0 ms H) :=
  ⟨tupled vs, St w0 H0 (ms.eraseIdx i) H, .inr ⟨D, hm, fun w s => ⟨s.sat _ (List.mem_of_getElem? hi), ((s.obj_put hi).less (by rw [List.set_eq_take_append_cons_drop, if_pos (List.getElem?_eq_some_iff.1 hi).1, List.eraseIdx_eq_take_drop_succ]; exact (List.Sublist.refl _).append (List.sublist_cons_self _ _)))⟩⟩, results_of hr h, by rw [hv]; exact hR⟩
end
section
variable {P : Program} {n : Nat} {o : Oper} {g : Frm} {S : Pred}
/-- all of an array -/
theorem ov_slice_arr {T E : TypeId} {x : Operand} {b m s : Nat} (hT : P.underlying T = some (.array m E)) (hs : ∀ w, (sizeOf E).run P w = .ok s w) (h : o.op = .slice T x none none none) (hx : ev g x = some (pB b 0)) (hm : Nat.blt 0 m = true) :
    OV P n o g S (.slice (some ⟨b, 0, none⟩) m m) := fun a w f _ => by
  have hm' : 0 < m := by simpa [Nat.blt_eq] using hm
  have hne : ¬ (m = 0) := by omega
  simp [execOp, h, f.eval hx, pB, Instr.sliceAt, run_underlying hT, Instr.slice, Instr.sliceBounds, hs, Instr.sureAddr, Addr.add]
theorem ov_indexAddr_at {T E : TypeId} {x y : Operand} {b k m s j : Nat} {kk : IntKind} {i : Int} (hT : P.underlying T = some (.array m E)) (hs : ∀ w, (sizeOf E).run P w = .ok s w) (h : o.op = .indexAddr T x y) (hx : ev g x = some (pB b k)) (hy : ev g y = some (.int kk i)) (hi : i = (j : Int)) (h1 : Nat.blt j m = true) :
    OV P n o g S (pB b (k + j * s)) := by
  subst hi
  have h1' : j < m := by simpa [Nat.blt_eq] using h1
  simpa using ov_indexAddr_arr (i := (j : Int)) hT hs h hx hy (by omega) (by omega)
theorem ov_indexAddr_bsl {T E : TypeId} {x y : Operand} {b k m c s j : Nat} {kk : IntKind} {i : Int} (hT : P.underlying T = some (.slice E)) (hs : ∀ w, (sizeOf E).run P w = .ok s w) (h : o.op = .indexAddr T x y) (hx : ev g x = some (.slice (some ⟨b, k, none⟩) m c)) (hy : ev g y = some (.int kk i)) (hi : i = (j : Int)) (h1 : Nat.blt j m = true) :
    OV P n o g S (pB b (k + j * s)) := by
  subst hi
  have h1' : j < m := by simpa [Nat.blt_eq] using h1
  have := ov_indexAddr (S := S) (P := P) (n := n) (i := (j : Int)) hT hs h hx hy (by omega) (by omega) ⟨_, rfl⟩
  have e : (if j * s = 0 then (⟨b, k, none⟩ : Addr) else ⟨b, k + j * s, none⟩) = ⟨b, k + j * s, none⟩ := by
    split
    · rename_i h0; rw [h0]; rfl
    · rfl
  simpa [pE, pB, Addr.add, e] using this
end
section
variable {P : Program} {n : Nat} {o : Oper} {g : Frm} {w0 : World} {ms : List Ent} {H0 H : Heap}
end
end Go.Proofs.YtcgmhlakihjbkaaGreatDoor.W
