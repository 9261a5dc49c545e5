/- Our own calculus, seventh part: what a law's arguments read as, and that they read so behind the call. A general text: it names no program. -/
import Derived.Test.YtgpfgnpdbmbknaaGreatDoorLibF
import Derived.Carry
import Derived.ChangeArms
import Derived.ProofKit
import Derived.OpenShut
import Derived.Deep.DeepHandedRow
import Derived.Lay
import Derived.LaidMore
import Derived.MakeChecks
import Derived.Stop.Joined
import Derived.Stop.LaidErr
import Derived.SevenTiedAt
import Derived.Lib.LaidTab
import Derived.Lib.ItoaNum
import Derived.Lib.IndexMore
set_option linter.unusedVariables false
set_option linter.unusedSimpArgs false
namespace Go.Proofs.YtgpfgnpdbmbknaaGreatDoor.W
open Go Go.RowKit Go.ChangeShapes Go.WideShapes
section
variable {H : Type} {enc : TypeId × Value → H} {P : Program} {W : World}
/-- Whatever reads at this type is shown by these cells. -/
def Reads (enc : TypeId × Value → H) (P : Program) (W : World) (t : TypeId) {α : Type} (E : Enc α) (good : α → Prop) : Prop :=
 ∀ fuel cs x, DataW.trod enc P W 0 (fun _ => true) true fuel t cs = some x → ∃ a, E.rep (hp W) a cs ∧ good a
theorem reads_str {t : TypeId} (ht : P.underlying t = some .string) : Reads enc P W t encStr (fun s => s.length ≤ maxLen) := fun fuel cs x h => by
 obtain ⟨s, e, _, hl⟩ := DataW.trod_string ht h
 have hz : s.data.toList.length = s.size := by rw [Array.length_toList]; rfl
 refine ⟨s.data.toList, ?_, by show s.data.toList.length ≤ maxLen; rw [hz]; exact hl⟩
 rw [e]
 rfl
theorem trodAll_stays (hl : laidOutB P = true) {W' : World} {sp : Nat → Bool} (hb : Below W.heap.size W W') : ∀ {ts : List TypeId} {vs : List Value} {ds : List (DataW H)} {ps : List MemPlace}, (∀ t ∈ ts, P.readableRec t = true ∧ t < P.types.size) →
 DataW.TrodAll enc P W 0 (fun _ => true) true ts vs ds ps → (∀ p ∈ ps, p.block < W.heap.size) → (∀ p ∈ ps, sp p.block = true) → DataW.TrodAll enc P W' 0 sp true ts vs ds ps
 | [], [], [], _, _, h, _, _ => h
 | [], [], _ :: _, _, _, h, _, _ => h.elim
 | [], _ :: _, _, _, _, h, _, _ => h.elim
 | _ :: _, [], _, _, _, h, _, _ => h.elim
 | _ :: _, _ :: _, [], _, _, h, _, _ => h.elim
 | t :: ts, v :: vs, d :: ds, ps, hts, h, hlt, hsp => by
  obtain ⟨p, q, h1, h2, rfl⟩ := h
  have ht := hts t (List.mem_cons_self ..)
  exact ⟨p, q, WideElems.Trod_stays hl ht.1 ht.2 h1 (fun x hx => hb.same (hlt x (List.mem_append.2 (.inl hx)))) (fun x hx => hsp x (List.mem_append.2 (.inl hx))),
   trodAll_stays hl hb (fun t ht => hts t (List.mem_cons_of_mem _ ht)) h2 (fun x hx => hlt x (List.mem_append.2 (.inr hx))) (fun x hx => hsp x (List.mem_append.2 (.inr hx))), rfl⟩
/-- The law's end: it returns true, and what was there stands as it stood. -/
theorem post_true {f : Func} {s : ChangeSpec} {apart fresh handsOn again : Bool} {W' : World} {args : Array Value} {ds gs : List (DataW H)} {before : List MemPlace} {tb : TypeId} (hl : laidOutB P = true) (hts : ∀ t ∈ f.params.toList, P.readableRec t = true ∧ t < P.types.size)
 (hT : P.underlying tb = some .bool) (hres : f.resultTypes = #[tb]) (hv : s.vars = []) (hs : (s.fn H ds).results = [.lit (.bool true)] ∧ (s.fn H ds).args = ds ∧ (s.fn H ds).vars = [])
 (hW : DataW.Whole enc P f.params.toList s.vars apart W args.toList ds gs before) (hb : Below W.heap.size W W') : s.post enc P f apart fresh handsOn again W args (.bool true) W' := by
 have hW0 := hW
 have hlt : ∀ p ∈ before, p.block < W.heap.size := fun p hp => hW.lt p hp
 obtain ⟨p, q, hA, hV, e, hfz, hnd⟩ := hW
 rw [hv] at hV
 obtain ⟨rfl, rfl⟩ := trodVars_none hV
 rw [List.append_nil] at e
 subst e
 have hR : ∀ (b : Nat) (sp : Nat → Bool) (hd : Bool), DataW.TrodAll enc P W' b sp hd f.resultTypes.toList ((Value.bool true).resultList f.resultTypes.size) (s.fn H (ds ++ [])).results [] := fun b sp hd => by
  rw [List.append_nil, hs.1, hres]
  exact trodAll_cons_mk (shut_bool hT true) trodAll_mk0
 have hAg : ∀ sp : Nat → Bool, (∀ p ∈ before, sp p.block = true) → DataW.TrodAll enc P W' 0 sp true f.params.toList args.toList (s.fn H (ds ++ [])).args before := fun sp hsp => by
  rw [List.append_nil, hs.2.1]
  exact trodAll_stays hl hb hts hA hlt hsp
 have hVg : ∀ sp : Nat → Bool, DataW.TrodVars enc P W' sp s.vars (s.fn H (ds ++ [])).vars [] := fun sp => by
  rw [List.append_nil, hs.2.2, hv]
  rfl
 have hold : ∀ p ∈ before, (fun b => decide (b < W.heap.size)) p.block = true := fun p hp => by simpa using hlt p hp
 refine ⟨ds, [], before, [], before, [], hW0, hR _ _ _, hAg _ hold, hVg _, World.keptBut_mono (fun p hp => ⟨hp, .inr (.inl (by simpa using hp))⟩) (hb.frame (· ∈ before)), fun _ => ?_⟩
 refine ⟨ok_one hres rfl (okWide_bool_mk hT true), _, _, ([] ++ before) ++ [], ⟨[] ++ before, [], trodAll_append (hAg _ (fun _ _ => rfl)) (hR _ _ _), hVg _, rfl, ?_, ?_⟩, ?_⟩
 · intro b off hp
   have hp' : MemPlace.cell b off ∈ before := by simpa using hp
   rw [hb.frozen (p := ⟨b, off, none⟩) (hlt _ hp')]
   exact hfz b off hp'
 · intro ha
   have := hnd ha
   simpa using this
 · intro p hp _
   simpa using hp
/-! ### how long what is read may be -/
/-- a table of rows of numbers -/
def Tab2 (W : World) (g m : Nat) (k : IntKind) (rows : List (List Int)) : Prop := ∀ (i : Nat) (r : List Int), rows[i]? = some r → ∀ (j : Nat) (z : Int), r[j]? = some z → W.cell? ⟨g, i * m + j, none⟩ = some (.int k z)
theorem tab2_of_head {P : Program} {W : World} {name : String} {k : IntKind} {rows : List (List Int)} {rest : List (String × DataW Unit)} {g : Nat} {t e f : TypeId} {n m : Nat}
 (hg : P.globalNamed name = some g) (hty : (P.globals[g]?).map (·.type) = some t) (ht : P.underlying t = some (.array n e)) (he : P.underlying e = some (.array m f)) (hf : P.underlying f = some (.int k)) (hcf : P.cellsOf f = 1) (hce : P.cellsOf e = m)
 (h : laidMet P ((name, .agg (rows.map (Lib.tabData k))) :: rest) W) : Tab2 W g m k rows := by
 obtain ⟨ps, ⟨g', t', cs, fuel, p, q, hg', ht', hvar, hd, _, _⟩, _⟩ := h
 obtain rfl := Option.some.inj (hg.symm.trans hg')
 obtain rfl := Option.some.inj (hty.symm.trans ht')
 obtain ⟨xs, n', _, hx, h1, h2, h3⟩ := DataW.trod_array ht hd
 have hxs : xs.map (·.1) = rows.map (Lib.tabData k) := by
  have := congrArg Prod.fst hx
  simpa using this.symm
 intro i r hr j z hz
 have hi : i < n := by
  have h4 := congrArg List.length hxs
  simp only [List.length_map] at h4
  have := (List.getElem?_eq_some_iff.1 hr).1
  omega
 have h5 := h3 i hi
 rw [List.getElem?_eq_getElem (by omega)] at h5
 have h6 : (xs[i]'(by omega)).1 = Lib.tabData k r := by
  have h7 := congrArg (fun l => l[i]?) hxs
  simp only [List.getElem?_map, hr, Option.map_some] at h7
  rw [List.getElem?_eq_getElem (by omega)] at h7
  simpa using h7
 have h8 := Lib.cells_of_tab (zs := r) (p := (xs[i]'(by omega)).2) he hf hcf hce (h5.trans (by rw [← h6]))
 rw [hce] at h8
 have h9 : cs[i * m + j]? = some (.int k z) := by
  have h10 := congrArg (fun l => l[j]?) h8
  simp only [List.getElem?_map, hz, Option.map_some] at h10
  rw [List.getElem?_take] at h10
  split at h10
  · rw [List.getElem?_drop] at h10
    simpa using h10
  · cases h10
 have := World.var?_cell hg hvar (i * m + j)
 rw [this]
 simpa using h9
/-- an argument, by the cells that it is -/
theorem cell_one {v c : Value} (hn : ∀ cs, v ≠ .agg cs) (h : v.cells.toList = [c]) : v = c := by
 cases v with
 | agg cs => exact absurd rfl (hn cs)
 | _ => simpa [Value.cells] using h
section
variable {w : World} {r : Reach} {b : Nat} {t : TypeId} {v : Value}
theorem na_str (ht : P.underlying t = some .string) (h : Value.okWide P w r b t v) : ∀ cs, v ≠ .agg cs := fun cs e => by
 subst e
 simp [Value.okWide, ht, Cell.okWide, Cell.ok] at h
end
/-- that some start fits -/
theorem witness_laid {C : Checked} {os : Os} {f : FuncId} {fn : Func} {s : OpenSpec} {conds : List PathCond} {apart : Bool} {laid : List (String × DataW Unit)} (w0 : World) (args : Array Value) (hos : w0.os = os)
 (hsh : (w0.forCall (fun _ _ => 0) ⟨#[], args, []⟩).Shaped C.prog) (hok : Input.okWideB C.prog (w0.forCall (fun _ _ => 0) ⟨#[], args, []⟩) f ⟨#[], args, []⟩ = true)
 (hrow : s.preRow enc C.prog fn conds apart laid (w0.forCall (fun _ _ => 0) ⟨#[], args, []⟩).memory args) :
 ∃ (w : World) (tape : Tape) (i : Input), w.os = os ∧ (w.forCall tape i).Shaped C.prog ∧ i.vars = [] ∧ Input.okWide C.prog (w.forCall tape i) .any w.heap.size f i ∧
  s.preRow enc C.prog fn conds apart laid (w.forCall tape i).memory i.args ∧ ({} : Assume).holds C.prog (lone (Frame.enter C.prog f i.args .normal) [] (w.forCall tape i)) :=
 ⟨w0, fun _ _ => 0, ⟨#[], args, []⟩, hos, hsh, (Input.okWide_of_okWideB (base := 0) hok).1, (Input.okWide_of_okWideB hok).2, hrow, by
  simp only [Assume.holds]
  exact ⟨by simp, by simp, fun h => (by cases h), by simp, by simp⟩⟩
end
end Go.Proofs.YtgpfgnpdbmbknaaGreatDoor.W
set_option linter.unusedVariables false
set_option linter.unusedSimpArgs false
namespace Go.Proofs.YtgpfgnpdbmbknaaGreatDoor.W
open Go
theorem snoc_ind {α : Type} {p : List α → Prop} (h0 : p []) (h1 : ∀ t b, p t → p (t ++ [b])) : ∀ s, p s := fun s => by
 have : ∀ r : List α, p r.reverse := fun r => by
  induction r with
  | nil => exact h0
  | cons b r ih => rw [List.reverse_cons]; exact h1 _ _ ih
 have h := this s.reverse
 rwa [List.reverse_reverse] at h
def isD (b : UInt8) : Bool := decide (48 ≤ b.toNat) && decide (b.toNat ≤ 57)
theorem isD_iff {b : UInt8} : isD b = true ↔ 48 ≤ b.toNat ∧ b.toNat ≤ 57 := by simp [isD]
def dstep (a : Nat) (b : UInt8) : Nat := a * 10 + (b.toNat - 48)
def numV (s : List UInt8) : Nat := s.foldl dstep 0
theorem numV_snoc (s : List UInt8) (b : UInt8) : numV (s ++ [b]) = numV s * 10 + (b.toNat - 48) := by simp [numV, dstep]
/-- no zero ahead of other digits -/
def noLead (s : List UInt8) : Prop := s.length ≤ 1 ∨ s.head? ≠ some 48
theorem numV_lt : ∀ (s : List UInt8), (∀ b ∈ s, isD b = true) → numV s < 10 ^ s.length := by
 refine snoc_ind (fun _ => by simp [numV]) (fun t b ih => ?_)
 · intro h
   have h1 := ih (fun c hc => h c (List.mem_append_left _ hc))
   have h2 := isD_iff.1 (h b (by simp))
   rw [numV_snoc, List.length_append, List.length_singleton, Nat.pow_succ]
   omega
end Go.Proofs.YtgpfgnpdbmbknaaGreatDoor.W
