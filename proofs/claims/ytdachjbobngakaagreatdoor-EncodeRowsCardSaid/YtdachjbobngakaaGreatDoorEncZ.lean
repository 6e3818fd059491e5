/-
  The law's contract at every world that holds the tables. Conditions: the arguments read as data, the table of kinds is laid.
-/
import Derived.Test.YtdachjbobngakaaGreatDoorAbsD
import Derived.WalkKit
import Derived.ProofKit
import Derived.OpenShut
import Derived.Deep.DeepHandedRow
import Derived.Lib.LaidTab
import Derived.WideKeyArgs
import Derived.Test.YtdachjbobngakaaGreatDoorCards
import Derived.Test.YtdachjbobngakaaGreatDoorTie
import Derived.Deep.DeepWitnessRowRef
import Derived.Lay
import Derived.Test.YtdachjbobngakaaGreatDoorEncN
namespace Go.Abs
open Go Go.ChangeShapes Go.WideShapes Go.ChangeAt Go.RowKit
/-! From a claim over abstract values to a row's: all memory that is there is sealed. -/
def full (w : World) : Seal := fun b => match w.heap[b]? with
  | some (.cells c _ _) => some c.toList
  | _ => none
theorem full_some {w : World} {b : Nat} {c : Array Value} {E : TypeId} {fr : Nat × Nat} (h : w.heap[b]? = some (.cells c E fr)) : full w b = some c.toList := by simp [full, h]
theorem full_inv {w : World} {b : Nat} {p : List Value} (h : full w b = some p) : ∃ c E fr, w.heap[b]? = some (.cells c E fr) ∧ p = c.toList := by
  unfold full at h
  split at h
  · rename_i c E fr hh; cases h; exact ⟨c, E, fr, hh, rfl⟩
  · cases h
theorem full_cell {w : World} {b off : Nat} {v : Value} (h : w.cell? ⟨b, off, none⟩ = some v) : ∃ c E fr, w.heap[b]? = some (.cells c E fr) ∧ c.toList[off]? = some v := by
  simp only [World.cell?, Option.isSome_none, Bool.false_eq_true, if_false] at h
  split at h
  · rename_i c E fr hh
    exact ⟨c, E, fr, hh, by simpa using h⟩
  · cases h
/-- A law that is true at these values, called. -/
theorem AFn.law {C : Cx} {f : FuncId} {vs : List V} (h : AFn C f vs (.bool true)) {W : World} {args : Array Value} (hG : ∀ n cs, C.glob n = some cs → ∃ p, full W n = some p ∧ ∀ g, VRs (full W) g cs p)
    (hv : VRl (full W) (fun _ => none) vs args.toList) :
    Calls C.P f args W fun e w' => e = .returned (.bool true) ∧ (∀ b, b < W.heap.size → w'.heap[b]? = W.heap[b]?) ∧ W.heap.size ≤ w'.heap.size ∧ w'.os = W.os ∧ w'.output = W.output := by
  have hGood : Good C (full W) W := ⟨fun b p hp => let ⟨c, E, fr, h1, h2⟩ := full_inv hp; ⟨c, E, fr, h1, by rw [h2]; exact List.prefix_rfl⟩, hG⟩
  have := h (full W) (fun _ => none) W args.toList hGood hv ⟨fun i o hi => by simp [lk] at hi, fun i j oi oj b hi => by simp [lk] at hi⟩ (fun _ h => h.elim)
  rw [Array.toArray_toList] at this
  refine this.mono ?_
  rintro e w' ⟨v, rfl, r, h', S', g', ⟨rfl, rfl⟩, a2, a3, a4, a5, _⟩
  refine ⟨by rw [show v = _ from a2], fun b hb => (a5.old b hb (by rintro ⟨i, o, hx, _⟩; simp [lk] at hx)).1, a5.size, a5.kept⟩
theorem sameAt_of {W w' : World} (h : ∀ b, b < W.heap.size → w'.heap[b]? = W.heap[b]?) (p : MemPlace) (hp : p.block < W.heap.size) : W.sameAt w' p := by
  cases p with
  | cell b off => simp only [World.sameAt, World.cell?, MemPlace.block] at *; rw [h b hp]
  | map b => simp only [World.sameAt, MemPlace.block] at *; exact h b hp
theorem post_law {H : Type} {enc : TypeId × Value → H} {P : Program} {f : Func} {s : ChangeSpec} {apart fresh handsOn : Bool} {W W' : World} {args : Array Value} {ds gs : List (DataW H)} {before : List MemPlace}
    (hl : laidOutB P = true) (hr : f.params.toList.all (fun t => P.readableRec t && decide (t < P.types.size)) = true) (hvars : s.vars = []) {tb : TypeId} (hres : f.resultTypes.toList = [tb]) (htb : P.underlying tb = some .bool)
    (hW : DataW.Whole enc P f.params.toList s.vars apart W args.toList ds gs before)
    (hfn : (s.fn H (ds ++ gs)).results = [.lit (.bool true)] ∧ (s.fn H (ds ++ gs)).args = ds ∧ (s.fn H (ds ++ gs)).vars = [])
    (hsame : ∀ b, b < W.heap.size → W'.heap[b]? = W.heap[b]?) (hos : W'.os = W.os) (hout : W'.output = W.output) :
    s.post enc P f apart fresh handsOn false W args (.bool true) W' := by
  have hW0 := hW
  obtain ⟨p, q, hA, hV, rfl, hfz, hnd⟩ := hW
  rw [hvars] at hV
  obtain ⟨rfl, rfl⟩ := trodVars_none hV
  have hlt : ∀ x ∈ p, x.block < W.heap.size := fun x hx => hW0.lt x (by simpa using hx)
  have hstay : ∀ (ts : List TypeId) (vs : List Value) (es : List (DataW H)) (r : List MemPlace), ts.all (fun t => P.readableRec t && decide (t < P.types.size)) = true → DataW.TrodAll enc P W 0 (fun _ => true) true ts vs es r → (∀ x ∈ r, x.block < W.heap.size) →
      DataW.TrodAll enc P W' 0 (fun b => decide (b < W.heap.size)) true ts vs es r := by
    intro ts
    induction ts with
    | nil => intro vs es r _ h _; obtain ⟨rfl, rfl, rfl⟩ := trodAll_nil h; exact trodAll_mk0
    | cons t ts ih =>
      intro vs es r hall h hb
      simp only [List.all_cons, Bool.and_eq_true, decide_eq_true_eq] at hall
      obtain ⟨v, vs', d, ds', p1, q1, rfl, rfl, rfl, h1, h2⟩ := trodAll_cons h
      refine trodAll_cons_mk (WideElems.Trod_stays hl hall.1.1 hall.1.2 h1 (fun x hx => sameAt_of hsame x (hb x (by simp [hx]))) (fun x hx => by simpa using hb x (by simp [hx]))) (ih _ _ _ hall.2 h2 fun x hx => hb x (by simp [hx]))
  refine ⟨ds, [], p ++ [], [], p, [], hW0, ?_, ?_, ?_, ⟨hos, hout, fun i hi => ?_⟩, fun h => by cases h⟩
  · rw [hfn.1, hres]
    have : (Value.bool true).resultList f.resultTypes.size = [.bool true] := by
      have : f.resultTypes.size = 1 := by rw [← Array.length_toList, hres]; rfl
      rw [this]; rfl
    rw [this]
    exact trodAll_cons_mk (shut_bool htb true) trodAll_mk0
  · rw [hfn.2.1]
    exact hstay _ _ _ _ hr hA hlt
  · rw [hvars, hfn.2.2]; rfl
  · rw [hsame i hi]
    cases hh : W.heap[i]? with
    | none => rfl
    | some o => cases o <;> simp
/-- A table of texts, as it is laid. -/
theorem strs_of_laid {P : Program} {w : World} {base : Nat} {sp : Nat → Bool} {held : Bool} {fuel : Nat} {H : Type} {enc : TypeId × Value → H} {t e : TypeId} {n : Nat} {cs : List Value} {ls : List (List UInt8)} {p : List MemPlace}
    (ht : P.underlying t = some (.array n e)) (he : P.underlying e = some .string) (hce : P.cellsOf e = 1) (hct : P.cellsOf t = n)
    (h : DataW.trod enc P w base sp held fuel t cs = some (.agg (ls.map fun l => .lit (.string l)), p)) : cs = ls.map fun l => Value.string ⟨l.toArray⟩ := by
  cases fuel with
  | zero => simp [DataW.trod] at h
  | succ fuel =>
    simp only [DataW.trod, ht, hce, hct, Nat.mul_one] at h
    split at h
    · rename_i hl
      obtain ⟨xs, hm, hx⟩ := Option.map_eq_some_iff.1 h
      have hxs : xs.map (·.1) = ls.map fun l => (DataW.lit (.string l) : DataW H) := by
        have := congrArg Prod.fst hx
        simpa using this
      have hxl : xs.length = n := by simpa using Lib.mapM_length hm
      have hzl : ls.length = n := by
        have := congrArg List.length hxs
        simp at this
        omega
      apply List.ext_getElem?
      intro i
      by_cases hi : i < n
      · obtain ⟨b, hb, hf⟩ := Lib.mapM_at hm i i (by simp [hi])
        obtain ⟨s, hc, rfl, _⟩ := DataW.trod_string he hf
        have h1 : cs[i]? = some (.string s) := by
          have := congrArg (·[0]?) hc
          simpa [List.getElem?_take, List.getElem?_drop] using this
        have h2 : (xs.map (·.1))[i]? = some (DataW.lit (.string s.data.toList) : DataW H) := by simp [hb]
        rw [hxs] at h2
        simp only [List.getElem?_map, Option.map_eq_some_iff, DataW.lit.injEq, Lit.string.injEq] at h2
        obtain ⟨l, hl', hs⟩ := h2
        simp only [h1, List.getElem?_map, hl', Option.map_some, hs]
      · rw [List.getElem?_eq_none (by omega), List.getElem?_eq_none (by simp; omega)]
    · cases h
theorem VRs_strs (S : Seal) (g : Locs) : ∀ ls : List (List UInt8), VRs S g (ls.map V.str) (ls.map fun l => Value.string ⟨l.toArray⟩)
  | [] => trivial
  | _l :: ls => ⟨_, _, rfl, rfl, VRs_strs S g ls⟩
/-- A slice of numbers that came in. -/
theorem VR_u64s {P : Program} {W : World} {H : Type} {enc : TypeId × Value → H} {t e : TypeId} {v : Value} {d : DataW H} {ps : List MemPlace} (ht : P.underlying t = some (.slice e)) (he : P.underlying e = some (.int .u64)) (hc : P.cellsOf e = 1)
    (hf : ∃ x, v.cells.toList = [x] ∧ v = x) (h : DataW.Trod enc P W 0 (fun _ => true) true t v d ps) (g : Locs) :
    ∃ l : List Nat, (∀ n ∈ l, n < 18446744073709551616) ∧ VR (full W) g (.sl none 1 (l.map encU)) v := by
  obtain ⟨fuel, hfu⟩ := h
  obtain ⟨x, hx, rfl⟩ := hf
  rcases open_ints ht he hc hfu with ⟨hcs, _⟩ | ⟨a, len, cap, zs, hcs, _, hlen, hcap, hzl, _, hcell, hwf⟩
  · rw [hx] at hcs
    simp only [List.cons.injEq, and_true] at hcs
    subst hcs
    exact ⟨[], by simp, none, 0, 0, rfl, rfl, Nat.le_refl _, .inl rfl, fun n hn => by cases hn⟩
  · rw [hx] at hcs
    simp only [List.cons.injEq, and_true] at hcs
    subst hcs
    simp only [if_true] at hzl
    have hnn : ∀ z ∈ zs, 0 ≤ z ∧ z < 18446744073709551616 := fun z hz => by
      have := hwf z hz
      simp [Lit.wf, IntKind.min, IntKind.max, IntKind.signed, IntKind.bits] at this
      omega
    refine ⟨(zs.take len).map Int.toNat, fun n hn => ?_, some a, len, cap, rfl, by simp; omega, hlen, ?_, fun n hn => by cases hn⟩
    · simp only [List.mem_map] at hn
      obtain ⟨z, hz, rfl⟩ := hn
      have := hnn z (List.mem_of_mem_take hz)
      omega
    · by_cases h0 : len = 0
      · left; simp [h0]
      · right
        have hc0 := hcell 0 (by omega)
        obtain ⟨b, off, row⟩ := a
        have hrow : row = none := by
          cases row with
          | none => rfl
          | some r =>
            simp only [World.cell?, Addr.add] at hc0
            split at hc0 <;> simp at hc0
        subst hrow
        have hadd : ∀ i, (⟨b, off, none⟩ : Addr).add i = ⟨b, off + i, none⟩ := fun i => addr_add0 b off i
        rw [hadd] at hc0
        obtain ⟨c, E, fr, hh, _⟩ := full_cell hc0
        refine ⟨b, off, c.toList, rfl, full_some hh, ?_⟩
        have key : ∀ (m j : Nat), j + m ≤ len → VRe (full W) 1 (((zs.drop j).take m).map fun z => encU z.toNat) (c.toList.drop (off + j)) := by
          intro m
          induction m with
          | zero => intro j _; simp [VRe]
          | succ m ih =>
            intro j hj
            have hjl : j < zs.length := by omega
            have hcj := hcell j hjl
            rw [hadd] at hcj
            obtain ⟨c', E', fr', hh', hcc⟩ := full_cell hcj
            rw [hh] at hh'
            cases hh'
            have hd : zs.drop j = zs[j] :: zs.drop (j + 1) := List.drop_eq_getElem_cons hjl
            have hlt : off + j < c.toList.length := (List.getElem?_eq_some_iff.1 hcc).1
            have hd2 : c.toList.drop (off + j) = c.toList[off + j] :: c.toList.drop (off + j + 1) := List.drop_eq_getElem_cons hlt
            have hv : c.toList[off + j] = .int .u64 zs[j] := by
              have h1 := (List.getElem?_eq_some_iff.1 hcc).2
              rw [h1, List.getD_eq_getElem?_getD, List.getElem?_eq_getElem hjl]; rfl
            rw [hd, hd2, hv]
            simp only [List.take_succ_cons, List.map_cons, VRe]
            refine ⟨.int .u64 zs[j], _, rfl, rfl, fun g => ?_, by simpa [Nat.add_assoc] using ih (j + 1) (by omega)⟩
            have := hnn zs[j] (List.getElem_mem hjl)
            show Value.int .u64 zs[j] = .int .u64 ((zs[j].toNat : Nat) : Int)
            rw [Int.toNat_of_nonneg this.1]
        simpa [List.map_map, Function.comp_def] using key len 0 (by omega)
end Go.Abs

namespace Go.Proofs.YtdachjbobngakaaGreatDoor.encodeRows
open Go Go.Abs Go.ChangeShapes Go.WideShapes Go.ChangeAt Go.RowKit
theorem own : ownKnob Tryz.prog.godebug = none := by kernel_rfl
theorem gNames : Tryz.prog.globalNamed "redline/kinds.names" = some 21 := by kernel_rfl
theorem gNamesT : (Tryz.prog.globals[21]?).map (·.type) = some 416 := by kernel_rfl
theorem cells416 : Tryz.prog.cellsOf 416 = 18 := by kernel_rfl
theorem cells9 : Tryz.prog.cellsOf 9 = 1 := by kernel_rfl
theorem cells55 : Tryz.prog.cellsOf 55 = 1 := by kernel_rfl
theorem laidOut : laidOutB Tryz.prog = true := by kernel_rfl
theorem readable : Tryz.f5.params.toList.all (fun t => Tryz.prog.readableRec t && decide (t < Tryz.prog.types.size)) = true := by kernel_rfl
theorem results5 : Tryz.f5.resultTypes.toList = [4] := by kernel_rfl
def names0 : List (List UInt8) := namesV.map fun | .str l => l | _ => []
theorem names_ok : names0.map V.str = namesV := by rfl
theorem laid_names : (Rows.laid_redline_kinds_names : DataW Unit) = .agg (names0.map fun l => .lit (.string l)) := by rfl
/-- The table of the kinds' names, as it is laid. -/
theorem names_cells {W : World} (h : laidMetH Tryz.prog Rows.encodeRowsRow.laid W) : ∃ c E fr, W.heap[21]? = some (.cells c E fr) ∧ c.toList = names0.map fun l => Value.string ⟨l.toArray⟩ := by
  have h1 := h.filter (fun x => x.1 == "redline/kinds.names")
  have e : Rows.encodeRowsRow.laid.filter (fun x => x.1 == "redline/kinds.names") = [("redline/kinds.names", Rows.laid_redline_kinds_names)] := by rfl
  rw [e] at h1
  have h2 : laidMet Tryz.prog [("redline/kinds.names", Rows.laid_redline_kinds_names)] W := h1
  obtain ⟨ps, ⟨g', t', cs, fuel, p, q, hg', ht', hvar, hd, _, _⟩, _⟩ := h2
  obtain rfl := Option.some.inj (gNames.symm.trans hg')
  obtain rfl := Option.some.inj (gNamesT.symm.trans ht')
  rw [laid_names] at hd
  have hc := strs_of_laid Tryz.underlying416 Tryz.underlying9 cells9 cells416 hd
  simp only [World.var?, gNames, Option.bind_some] at hvar
  split at hvar
  · rename_i c E fr hh
    cases hvar
    exact ⟨cs, E, fr, hh, hc⟩
  · cases hvar

set_option maxRecDepth 100000 in
/-- WHAT THE WALK GIVES, FOR EVERY ARGUMENT AND EVERY WORLD THAT HOLDS THE TABLES. -/
theorem contract (H : Type) (enc : TypeId × Value → H) (W : World) (base : Nat) (args : Array Value) (ds gs : List (DataW H)) (before : List MemPlace)
    (hval : ∀ (j : Nat) t v, Tryz.f5.params[j]? = some t → args[j]? = some v → Value.okWide Tryz.prog W .any base t v)
    (hW : DataW.Whole enc Tryz.prog Tryz.f5.params.toList Rows.encodeRowsSpec.vars false W args.toList ds gs before) (hL : laidMetH Tryz.prog Rows.encodeRowsRow.laid W) :
    Calls Tryz.prog 5 args W fun e W' => ∃ v, e = .returned v ∧ Rows.encodeRowsSpec.post enc Tryz.prog Tryz.f5 false true false false W args v W' := by
  have hW' := hW
  obtain ⟨p, q, hA0, hV, rfl, hfz, hnd⟩ := hW
  have hA : DataW.TrodAll enc Tryz.prog W 0 (fun _ => true) true Tryz.f5.params.toList args.toList ds p := hA0
  rw [Tryz.params5] at hA hval
  obtain ⟨v0, vs0, d0, ds0, p0, q0, hargs, rfl, rfl, h0, r0⟩ := trodAll_cons hA
  obtain ⟨v1, vs1, d1, ds1, p1, q1, rfl, rfl, rfl, h1, r1⟩ := trodAll_cons r0
  obtain ⟨rfl, rfl, rfl⟩ := trodAll_nil r1
  obtain rfl : args = #[v0, v1] := by cases args; simp_all
  obtain ⟨rfl, rfl⟩ := trodVars_none hV
  obtain ⟨k, rfl, rfl, rfl, _⟩ := open_int Tryz.underlying3 (hval 0 3 v0 rfl rfl) h0
  have hv1 := hval 1 54 v1 rfl rfl
  have hone : ∃ x, v1.cells.toList = [x] ∧ v1 = x := by
    obtain ⟨fuel, hfu⟩ := h1
    rcases okWide_slice Tryz.underlying54 hv1 with ⟨a, l, c, rfl⟩
    exact ⟨_, rfl, rfl⟩
  obtain ⟨l, hl, hr⟩ := VR_u64s Tryz.underlying54 Tryz.underlying55 cells55 hone h1 (fun _ => none)
  obtain ⟨c, E, fr, hh, hc⟩ := names_cells hL
  refine ((w5 (k := k) hl).law (W := W) (args := #[.int .i64 k, v1]) ?_ ?_).mono fun e W' ⟨he, hsame, _, hos, hout⟩ => ?_
  · intro n cs hn
    simp only [CE, globE] at hn
    split at hn
    · rename_i hn21
      subst hn21
      cases hn
      refine ⟨_, full_some hh, fun g => ?_⟩
      rw [hc, ← names_ok]
      exact VRs_strs _ _ _
    · cases hn
  · exact .cons rfl (.cons hr .nil)
  · subst he
    exact ⟨_, rfl, post_law laidOut readable rfl results5 Tryz.underlying4 hW' ⟨rfl, rfl, rfl⟩ hsame hos hout⟩
end Go.Proofs.YtdachjbobngakaaGreatDoor.encodeRows

