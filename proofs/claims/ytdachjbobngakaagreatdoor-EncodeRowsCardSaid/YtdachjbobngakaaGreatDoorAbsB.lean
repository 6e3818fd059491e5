/-
  Every operation that the compiler takes does what its effect says. No program. No conditions beyond those in the statements.
-/
import Derived.Test.YtdachjbobngakaaGreatDoorAbsA
namespace Go.Abs
open Go

def isNilConst : Nat → Operand → Bool
  | 0, .const .nilIface => true
  | 1, .const (.pointer none) => true
  | 2, .const .nilFunc => true
  | 3, .const (.slice none 0 0) => true
  | _, _ => false

def compBin (P : Program) (op : BinOp) (t : TypeId) (x y : Operand) : Option (AOp × List Operand) :=
  match P.underlying t with
  | some (.int _) => some (.bin op, [x, y])
  | some .string => some (.bin op, [x, y])
  | some .bool => if op = .eql then some (.beq false, [x, y]) else if op = .neq then some (.beq true, [x, y]) else none
  | some (.struct fs) =>
    if P.stoodInHeld t = false ∧ P.eqGuardType P.depth t = false ∧ (op = .eql ∨ op = .neq) then
      (flatFs P 0 fs.toList).map fun ks => (.seq (op = .neq) ks, [x, y])
    else none
  | some (.interface _) => if isNilConst 0 y = true ∧ (op = .eql ∨ op = .neq) then some (.nileq 0 (op = .neq), [x]) else none
  | some (.pointer _) => if isNilConst 1 y = true ∧ (op = .eql ∨ op = .neq) then some (.nileq 1 (op = .neq), [x]) else none
  | some (.func _ _ _) => if isNilConst 2 y = true ∧ (op = .eql ∨ op = .neq) then some (.nileq 2 (op = .neq), [x]) else none
  | some (.slice _) => if isNilConst 3 y = true ∧ (op = .eql ∨ op = .neq) then some (.nileq 3 (op = .neq), [x]) else none
  | _ => none

def isPtrD : Option TypeDesc → Bool
  | some (.func _ _ _) => true
  | some (.pointer _) => true
  | _ => false

def isIfaceD : TypeDesc → Bool
  | .interface _ => true
  | _ => false

/-- Boxes of these types are never written to. -/
def isFrozen (P : Program) (e : TypeId) : Bool :=
  match P.types[e]? with
  | some t => match t.desc with
    | .named n _ => n == "redline/lexer.Fault"
    | _ => false
  | none => false

def isStrD : Option TypeDesc → Bool
  | some .string => true
  | _ => false

/-- The search for a byte in a text, of which there is no Go text. -/
def isIbs (P : Program) (f : FuncId) : Bool :=
  match P.funcs[f]? with
  | some fn => fn.name == "internal/bytealg.IndexByteString" && fn.body.isNone && (Extern.findNext fn).isNone
  | none => false

def compOp (P : Program) : Op → Option (AOp × List Operand)
  | .move x => some (.mv, [x])
  | .assign x => some (.mv, [x])
  | .pick c a b => some (.pick, [c, a, b])
  | .alloc e => match P.info? e with
    | some i => match i.zero with
      | some z => some (.box, [.const z])
      | none => none
    | none => none
  | .box e x => if isFrozen P e = true then some (.boxs, [x]) else some (.box, [x])
  | .load t x => match P.info? t, P.underlying t with
    | some i, some d => if isAggD d = true ∨ i.size = 1 then some (.load i.size (isAggD d), [x]) else none
    | _, _ => none
  | .store t a x => match P.info? t with
    | some i => some (.store i.size, [a, x])
    | none => none
  | .nilCheck x => some (.nilck, [x])
  | .binOp op t x y _ => compBin P op t x y
  | .unOp op _ x => some (.un op, [x])
  | .convert s d x => match P.underlying s, P.underlying d with
    | some (.int _), some (.int k) => some (.conv k, [x])
    | some .string, some .string => some (.cstr, [x])
    | some .string, some (.slice e) => match P.underlying e with
      | some (.int .u8) => some (.s2b, [x])
      | _ => none
    | some (.slice e), some .string => match P.underlying e with
      | some (.int .u8) => some (.b2s, [x])
      | _ => none
    | _, _ => none
  | .makeInterface t x => match P.underlying t with
    | some d => if isIfaceD d then none else some (.mkif t, [x])
    | none => none
  | .makeFunc f fs cs => some (.mkfn f fs.size, fs.toList ++ cs.toList)
  | .slice t x lo hi none => match P.underlying t with
    | some .string => if lo.isSome ∨ hi.isSome then some (.sstr lo.isSome hi.isSome, x :: (lo.toList ++ hi.toList)) else none
    | some (.array n e) => match P.info? e with
      | some i => if i.size = 1 then some (.sarr n, [x, lo.getD (.const (.int .i64 0)), hi.getD (.const (.int .i64 n))]) else none
      | none => none
    | some (.slice e) => match P.info? e with
      | some i => if lo.isSome ∨ hi.isSome then some (.ssl i.size lo.isSome hi.isSome, x :: (lo.toList ++ hi.toList)) else none
      | none => none
    | _ => none
  | .fieldAddr st x f => match P.underlying st with
    | some (.struct fs) => match fs[f]? with
      | some fd => match P.info? fd.type with
        | some i => if i.size = 0 then none else some (.faddr fd.offset, [x])
        | none => none
      | none => none
    | _ => none
  | .field st x f => match P.underlying st with
    | some (.struct fs) => match fs[f]? with
      | some fd => match P.info? fd.type, P.underlying fd.type with
        | some i, some d => if isAggD d = true ∨ i.size = 1 then some (.fld fd.offset i.size (isAggD d), [x]) else none
        | _, _ => none
      | none => none
    | _ => none
  | .indexAddr t x i => match P.underlying t with
    | some (.slice e) => (P.info? e).map fun j => (.idxa j.size, [x, i])
    | some (.array n e) => (P.info? e).map fun j => (.idxarr n j.size, [x, i])
    | _ => none
  | .index t x i => match P.underlying t with
    | some .string => some (.idxs, [x, i])
    | _ => none
  | .extract x i => some (.ext i, [x])
  | .build t ps => match P.info? t, P.underlying t with
    | some it, some (.struct fs) => match it.zero, fs.toList.mapM (fun f => (P.info? f.type).map fun i => (f.offset, i.size)) with
      | some (.agg z), some places => match cSs z.toList, ps.toList.mapM (fun p => places[p.1]?) with
        | some zs, some qs => some (.bld zs qs, ps.toList.map (·.2))
        | _, _ => none
      | _, _ => none
    | _, _ => none
  | .buildSlice t n ps => match P.underlying t with
    | some (.slice e) => match P.info? e with
      | some i => if isPtrD (P.underlying e) = true then
          match i.zero with
          | some z => match cS z with
            | some zv => if ps.toList.map (·.1) = List.range' 0 n ∧ n ≤ 16777216 ∧ i.size = 1 then some (.litp zv n, ps.toList.map (·.2)) else none
            | none => none
          | none => none
        else if ps.toList.map (·.1) = List.range' 0 n ∧ n * i.size ≤ 16777216 ∧ i.size ≠ 0 ∧ i.zero.isSome then some (.lit e i.size, ps.toList.map (·.2)) else none
      | none => none
    | _ => none
  | .makeMap _ none => some (.mkmap, [])
  | .range t x => match P.underlying t with
    | some (.map _ _) => some (.rangem, [x])
    | some .string => some (.ranges, [x])
    | _ => none
  | .next i false => some (.nextm, [i])
  | .next i true => some (.nexts, [i])
  | .entry i => some (.entrym, [i])
  | .lookup t x i ok => match P.underlying t with
    | some (.map kt et) => match P.underlying kt, P.info? et with
      | some td, some it => match kdOf td, it.zero with
        | some kd, some z => match cV z with
          | some zv => some (.mget kd ok zv, [x, i])
          | none => none
        | _, _ => none
      | _, _ => none
    | _ => none
  | .mapUpdate t m k v => match P.underlying t with
    | some (.map kt _) => match P.underlying kt with
      | some td => match kdOf td with
        | some kd => some (.mput kd, [m, k, v])
        | none => none
      | none => none
    | _ => none
  | .call { callee := .value (.func f), args, .. } => if isIbs P f = true then some (.ibs, args.toList) else none
  | .call { callee := .builtin .len, args, argTypes } => match args.toList, argTypes.toList with
    | [x], [t] => match P.underlying t with
      | some .string => some (.slen, [x])
      | some (.slice _) => some (.len, [x])
      | _ => none
    | _, _ => none
  | .call { callee := .builtin .append, args, argTypes } => match args.toList, argTypes.toList with
    | [x, y], [t, t'] => match P.underlying t with
      | some (.slice e) => match P.info? e with
        | some i => match i.zero with
          | some z => if t = t' ∧ z.cells.size = i.size then some (.app e i.size i.bytes, [x, y]) else if isStrD (P.underlying t') = true ∧ z.cells.size = 1 ∧ i.size = 1 then some (.apps e i.bytes, [x, y]) else none
          | none => none
        | none => none
      | _ => none
    | _, _ => none
  | .call { callee := .builtin .max, args, .. } => match args.toList with
    | [x, y] => some (.mm true, [x, y])
    | _ => none
  | .call { callee := .builtin .min, args, .. } => match args.toList with
    | [x, y] => some (.mm false, [x, y])
    | _ => none
  | _ => none
end Go.Abs

namespace Go.Abs
open Go
section
variable {C : Cx} {B : Base} {S : Seal} {g : Locs} {s : St} {a : Act} {w : World} {d : Option Nat} {r : Result Next}
theorem act_mget_inv {kd dd : Nat} {ok : Bool} {z : V} {vs : List V} {p : Prop} {e : Eff} (ha : (AOp.mget kd ok z).act dd vs = some (p, e)) : ∃ o k, vs = [.mp o, k] ∧ e = .mrd o kd k ok z := by
  unfold AOp.act at ha
  split at ha <;> try (cases ha; done)
  all_goals (try (rename_i heq1; simp only [reduceCtorEq] at heq1; done))
  all_goals (rename_i heq1; simp only [AOp.mget.injEq] at heq1; obtain ⟨rfl, rfl, rfl⟩ := heq1; simp only [Option.some.injEq, Prod.mk.injEq] at ha; exact ⟨_, _, rfl, ha.2.symm⟩)
theorem act_mput_inv {kd dd : Nat} {vs : List V} {p : Prop} {e : Eff} (ha : (AOp.mput kd).act dd vs = some (p, e)) : ∃ o k v, vs = [.mp o, k, v] ∧ p = (isKeyV kd k = true) ∧ e = .mwr o kd k v := by
  unfold AOp.act at ha
  split at ha <;> try (cases ha; done)
  all_goals (try (rename_i heq1; simp only [reduceCtorEq] at heq1; done))
  all_goals (rename_i heq1; simp only [AOp.mput.injEq] at heq1; subst heq1; simp only [Option.some.injEq, Prod.mk.injEq] at ha; exact ⟨_, _, _, rfl, ha.1.symm, ha.2.symm⟩)
theorem act_mkmap_inv {dd : Nat} {vs : List V} {p : Prop} {e : Eff} (ha : AOp.mkmap.act dd vs = some (p, e)) : e = .newm dd := by
  unfold AOp.act at ha
  split at ha <;> try (cases ha; done)
  all_goals (try (rename_i heq1; simp only [reduceCtorEq] at heq1; done))
  all_goals (simp only [Option.some.injEq, Prod.mk.injEq] at ha; exact ha.2.symm)

theorem act_litp_inv {n dd : Nat} {z : V} {vs : List V} {p : Prop} {e : Eff} (ha : (AOp.litp z n).act dd vs = some (p, e)) :
    ∃ cs, putParts (List.replicate n z) ((List.range' 0 n).map fun j => (j, 1)) vs = some cs ∧ p = (vs.all elemNt = true) ∧ e = .newsl dd cs n := by
  have h : (AOp.litp z n).act dd vs = (putParts (List.replicate n z) ((List.range' 0 n).map fun j => (j, 1)) vs).map fun cs => (vs.all elemNt = true, .newsl dd cs n) := by cases vs <;> rfl
  rw [h] at ha
  simp only [Option.map_eq_some_iff, Prod.mk.injEq] at ha
  obtain ⟨cs, h1, h2, h3⟩ := ha
  exact ⟨cs, h1, h2.symm, h3.symm⟩
theorem cS_cells {z : Value} {zv : V} (h : cS z = some zv) : z.cells = #[z] := by
  unfold cS at h
  split at h <;> first | (cases h; done) | rfl

theorem VRs_rep {z : Value} {zv : V} (h : VR S g zv z) : ∀ n, VRs S g (List.replicate n zv) (List.replicate n z)
  | 0 => trivial
  | n + 1 => ⟨z, _, rfl, h, VRs_rep h n⟩
theorem mapZ (z : Value) (n : Nat) : ((Array.range n).map fun j => (#[z] : Array Value)[j % (#[z] : Array Value).size]!).toList = List.replicate n z := by
  apply List.ext_getElem
  · simp
  · intro i h1 h2
    have : i % 1 = 0 := Nat.mod_one i
    simp [this]

theorem act_sarr_inv {n dd : Nat} {vs : List V} {p : Prop} {e : Eff} (ha : (AOp.sarr n).act dd vs = some (p, e)) :
    (∃ cs off k l k' h, vs = [.cp cs off, .int k l, .int k' h] ∧ ((cs.drop off).take n).all oneV = true ∧ p = (0 ≤ l ∧ l ≤ h ∧ h ≤ n ∧ off + n ≤ cs.length) ∧ e = .ret (.sl none 1 ((((cs.drop off).take n).take h.toNat).drop l.toNat))) ∨
    (∃ o off k l k' h, vs = [.ptr o off, .int k l, .int k' h] ∧ p = (0 ≤ l ∧ l ≤ h ∧ h ≤ n ∧ l < n) ∧ e = .ret (.ls o (off + l.toNat) 1 (h.toNat - l.toNat))) := by
  unfold AOp.act at ha
  split at ha <;> try (cases ha; done)
  all_goals (try (rename_i heq1; simp only [reduceCtorEq] at heq1; done))
  · rename_i heq1
    simp only [AOp.sarr.injEq] at heq1
    subst heq1
    split at ha
    · rename_i ho
      simp only [Option.some.injEq, Prod.mk.injEq] at ha
      exact .inl ⟨_, _, _, _, _, _, rfl, ho, ha.1.symm, ha.2.symm⟩
    · cases ha
  · rename_i heq1
    simp only [AOp.sarr.injEq] at heq1
    subst heq1
    simp only [Option.some.injEq, Prod.mk.injEq] at ha
    exact .inr ⟨_, _, _, _, _, _, rfl, ha.1.symm, ha.2.symm⟩

theorem VRe_one (S : Seal) : ∀ {xs : List V} {vs : List Value}, (∀ g, VRs S g xs vs) → xs.all oneV = true → VRe S 1 xs vs
  | [], _, _, _ => trivial
  | x :: xs, vs, h, ho => by
    simp only [List.all_cons, Bool.and_eq_true] at ho
    cases vs with
    | nil => obtain ⟨v, r, he, _⟩ := h (fun _ => none); cases he
    | cons u r =>
      have h1 : ∀ g, VR S g x u := fun g => by obtain ⟨v, r', he, hv, _⟩ := h g; cases he; exact hv
      have h2 : ∀ g, VRs S g xs r := fun g => by obtain ⟨v, r', he, _, hv⟩ := h g; cases he; exact hv
      have h3 := VR.oneCell (h1 (fun _ => none)) ho.1
      have h4 : u.cells = #[u] := by cases u <;> simp_all [Value.cells, Value.oneCell']
      exact ⟨u, r, by simp [h4], by simp [h4], h1, VRe_one S h2 ho.2⟩

theorem sb_ok {P : Program} {w : World} {n l h : Nat} {lo hi : Option Value} (hl : (lo = none ∧ l = 0) ∨ ∃ kk, lo = some (.int kk l)) (hh : (hi = none ∧ h = n) ∨ ∃ kk, hi = some (.int kk h)) (h0 : l ≤ h) (h1 : h ≤ n) :
    (Instr.sliceBounds false n n lo hi none).run P w = .ok (l, h, n) w := by
  unfold Instr.sliceBounds
  rcases hh with ⟨rfl, rfl⟩ | ⟨kk, rfl⟩ <;> rcases hl with ⟨rfl, rfl⟩ | ⟨kk', rfl⟩ <;>
    simp [Instr.sliceBound, asIntOf, h0, h1] <;> omega

theorem bnd {a : Act} {l : Option Operand} {k : IntKind} {z : Int} {m : Nat} (h : a.eval (l.getD (.const (.int .i64 m))) = .int k z) (h0 : 0 ≤ z) : (l.map a.eval = none ∧ z.toNat = m) ∨ ∃ kk, l.map a.eval = some (.int kk (z.toNat : Nat)) := by
  cases l with
  | none =>
    simp only [Option.getD_none] at h
    have h' : Value.int .i64 m = .int k z := h
    cases h'
    exact .inl ⟨rfl, by simp⟩
  | some o =>
    simp only [Option.getD_some] at h
    exact .inr ⟨k, by simp only [Option.map_some, h, Int.toNat_of_nonneg h0]⟩

theorem sarr_sound {t e0 : TypeId} {n dd : Nat} {x : Operand} {lo hi : Option Operand} {vs : List V} {p : Prop} {e : Eff} {i : TypeInfo} (ht : C.P.underlying t = some (.array n e0)) (hi0 : C.P.info? e0 = some i) (hs1 : i.size = 1)
    (h : SR C B S g s a w) (hd : dstOk B.nt d = true) (hx : VRl S g vs ([x, lo.getD (.const (.int .i64 0)), hi.getD (.const (.int .i64 n))].map a.eval)) (ha : (AOp.sarr n).act dd vs = some (p, e)) (hp : p)
    (hr : r = (Instr.sliceAt t (a.eval x) (lo.map a.eval) (hi.map a.eval) none >>= fun u => pure (.value u) : Sem Next).run C.P w) : Ran C B g s a w d r e := by
  rcases act_sarr_inv ha with ⟨cs, off, k, l, k', m, rfl, ho, rfl, rfl⟩ | ⟨o, off, k, l, k', m, rfl, rfl, rfl⟩
  · cases hx with | cons hv hx => cases hx with | cons hl hx => cases hx with | cons hm hx =>
    obtain ⟨b, q, pp, hq, he, hrr⟩ := hv
    have hsb := sb_ok (P := C.P) (w := w) (n := n) (bnd (m := 0) hl hp.1) (bnd hm (Int.le_trans hp.1 hp.2.1)) (by omega) (by omega)
    refine Ran.ret h hd (v' := .slice (some (if n = l.toNat then ⟨b, q + off, none⟩ else ⟨b, q + off + l.toNat, none⟩)) (m.toNat - l.toNat) (n - l.toNat)) ?_ ?_
    · rw [hr, he]
      simp only [Instr.sliceAt, Sem.run_bind, run_underlying ht, Result.andThen_ok, Instr.sureAddr, Sem.run_pure, hsb, run_sizeOf' hi0, hs1, Nat.mul_one, addr_add0]
    · have hlen : ((((cs.drop off).take n).take m.toNat).drop l.toNat).length = m.toNat - l.toNat := by
        simp only [List.length_drop, List.length_take]; omega
      refine ⟨_, _, _, rfl, hlen.symm, by omega, ?_, fun _ hn => by cases hn⟩
      by_cases he : m.toNat = l.toNat
      · left
        apply List.eq_nil_of_length_eq_zero
        rw [hlen]; omega
      · right
        have hne : n ≠ l.toNat := by omega
        refine ⟨b, q + off + l.toNat, pp, by simp [hne], hq, ?_⟩
        have h1 : VRe S 1 ((cs.drop off).take n) (pp.drop (q + off)) := by
          refine VRe_one S (fun g' => ?_) ho
          have := (hrr g').drop off
          rw [List.drop_drop] at this
          have h2 := this.take n
          exact VRs.mono (SLe.refl S) _ (List.take_prefix _ _) (fun _ _ => .inl rfl) h2
        have h3 := h1.slice l.toNat m.toNat
        rw [Nat.mul_one, List.drop_drop] at h3
        exact h3
  · cases hx with | cons hv hx => cases hx with | cons hl hx => cases hx with | cons hm hx =>
    obtain ⟨b, hb, he⟩ := hv
    have hsb := sb_ok (P := C.P) (w := w) (n := n) (bnd (m := 0) hl hp.1) (bnd hm (Int.le_trans hp.1 hp.2.1)) (by omega) (by omega)
    have hne : n ≠ l.toNat := by omega
    refine Ran.ret h hd (v' := .slice (some ⟨b, off + l.toNat, none⟩) (m.toNat - l.toNat) (n - l.toNat)) ?_ ⟨b, n - l.toNat, hb, rfl, by omega⟩
    rw [hr, he]
    simp only [Instr.sliceAt, Sem.run_bind, run_underlying ht, Result.andThen_ok, Instr.sureAddr, Sem.run_pure, hsb, run_sizeOf' hi0, hs1, Nat.mul_one, addr_add0, hne, if_false]

theorem act_rangem_inv {dd : Nat} {vs : List V} {p : Prop} {e : Eff} (ha : AOp.rangem.act dd vs = some (p, e)) : ∃ o, vs = [.mp o] ∧ e = .newit dd o := by
  unfold AOp.act at ha
  split at ha <;> try (cases ha; done)
  all_goals (try (rename_i heq1; simp only [reduceCtorEq] at heq1; done))
  all_goals (simp only [Option.some.injEq, Prod.mk.injEq] at ha; exact ⟨_, rfl, ha.2.symm⟩)
theorem act_ibs_inv {dd : Nat} {vs : List V} {p : Prop} {e : Eff} (ha : AOp.ibs.act dd vs = some (p, e)) : ∃ l c, vs = [.str l, .int .u8 c] ∧ e = .ret (.int .i64 (Lib.indexByte l c.toNat.toUInt8)) := by
  unfold AOp.act at ha
  split at ha <;> try (cases ha; done)
  all_goals (try (rename_i heq1; simp only [reduceCtorEq] at heq1; done))
  all_goals (simp only [Option.some.injEq, Prod.mk.injEq] at ha; exact ⟨_, _, rfl, ha.2.symm⟩)
theorem ibs_row : Extern.allRows.lookup "internal/bytealg.IndexByteString" = some Extern.BytealgIndexByte.indexByte := by kernel_rfl
theorem ibs_row1 : (Extern.allGenericRows.lookup "internal/bytealg.IndexByteString").isNone = true := by kernel_rfl
theorem ibs_row2 : (Extern.allTypedRows.lookup "internal/bytealg.IndexByteString").isNone = true := by kernel_rfl
theorem ibs_find {fn : Func} (h : fn.name = "internal/bytealg.IndexByteString") : Extern.find fn = some Extern.BytealgIndexByte.indexByte := by
  have h1 := ibs_row1
  have h2 := ibs_row2
  rw [Option.isNone_iff_eq_none] at h1 h2
  simp [Extern.find, h, ibs_row, h1, h2]
theorem ibs_run {P : Program} {f : FuncId} (h : isIbs P f = true) (l : List UInt8) (c : Int) (w : World) : (callFunc f #[.string ⟨l.toArray⟩, .int .u8 c]).run P w = .ok (.value (.int .i64 (Lib.indexByte l c.toNat.toUInt8))) w := by
  unfold isIbs at h
  split at h
  · rename_i fn hf
    simp only [Bool.and_eq_true, beq_iff_eq, Option.isNone_iff_eq_none] at h
    rw [run_callFunc_extern hf (by rw [h.1.1]; decide) (by simp [h.1.2]) (by rw [h.2]) (ibs_find h.1.1), Lib.run_indexByteString]
    rfl
  · cases h
theorem act_ranges_inv {dd : Nat} {vs : List V} {p : Prop} {e : Eff} (ha : AOp.ranges.act dd vs = some (p, e)) : ∃ l, vs = [.str l] ∧ e = .newsit dd l := by
  unfold AOp.act at ha
  split at ha <;> try (cases ha; done)
  all_goals (try (rename_i heq1; simp only [reduceCtorEq] at heq1; done))
  all_goals (simp only [Option.some.injEq, Prod.mk.injEq] at ha; exact ⟨_, rfl, ha.2.symm⟩)
theorem act_nexts_inv {dd : Nat} {vs : List V} {p : Prop} {e : Eff} (ha : AOp.nexts.act dd vs = some (p, e)) : ∃ o, vs = [.ptr o 0] ∧ e = .snxt o := by
  unfold AOp.act at ha
  split at ha <;> try (cases ha; done)
  all_goals (try (rename_i heq1; simp only [reduceCtorEq] at heq1; done))
  all_goals (simp only [Option.some.injEq, Prod.mk.injEq] at ha; exact ⟨_, rfl, ha.2.symm⟩)
theorem act_nextm_inv {dd : Nat} {vs : List V} {p : Prop} {e : Eff} (ha : AOp.nextm.act dd vs = some (p, e)) : ∃ o, vs = [.ptr o 0] ∧ e = .nxt o := by
  unfold AOp.act at ha
  split at ha <;> try (cases ha; done)
  all_goals (try (rename_i heq1; simp only [reduceCtorEq] at heq1; done))
  all_goals (simp only [Option.some.injEq, Prod.mk.injEq] at ha; exact ⟨_, rfl, ha.2.symm⟩)
theorem act_entrym_inv {dd : Nat} {vs : List V} {p : Prop} {e : Eff} (ha : AOp.entrym.act dd vs = some (p, e)) : ∃ o, vs = [.ptr o 0] ∧ e = .ent o := by
  unfold AOp.act at ha
  split at ha <;> try (cases ha; done)
  all_goals (try (rename_i heq1; simp only [reduceCtorEq] at heq1; done))
  all_goals (simp only [Option.some.injEq, Prod.mk.injEq] at ha; exact ⟨_, rfl, ha.2.symm⟩)
end
end Go.Abs

namespace Go.Abs
open Go
section
variable {C : Cx} {B : Base} {S : Seal} {g : Locs} {s : St} {a : Act} {w : World} {d : Option Nat} {r : Result Next}

theorem VRl.inv1 {vs : List V} {u : Value} (h : VRl S g vs [u]) : ∃ x, vs = [x] ∧ VR S g x u := by
  cases h with
  | cons h1 h2 => cases h2; exact ⟨_, rfl, h1⟩
theorem VRl.inv2 {vs : List V} {u v : Value} (h : VRl S g vs [u, v]) : ∃ x y, vs = [x, y] ∧ VR S g x u ∧ VR S g y v := by
  cases h with
  | cons h1 h2 => obtain ⟨y, rfl, hy⟩ := h2.inv1; exact ⟨_, _, rfl, h1, hy⟩
theorem VRl.inv3 {vs : List V} {u v z : Value} (h : VRl S g vs [u, v, z]) : ∃ x y t, vs = [x, y, t] ∧ VR S g x u ∧ VR S g y v ∧ VR S g t z := by
  cases h with
  | cons h1 h2 => obtain ⟨y, t, rfl, hy, ht⟩ := h2.inv2; exact ⟨_, _, _, rfl, h1, hy, ht⟩

theorem VRl.strip {vs : List V} {us : List Value} (h : VRl S g vs us) : VRl S g (vs.map V.strip) us := by
  induction h with
  | nil => exact .nil
  | cons h1 _ ih => exact .cons (strip_le _ h1) ih
theorem VRl.mem {vs : List V} {us : List Value} (h : VRl S g vs us) {u : Value} (hu : u ∈ us) : ∃ x ∈ vs, VR S g x u := by
  induction h with
  | nil => cases hu
  | cons h1 _ ih =>
    rcases List.mem_cons.1 hu with rfl | hu
    · exact ⟨_, by simp, h1⟩
    · obtain ⟨x, hx, hr⟩ := ih hu; exact ⟨x, by simp [hx], hr⟩

theorem elemOk_nt {x : V} (h : elemOk x = true) : ∀ vs, x ≠ .tuple vs := fun vs e => by subst e; simp [elemOk] at h

theorem VR.cells_size {x : V} {v : Value} (h : VR S g x v) (ht : ∀ vs, x ≠ .tuple vs) : v.cells.size = x.cells.length := by
  rw [← Array.length_toList]; exact (h.cells_vrs ht).2

theorem ran_val (h : SR C B S g s a w) (hd : dstOk B.nt d = true) {m : Sem Value} {v : V} (hm : ∃ u, m.run C.P w = .ok u w ∧ VR S g v u)
    (hr : r = (m >>= fun u => pure (.value u) : Sem Next).run C.P w) : Ran C B g s a w d r (.ret v) := by
  obtain ⟨u, hu, hv⟩ := hm
  exact Ran.ret h hd (by rw [hr, Sem.run_bind, hu]; rfl) hv

theorem eqn_iface {P : Program} {t : TypeId} {ms : Array (String × TypeId)} (hu : P.underlying t = some (.interface ms)) (d : Nat) (u : TypeId) (z : Value) (w : World) :
    (Op.equalIn (d + 1) t .nilIface .nilIface).run P w = .ok true w ∧ (Op.equalIn (d + 1) t (.iface u z) .nilIface).run P w = .ok false w := by
  constructor <;> simp [Op.equalIn, run_underlying hu]
theorem eqn_ptr {P : Program} {t e : TypeId} (hu : P.underlying t = some (.pointer e)) (d : Nat) (u : Addr) (w : World) :
    (Op.equalIn (d + 1) t (.pointer none) (.pointer none)).run P w = .ok true w ∧ (Op.equalIn (d + 1) t (.pointer (some u)) (.pointer none)).run P w = .ok false w := by
  constructor <;> simp [Op.equalIn, run_underlying hu]
theorem eqn_fn {P : Program} {t : TypeId} {ps rs : Array TypeId} {v : Bool} (hu : P.underlying t = some (.func ps rs v)) (d : Nat) (f : Fn) (x y : Array Value) (w : World) :
    (Op.equalIn (d + 1) t .nilFunc .nilFunc).run P w = .ok true w ∧ (Op.equalIn (d + 1) t (.func f x y) .nilFunc).run P w = .ok false w := by
  constructor <;> simp [Op.equalIn, run_underlying hu]
theorem equal_def (t : TypeId) (x y : Value) : Op.equal t x y = Op.equalIn (9999 + 1) t x y := rfl

theorem nil_sound {op : BinOp} {t : TypeId} {x y : Operand} {ao : AOp} {xs : List Operand} {vs : List V} {p : Prop} {e : Eff} {dd kd : Nat}
    (hc : (if isNilConst kd y = true ∧ (op = .eql ∨ op = .neq) then some (AOp.nileq kd (op = .neq), [x]) else none) = some (ao, xs)) (h : SR C B S g s a w) (hd : dstOk B.nt d = true)
    (hx : VRl S g vs (xs.map a.eval)) (ha : ao.act dd vs = some (p, e)) (_hp : p)
    (hr : r = ((do eqGuard op t x y (a.eval x) (a.eval y); binOp op t (a.eval x) (a.eval y) : Sem Value) >>= fun u => pure (.value u) : Sem Next).run C.P w)
    (ht : True → (kd = 0 ∧ ∃ ms, C.P.underlying t = some (.interface ms)) ∨ (kd = 1 ∧ ∃ e, C.P.underlying t = some (.pointer e)) ∨ (kd = 2 ∧ ∃ ps rs v, C.P.underlying t = some (.func ps rs v))) : Ran C B g s a w d r e := by
  split at hc
  · rename_i hcond
    simp only [Option.some.injEq, Prod.mk.injEq] at hc
    obtain ⟨rfl, rfl⟩ := hc
    obtain ⟨v, rfl, hv⟩ := VRl.inv1 hx
    simp only [AOp.act, Option.map_eq_some_iff, Prod.mk.injEq] at ha
    obtain ⟨b, hb, rfl, rfl⟩ := ha
    refine ran_val h hd (v := .bool _) ⟨.bool (if decide (op = .neq) then !b else b), ?_, rfl⟩ hr
    rcases ht trivial with ⟨rfl, ms, hu⟩ | ⟨rfl, e0, hu⟩ | ⟨rfl, ps, rs, vv, hu⟩
    · have hy : y = .const .nilIface := by
        have := hcond.1; unfold isNilConst at this; split at this <;> first | rfl | (cases this; done) | (rename_i h0; omega) | skip
        all_goals simp_all
      subst hy
      have hxv : (a.eval x = .nilIface ∧ b = true) ∨ (∃ u z, a.eval x = .iface u z) ∧ b = false := by
        unfold isNil at hb
        split at hb <;> simp only [Option.some.injEq, reduceCtorEq] at hb <;> first
          | (left; exact ⟨hv.1, hb.symm⟩)
          | (right; obtain ⟨z, hz, _⟩ := hv; exact ⟨⟨_, _, hz⟩, hb.symm⟩)
          | (rename_i h0; omega)
          | skip
        all_goals omega
      have hev : a.eval (.const .nilIface) = .nilIface := rfl
      rw [hev]
      rcases hxv with ⟨e1, rfl⟩ | ⟨⟨u, z, e1⟩, rfl⟩ <;> rw [e1] <;> rcases hcond.2 with rfl | rfl
      · simp [eqGuard, binOp, equal_def, (eqn_iface hu 9999 0 .nilIface w).1]
      · simp [eqGuard, binOp, equal_def, (eqn_iface hu 9999 0 .nilIface w).1]
      · simp [eqGuard, binOp, equal_def, (eqn_iface hu 9999 u z w).2]
      · simp [eqGuard, binOp, equal_def, (eqn_iface hu 9999 u z w).2]
    · have hy : y = .const (.pointer none) := by
        have := hcond.1; unfold isNilConst at this; split at this <;> first | rfl | (cases this; done) | (rename_i h0; omega) | skip
        all_goals simp_all
      subst hy
      have hxv : (a.eval x = .pointer none ∧ b = true) ∨ (∃ u, a.eval x = .pointer (some u)) ∧ b = false := by
        unfold isNil at hb
        split at hb <;> simp only [Option.some.injEq, reduceCtorEq] at hb <;> first
          | (left; exact ⟨hv.1, hb.symm⟩)
          | (right; obtain ⟨z, _, hz⟩ := hv; exact ⟨⟨_, hz⟩, hb.symm⟩)
          | (right; obtain ⟨z, _, _, _, hz, _⟩ := hv; exact ⟨⟨_, hz⟩, hb.symm⟩)
          | (rename_i h0; omega)
          | skip
        all_goals omega
      have hev : a.eval (.const (.pointer none)) = .pointer none := rfl
      rw [hev]
      rcases hxv with ⟨e1, rfl⟩ | ⟨⟨u, e1⟩, rfl⟩ <;> rw [e1] <;> rcases hcond.2 with rfl | rfl
      · simp [eqGuard, binOp, equal_def, (eqn_ptr hu 9999 default w).1]
      · simp [eqGuard, binOp, equal_def, (eqn_ptr hu 9999 default w).1]
      · simp [eqGuard, binOp, equal_def, (eqn_ptr hu 9999 u w).2]
      · simp [eqGuard, binOp, equal_def, (eqn_ptr hu 9999 u w).2]
    · have hy : y = .const .nilFunc := by
        have := hcond.1; unfold isNilConst at this; split at this <;> first | rfl | (cases this; done) | (rename_i h0; omega) | skip
        all_goals simp_all
      subst hy
      have hxv : (a.eval x = .nilFunc ∧ b = true) ∨ (∃ u z q, a.eval x = .func u z q) ∧ b = false := by
        unfold isNil at hb
        split at hb <;> simp only [Option.some.injEq, reduceCtorEq] at hb <;> first
          | (left; exact ⟨hv.1, hb.symm⟩)
          | (right; obtain ⟨z, q, hz, _⟩ := hv; exact ⟨⟨_, _, _, hz⟩, hb.symm⟩)
          | (rename_i h0; omega)
          | skip
        all_goals omega
      have hev : a.eval (.const .nilFunc) = .nilFunc := rfl
      rw [hev]
      rcases hxv with ⟨e1, rfl⟩ | ⟨⟨u, z, q, e1⟩, rfl⟩ <;> rw [e1] <;> rcases hcond.2 with rfl | rfl
      · simp [eqGuard, binOp, equal_def, (eqn_fn hu 9999 default #[] #[] w).1]
      · simp [eqGuard, binOp, equal_def, (eqn_fn hu 9999 default #[] #[] w).1]
      · simp [eqGuard, binOp, equal_def, (eqn_fn hu 9999 u z q w).2]
      · simp [eqGuard, binOp, equal_def, (eqn_fn hu 9999 u z q w).2]
  · cases hc

theorem eqn_sl {P : Program} {t e : TypeId} (hu : P.underlying t = some (.slice e)) (d : Nat) (u : Addr) (l c : Nat) (w : World) :
    (Op.equalIn (d + 1) t (.slice none 0 0) (.slice none 0 0)).run P w = .ok true w ∧ (Op.equalIn (d + 1) t (.slice (some u) l c) (.slice none 0 0)).run P w = .ok false w := by
  constructor <;> simp [Op.equalIn, run_underlying hu]

theorem slnil_sound {op : BinOp} {t e0 : TypeId} {x y : Operand} {ao : AOp} {xs : List Operand} {vs : List V} {p : Prop} {e : Eff} {dd : Nat}
    (hc : (if isNilConst 3 y = true ∧ (op = .eql ∨ op = .neq) then some (AOp.nileq 3 (op = .neq), [x]) else none) = some (ao, xs)) (h : SR C B S g s a w) (hd : dstOk B.nt d = true)
    (hx : VRl S g vs (xs.map a.eval)) (ha : ao.act dd vs = some (p, e)) (_hp : p)
    (hr : r = ((do eqGuard op t x y (a.eval x) (a.eval y); binOp op t (a.eval x) (a.eval y) : Sem Value) >>= fun u => pure (.value u) : Sem Next).run C.P w)
    (hu : C.P.underlying t = some (.slice e0)) : Ran C B g s a w d r e := by
  split at hc
  · rename_i hcond
    simp only [Option.some.injEq, Prod.mk.injEq] at hc
    obtain ⟨rfl, rfl⟩ := hc
    obtain ⟨v, rfl, hv⟩ := VRl.inv1 hx
    simp only [AOp.act, Option.map_eq_some_iff, Prod.mk.injEq] at ha
    obtain ⟨b, hb, rfl, rfl⟩ := ha
    refine ran_val h hd (v := .bool _) ⟨.bool (if decide (op = .neq) then !b else b), ?_, rfl⟩ hr
    have hy : y = .const (.slice none 0 0) := by
      have := hcond.1; unfold isNilConst at this; split at this <;> first | rfl | (cases this; done) | (rename_i h0; omega) | skip
      all_goals simp_all
    subst hy
    have hxv : (a.eval x = .slice none 0 0 ∧ b = true) ∨ (∃ u l c, a.eval x = .slice (some u) l c) ∧ b = false := by
      unfold isNil at hb
      split at hb <;> simp only [Option.some.injEq, reduceCtorEq] at hb <;> first
        | (left; exact ⟨hv.1, hb.symm⟩)
        | (right; obtain ⟨ad, l, c, hz, _, _, h3, _⟩ := hv; refine ⟨?_, hb.symm⟩; rcases h3 with h3 | ⟨b, i, p, rfl, _⟩; · cases h3
           exact ⟨_, _, _, hz⟩)
        | (rename_i h0; omega)
        | skip
      all_goals omega
    have hev : a.eval (.const (.slice none 0 0)) = .slice none 0 0 := rfl
    rw [hev]
    rcases hxv with ⟨e1, rfl⟩ | ⟨⟨u, l, c, e1⟩, rfl⟩ <;> rw [e1] <;> rcases hcond.2 with rfl | rfl
    · simp [eqGuard, binOp, equal_def, (eqn_sl hu 9999 default 0 0 w).1]
    · simp [eqGuard, binOp, equal_def, (eqn_sl hu 9999 default 0 0 w).1]
    · simp [eqGuard, binOp, equal_def, (eqn_sl hu 9999 u l c w).2]
    · simp [eqGuard, binOp, equal_def, (eqn_sl hu 9999 u l c w).2]
  · cases hc

theorem bin_sound {op : BinOp} {t yt : TypeId} {x y : Operand} {ao : AOp} {xs : List Operand} {vs : List V} {p : Prop} {e : Eff} {dd : Nat} (hc : compOp C.P (.binOp op t x y yt) = some (ao, xs)) (h : SR C B S g s a w) (hd : dstOk B.nt d = true)
    (hx : VRl S g vs (xs.map a.eval)) (ha : ao.act dd vs = some (p, e)) (hp : p)
    (hr : r = ((do eqGuard op t x y (a.eval x) (a.eval y); binOp op t (a.eval x) (a.eval y) : Sem Value) >>= fun u => pure (.value u) : Sem Next).run C.P w) : Ran C B g s a w d r e := by
  simp only [compOp, compBin] at hc
  have viaBin : ∀ vx vy, VR S g vx (a.eval x) → VR S g vy (a.eval y) → (vbin op vx vy).map (fun q => (q.1, Eff.ret q.2)) = some (p, e) → Ran C B g s a w d r e := fun vx vy h1 h2 hb => by
    simp only [Option.map_eq_some_iff] at hb
    obtain ⟨⟨p', z⟩, hb, he⟩ := hb
    cases he
    exact ran_val h hd (ok_bin (_t2 := yt) h1 h2 hb hp) hr
  split at hc
  · simp only [Option.some.injEq, Prod.mk.injEq] at hc
    obtain ⟨rfl, rfl⟩ := hc
    obtain ⟨vx, vy, rfl, h1, h2⟩ := VRl.inv2 hx
    exact viaBin vx vy h1 h2 (by simpa only [AOp.act] using ha)
  · simp only [Option.some.injEq, Prod.mk.injEq] at hc
    obtain ⟨rfl, rfl⟩ := hc
    obtain ⟨vx, vy, rfl, h1, h2⟩ := VRl.inv2 hx
    exact viaBin vx vy h1 h2 (by simpa only [AOp.act] using ha)
  · -- bools
    rename_i hu
    have key : ∀ neg : Bool, (ao, xs) = (.beq neg, [x, y]) → op = (if neg then .neq else .eql) → Ran C B g s a w d r e := fun neg he ho => by
      cases he
      obtain ⟨vx, vy, rfl, h1, h2⟩ := VRl.inv2 hx
      cases vx <;> cases vy <;> simp only [AOp.act, Option.some.injEq, Prod.mk.injEq, reduceCtorEq] at ha
      obtain ⟨rfl, rfl⟩ := ha
      refine ran_val h hd ⟨_, ?_, rfl⟩ hr
      rw [show a.eval x = _ from h1, show a.eval y = _ from h2, ho]
      cases neg <;> simp [eqGuard, binOp, equal_def, run_equalIn_bool' w 9999 t _ _ hu, bne]
    split at hc
    · rename_i ho; exact key false (by simpa using hc.symm) (by simpa using ho)
    · split at hc
      · rename_i ho; exact key true (by simpa using hc.symm) (by simpa using ho)
      · cases hc
  · -- structs
    rename_i fs hu
    split at hc
    · rename_i hcond
      simp only [Option.map_eq_some_iff] at hc
      obtain ⟨ks, hks, he⟩ := hc
      cases he
      obtain ⟨vx, vy, rfl, h1, h2⟩ := VRl.inv2 hx
      cases vx <;> cases vy <;> simp only [AOp.act, Prod.mk.injEq, reduceCtorEq, Option.map_eq_some_iff] at ha
      obtain ⟨b, hb, rfl, rfl⟩ := ha
      obtain ⟨us, e1, hs1, hr1⟩ := h1
      obtain ⟨ws, e2, hs2, hr2⟩ := h2
      have hfo : C.P.fieldsOf t = fs := by simp [Program.fieldsOf, hu]
      have heq : (Op.equalIn 10000 t (.agg us) (.agg ws)).run C.P w = .ok b w := by
        rw [run_equalIn_struct w 9999 t us ws (by rw [hfo]; exact hu) hcond.1, hfo]
        exact veqs_ok fs.toList ks 0 _ _ b us ws hks hb (by simpa using hs1) (by simpa using hs2) (by simpa using hr1) (by simpa using hr2) w
      refine ran_val h hd ⟨_, ?_, rfl⟩ hr
      rw [e1, e2]
      rcases hcond.2.2 with rfl | rfl <;> simp [Sem.run_bind, eqGuard, hcond.2.1, binOp, equal_def, heq]
    · cases hc
  · exact nil_sound (kd := 0) hc h hd hx ha hp hr (fun _ => .inl ⟨rfl, ⟨_, ‹_›⟩⟩)
  · exact nil_sound (kd := 1) hc h hd hx ha hp hr (fun _ => .inr (.inl ⟨rfl, ⟨_, ‹_›⟩⟩))
  · exact nil_sound (kd := 2) hc h hd hx ha hp hr (fun _ => .inr (.inr ⟨rfl, ⟨_, _, _, ‹_›⟩⟩))
  · exact slnil_sound hc h hd hx ha hp hr ‹_›
  · cases hc

set_option maxHeartbeats 1000000 in
theorem slice_sound {t : TypeId} {x : Operand} {lo hi : Option Operand} {ao : AOp} {xs : List Operand} {vs : List V} {p : Prop} {e : Eff} {dd : Nat} (hc : compOp C.P (.slice t x lo hi none) = some (ao, xs)) (h : SR C B S g s a w) (hd : dstOk B.nt d = true)
    (hx : VRl S g vs (xs.map a.eval)) (ha : ao.act dd vs = some (p, e)) (hp : p)
    (hr : r = (Instr.sliceAt t (a.eval x) (lo.map a.eval) (hi.map a.eval) none >>= fun u => pure (.value u) : Sem Next).run C.P w) : Ran C B g s a w d r e := by
  simp only [compOp] at hc
  split at hc
  · rename_i ht
    split at hc
    · simp only [Option.some.injEq, Prod.mk.injEq] at hc
      obtain ⟨rfl, rfl⟩ := hc
      cases lo <;> cases hi <;> simp only [Option.isSome_none, Option.isSome_some, Option.toList_none, Option.toList_some, List.append_nil, List.nil_append, List.cons_append, List.map_cons, List.map_nil] at hx ha
      · obtain ⟨v, rfl, hv⟩ := VRl.inv1 hx
        simp [AOp.act] at ha
      · obtain ⟨v, n, rfl, hv, hn⟩ := VRl.inv2 hx
        cases v <;> cases n <;> simp only [AOp.act, Option.some.injEq, Prod.mk.injEq, reduceCtorEq] at ha
        obtain ⟨rfl, rfl⟩ := ha
        rename_i l k n
        obtain ⟨q, rfl⟩ := Int.eq_ofNat_of_zero_le hp.1
        refine ran_val h hd (by
          have := ok_sstr (C := C) (w := w) (x := 0) (y := q) ht hv (.inl ⟨rfl, rfl⟩) (.inr ⟨k, rfl⟩) (by omega) (by omega)
          simpa using this) (by rw [hr]; simp only [Option.map_some, Option.map_none]; rw [show a.eval _ = _ from hn])
      · obtain ⟨v, n, rfl, hv, hn⟩ := VRl.inv2 hx
        cases v <;> cases n <;> simp only [AOp.act, Option.some.injEq, Prod.mk.injEq, reduceCtorEq] at ha
        obtain ⟨rfl, rfl⟩ := ha
        rename_i l k n
        obtain ⟨q, rfl⟩ := Int.eq_ofNat_of_zero_le hp.1
        refine ran_val h hd (by
          have := ok_sstr (C := C) (w := w) (x := q) (y := l.length) ht hv (.inr ⟨k, rfl⟩) (.inl ⟨rfl, rfl⟩) (by omega) (by omega)
          simpa using this) (by rw [hr]; simp only [Option.map_some, Option.map_none]; rw [show a.eval _ = _ from hn])
      · obtain ⟨v, n, m, rfl, hv, hn, hm⟩ := VRl.inv3 hx
        cases v <;> cases n <;> cases m <;> simp only [AOp.act, Option.some.injEq, Prod.mk.injEq, reduceCtorEq] at ha
        obtain ⟨rfl, rfl⟩ := ha
        rename_i l k n k' m
        obtain ⟨q, rfl⟩ := Int.eq_ofNat_of_zero_le hp.1
        obtain ⟨q', rfl⟩ := Int.eq_ofNat_of_zero_le (Int.le_trans hp.1 hp.2.1)
        refine ran_val h hd (by
          have := ok_sstr (C := C) (w := w) (x := q) (y := q') ht hv (.inr ⟨k, rfl⟩) (.inr ⟨k', rfl⟩) (by omega) (by omega)
          simpa using this) (by rw [hr]; simp only [Option.map_some]; rw [show a.eval _ = _ from hn, show a.eval _ = _ from hm])
    · cases hc
  · rename_i n e0 ht
    split at hc
    · rename_i i hi0
      split at hc
      · rename_i hs1
        simp only [Option.some.injEq, Prod.mk.injEq] at hc
        obtain ⟨rfl, rfl⟩ := hc
        exact sarr_sound ht hi0 hs1 h hd hx ha hp hr
      · cases hc
    · cases hc
  · rename_i e0 ht
    split at hc
    · rename_i i hi0
      split at hc
      · simp only [Option.some.injEq, Prod.mk.injEq] at hc
        obtain ⟨rfl, rfl⟩ := hc
        cases lo <;> cases hi <;> simp only [Option.isSome_none, Option.isSome_some, Option.toList_none, Option.toList_some, List.append_nil, List.nil_append, List.cons_append, List.map_cons, List.map_nil] at hx ha
        · obtain ⟨v, rfl, hv⟩ := VRl.inv1 hx
          simp [AOp.act] at ha
        · obtain ⟨v, n, rfl, hv, hn⟩ := VRl.inv2 hx
          cases v <;> cases n <;> simp only [AOp.act, reduceCtorEq] at ha
          split at ha
          · rename_i hk
            simp only [Option.some.injEq, Prod.mk.injEq] at ha
            obtain ⟨rfl, rfl⟩ := ha
            subst hk
            rename_i tk l k n
            obtain ⟨q, rfl⟩ := Int.eq_ofNat_of_zero_le hp.1
            refine ran_val h hd (by
              have := ok_ssl (C := C) (w := w) (l := 0) (h := q) ht hi0 rfl hv (.inl ⟨rfl, rfl⟩) (.inr ⟨k, rfl⟩) (by omega) (by omega)
              simpa using this) (by rw [hr]; simp only [Option.map_some, Option.map_none]; rw [show a.eval _ = _ from hn])
          · cases ha
        · obtain ⟨v, n, rfl, hv, hn⟩ := VRl.inv2 hx
          cases v <;> cases n <;> simp only [AOp.act, reduceCtorEq] at ha
          split at ha
          · rename_i hk
            simp only [Option.some.injEq, Prod.mk.injEq] at ha
            obtain ⟨rfl, rfl⟩ := ha
            subst hk
            rename_i tk l k n
            obtain ⟨q, rfl⟩ := Int.eq_ofNat_of_zero_le hp.1
            refine ran_val h hd (by
              have := ok_ssl (C := C) (w := w) (l := q) (h := l.length) ht hi0 rfl hv (.inr ⟨k, rfl⟩) (.inl ⟨rfl, rfl⟩) (by omega) (by omega)
              simpa using this) (by rw [hr]; simp only [Option.map_some, Option.map_none]; rw [show a.eval _ = _ from hn])
          · cases ha
        · obtain ⟨v, n, m, rfl, hv, hn, hm⟩ := VRl.inv3 hx
          cases v <;> cases n <;> cases m <;> simp only [AOp.act, reduceCtorEq] at ha
          split at ha
          · rename_i hk
            simp only [Option.some.injEq, Prod.mk.injEq] at ha
            obtain ⟨rfl, rfl⟩ := ha
            subst hk
            rename_i tk l k n k' m
            obtain ⟨q, rfl⟩ := Int.eq_ofNat_of_zero_le hp.1
            obtain ⟨q', rfl⟩ := Int.eq_ofNat_of_zero_le (Int.le_trans hp.1 hp.2.1)
            refine ran_val h hd (by
              have := ok_ssl (C := C) (w := w) (l := q) (h := q') ht hi0 rfl hv (.inr ⟨k, rfl⟩) (.inr ⟨k', rfl⟩) (by omega) (by omega)
              simpa using this) (by rw [hr]; simp only [Option.map_some]; rw [show a.eval _ = _ from hn, show a.eval _ = _ from hm])
          · cases ha
      · cases hc
    · cases hc
  · cases hc

theorem zip_parts (ps : List (Nat × Operand)) (f : Operand → Value) : (ps.map fun p => (p.1, f p.2)) = (ps.map (·.1)).zip ((ps.map (·.2)).map f) := by
  induction ps with
  | nil => rfl
  | cons p ps ih => simp [ih]

theorem mapM_map {α β : Type} {f : α → Option β} : ∀ {l : List α} {r : List β}, l.mapM f = some r → l.map f = r.map some
  | [], r, h => by simp at h; subst h; rfl
  | x :: l, r, h => by
    simp only [List.mapM_cons, Option.bind_eq_bind, Option.bind_eq_some_iff, Option.pure_def, Option.some.injEq] at h
    obtain ⟨y, hy, ys, hys, rfl⟩ := h
    simp [hy, mapM_map hys]

theorem build_sound {t : TypeId} {ps : Array (Nat × Operand)} {ao : AOp} {xs : List Operand} {vs : List V} {p : Prop} {e : Eff} {dd : Nat} (hc : compOp C.P (.build t ps) = some (ao, xs)) (h : SR C B S g s a w) (hd : dstOk B.nt d = true)
    (hx : VRl S g vs (xs.map a.eval)) (ha : ao.act dd vs = some (p, e)) (hp : p)
    (hr : r = (Instr.build t (ps.map fun (i, x) => (i, a.eval x)) >>= fun u => pure (.value u) : Sem Next).run C.P w) : Ran C B g s a w d r e := by
  simp only [compOp] at hc
  split at hc
  · rename_i it fs hit hu
    split at hc
    · rename_i z places hz hpl
      split at hc
      · rename_i zs qs hzs hqs
        simp only [Option.some.injEq, Prod.mk.injEq] at hc
        obtain ⟨rfl, rfl⟩ := hc
        have ha' : (putParts zs qs vs).map (fun cs => (True ∧ vs.all elemNt = true, Eff.ret (.agg cs))) = some (p, e) := by
          cases vs <;> simpa only [AOp.act] using ha
        simp only [Option.map_eq_some_iff, Prod.mk.injEq] at ha'
        obtain ⟨cs, hcs, rfl, rfl⟩ := ha'
        have hz0 := cSs_ok hzs S g
        have hnt : ∀ x ∈ vs, ∀ us, x ≠ .tuple us := fun x hx us e => by
          have := List.all_eq_true.1 hp.2 x hx
          subst e
          simp [elemNt] at this
        obtain ⟨cells, h1, h2, h3⟩ := fill_put (S := S) (g := g) (place := (places.toArray[·]?)) (idx := ps.toList.map (·.1)) (cells := z) hcs (by have := mapM_map hqs; simpa [List.map_map, Function.comp_def] using this) hx hnt hz0.1 (by simpa using hz0.2)
        have hb : C.P.built t (ps.map fun (i, x) => (i, a.eval x)).toList = some cells := by
          simp only [Program.built, hit, hu, hz, hpl, Value.cells, Array.toList_map]
          rw [zip_parts ps.toList a.eval]
          exact h1
        refine ran_val h hd ⟨.agg cells, run_build w t _ cells hb, ⟨cells, rfl, h3, h2⟩⟩ hr
      · cases hc
    · cases hc
  · cases hc

set_option maxHeartbeats 1000000 in
theorem lit_sound {t : TypeId} {n : Nat} {ps : Array (Nat × Operand)} {ao : AOp} {xs : List Operand} {vs : List V} {p : Prop} {e : Eff} {dd : Nat} (hc : compOp C.P (.buildSlice t n ps) = some (ao, xs)) (h : SR C B S g s a w) (hd : dstOk B.nt d = true)
    (hx : VRl S g vs (xs.map a.eval)) (ha : ao.act dd vs = some (p, e)) (hp : p)
    (hr : r = (Instr.buildSlice t n (ps.map fun (i, x) => (i, a.eval x)) >>= fun u => pure (.value u) : Sem Next).run C.P w) : Ran C B g s a w d r e := by
  simp only [compOp] at hc
  split at hc
  · rename_i e0 ht
    split at hc
    · rename_i i hi
      split at hc
      · split at hc <;> try (cases hc; done)
        rename_i z hz
        split at hc <;> try (cases hc; done)
        rename_i zv hzv
        split at hc <;> try (cases hc; done)
        rename_i hcond
        obtain ⟨hidx, hn, hs1⟩ := hcond
        simp only [Option.some.injEq, Prod.mk.injEq] at hc
        obtain ⟨rfl, rfl⟩ := hc
        obtain ⟨cs, hput, rfl, rfl⟩ := act_litp_inv ha
        have hZ : VRs S g (List.replicate n zv) ((Array.range n).map fun j => (#[z] : Array Value)[j % (#[z] : Array Value).size]!).toList := by
          rw [mapZ]; exact VRs_rep (cS_ok hzv S g) n
        have hnt : ∀ x ∈ vs, ∀ us, x ≠ .tuple us := fun x hx us e => by
          have := List.all_eq_true.1 hp x hx
          rw [e] at this
          simp [elemNt] at this
        obtain ⟨cells, h1, h2, h3⟩ := fill_put (place := fun j => some (j * i.size, i.size)) (idx := List.range' 0 n) hput (by
          rw [hs1, List.map_map]
          apply List.map_congr_left
          intro j _
          simp) hx hnt hZ (by simp)
        refine Ran.newsl (us := cells.toList) (E := e0) h hd h2 (by simpa using h3) ?_
        rw [hr]
        unfold Instr.buildSlice
        have hbig' : ¬ (n * i.size > 2 ^ 24) := by rw [hs1]; omega
        have hfill : Instr.fill (fun j => some (j * i.size, i.size)) ((Array.range n).map fun j => (#[z] : Array Value)[j % (#[z] : Array Value).size]!) (ps.map fun (j, x) => (j, a.eval x)).toList = some cells := by
          rw [Array.toList_map, zip_parts ps.toList a.eval, hidx]
          exact h1
        by_cases h0 : n = 0
        · subst h0
          simp only [Sem.run_bind, run_underlying ht, run_sizeOf' hi, Result.andThen_ok, hbig', if_false, Sem.run_pure]
          simp only [Nat.zero_mul, if_true, Sem.run_pure, Result.andThen_ok, Sem.run_bind]
          have h5 : ((Array.range 0).map fun j => (#[] : Array Value)[j % (#[] : Array Value).size]!) = ((Array.range 0).map fun j => (#[z] : Array Value)[j % (#[z] : Array Value).size]!) := by simp
          rw [h5, hfill]
          simp [newRow, World.alloc_eq]
        · have h0' : ¬ (n * i.size = 0) := by rw [hs1]; omega
          simp only [Sem.run_bind, run_underlying ht, run_sizeOf' hi, Result.andThen_ok, hbig', if_false, h0', zeroValue, typeInfo, run_program, hi, hz, Sem.run_pure]
          rw [cS_cells hzv]
          have h6 : n * i.size = n := by rw [hs1]; omega
          rw [h6] at *
          rw [hfill]
          simp [newRow, World.alloc_eq]
      split at hc
      · rename_i hcond
        obtain ⟨hidx, hbig, hk0, hz⟩ := hcond
        obtain ⟨z, hz⟩ := Option.isSome_iff_exists.1 hz
        simp only [Option.some.injEq, Prod.mk.injEq] at hc
        obtain ⟨rfl, rfl⟩ := hc
        have ha' : p = ((vs.map V.strip).all (fun x => x.cells.length = i.size && elemOk x && x.idf) = true) ∧ e = .lit dd e0 i.size (vs.map V.strip) := by
          cases vs <;> simp only [AOp.act, Option.some.injEq, Prod.mk.injEq] at ha <;> exact ⟨ha.1.symm, ha.2.symm⟩
        obtain ⟨rfl, rfl⟩ := ha'
        have hlen : vs.length = n := by
          have h1 := hx.len
          have h2 := congrArg List.length hidx
          simp at h1 h2
          omega
        have hx' := hx.strip
        generalize hvs : vs.map V.strip = ys at *
        have hyl : ys.length = n := by rw [← hvs]; simpa using hlen
        have hall : ∀ x ∈ ys, x.cells.length = i.size ∧ elemOk x = true ∧ x.idf = true := fun x hx => by
          have := List.all_eq_true.1 hp x hx
          simpa [Bool.and_eq_true, and_assoc] using this
        have hsz : ∀ v ∈ (ps.toList.map (·.2)).map a.eval, v.cells.size = i.size := fun v hv => by
          obtain ⟨x, hxm, hr⟩ := hx'.mem hv
          have := hall x hxm
          rw [hr.cells_size (elemOk_nt this.2.1)]; exact this.1
        have hmax : ys.length ≤ maxLen := by
          rw [hyl]; simp only [maxLen]
          have : n * 1 ≤ n * i.size := Nat.mul_le_mul_left _ (by omega)
          omega
        have key : ∀ Z : Array Value, Z.size = n * i.size → ∃ cells : Array Value, Instr.fill (fun j => some (j * i.size, i.size)) Z (ps.map fun (j, x) => (j, a.eval x)).toList = some cells ∧
            cells.toList.length = ys.length * i.size ∧ VRe S i.size ys cells.toList := fun Z hZ => by
          obtain ⟨cells, h1, h2, _, h4⟩ := fill_dense (S := S) (g := g) (k := i.size) (xs := ys) 0 (cells := Z) hx' (fun x hx => (hall x hx).2.2) hsz (by rw [hZ, hyl]; simp)
          refine ⟨cells, ?_, by rw [Array.length_toList, h2, hZ, hyl], by simpa using h4⟩
          rw [Array.toList_map, zip_parts ps.toList a.eval, hidx]
          rw [hyl] at h1
          exact h1
        have hbig' : ¬ (n * i.size > 2 ^ 24) := by omega
        by_cases h0 : n * i.size = 0
        · obtain ⟨cells, h1, h2, h3⟩ := key ((Array.range (n * i.size)).map fun j => (#[] : Array Value)[j % (#[] : Array Value).size]!) (by simp)
          refine Ran.lit h hd h3 h2 hmax ?_
          rw [hr]
          unfold Instr.buildSlice
          simp only [Sem.run_bind, run_underlying ht, run_sizeOf' hi, Result.andThen_ok, hbig', if_false, Sem.run_pure]
          simp only [h0, if_true, Sem.run_pure, Result.andThen_ok, Sem.run_bind] at h1 ⊢
          rw [h1]
          simp [newRow, hyl, World.alloc_eq]
        · obtain ⟨cells, h1, h2, h3⟩ := key ((Array.range (n * i.size)).map fun j => z.cells[j % z.cells.size]!) (by simp)
          refine Ran.lit h hd h3 h2 hmax ?_
          rw [hr]
          unfold Instr.buildSlice
          simp only [Sem.run_bind, run_underlying ht, run_sizeOf' hi, Result.andThen_ok, hbig', if_false, h0, zeroValue, typeInfo, run_program, hi, hz, Sem.run_pure]
          rw [h1]
          simp [newRow, hyl, World.alloc_eq]
      · cases hc
    · cases hc
  · cases hc

theorem len_str {t ty : TypeId} {x : Operand} {v : V} {p : Prop} {e : Eff} {dd : Nat} (ht : C.P.underlying t = some .string) (h : SR C B S g s a w) (hd : dstOk B.nt d = true) (hv : VR S g v (a.eval x))
    (ha : AOp.slen.act dd [v] = some (p, e)) (_hp : p) (hr : r = (Builtin.len_ #[t] ty #[a.eval x] >>= fun u => pure (.value u) : Sem Next).run C.P w) : Ran C B g s a w d r e := by
  cases v <;> simp only [AOp.act, Option.some.injEq, Prod.mk.injEq, reduceCtorEq] at ha
  obtain ⟨rfl, rfl⟩ := ha
  rename_i l
  refine ran_val h hd ⟨.int .i64 l.length, ?_, rfl⟩ hr
  rw [show a.eval x = _ from hv]
  have : (⟨l.toArray⟩ : ByteArray).size = l.length := rfl
  simp [Builtin.len_, run_underlying ht, goInt, this]

theorem len_sl {t ty e0 : TypeId} {x : Operand} {v : V} {p : Prop} {e : Eff} {dd : Nat} (ht : C.P.underlying t = some (.slice e0)) (h : SR C B S g s a w) (hd : dstOk B.nt d = true) (hv : VR S g v (a.eval x))
    (ha : AOp.len.act dd [v] = some (p, e)) (_hp : p) (hr : r = (Builtin.len_ #[t] ty #[a.eval x] >>= fun u => pure (.value u) : Sem Next).run C.P w) : Ran C B g s a w d r e := by
  cases v <;> try (simp [AOp.act] at ha; done)
  · rename_i u
    obtain ⟨hv, _⟩ := hv
    subst hv
    have hcase : (∃ x0, a.eval x = .slice none x0 0) ∨ True := .inr trivial
    generalize a.eval x = q at *
    unfold AOp.act at ha
    split at ha <;> try (cases ha; done)
    all_goals (rename_i h0 h1; first | (cases h0; done) | (cases h1; done) | skip)
    all_goals (simp only [Option.some.injEq, Prod.mk.injEq] at ha; obtain ⟨rfl, rfl⟩ := ha)
    all_goals (first | (cases h1) | skip)
    refine ran_val h hd ⟨.int .i64 0, ?_, rfl⟩ hr
    simp [Builtin.len_, run_underlying ht, goInt]
  · simp only [AOp.act, Option.some.injEq, Prod.mk.injEq] at ha
    obtain ⟨rfl, rfl⟩ := ha
    exact ran_val h hd ⟨_, ok_len ht hv, rfl⟩ hr
  · simp only [AOp.act, Option.some.injEq, Prod.mk.injEq] at ha
    obtain ⟨rfl, rfl⟩ := ha
    exact ran_val h hd ⟨_, ok_lens ht hv, rfl⟩ hr

theorem act_app {e k bytes dd : Nat} {v u : V} {p : Prop} {ef : Eff} (ha : (AOp.app e k bytes).act dd [v, u] = some (p, ef)) :
    ∃ tk ys, u = .sl tk k ys ∧
      ((∃ n xs, v = .sl (some n) k xs ∧ p = (ys.all elemOk = true ∧ xs.length + ys.length ≤ 1099511627776 ∧ (xs.length + ys.length) * bytes ≤ 140737488355328) ∧ ef = .app n e k xs.length (xs ++ ys)) ∨
       (v = .raw (.slice none 0 0) ∧ p = (ys.all elemOk = true ∧ ys.length ≤ 1099511627776 ∧ ys.length * bytes ≤ 140737488355328) ∧ ef = .appnil dd e k ys)) := by
  unfold AOp.act at ha
  split at ha <;> try (cases ha; done)
  all_goals (try (rename_i heq1 heq2; simp only [reduceCtorEq] at heq1; done))
  all_goals (try (rename_i heq1 heq2; simp only [List.cons.injEq, reduceCtorEq, and_true] at heq2; done))
  all_goals (rename_i heq1 heq2; simp only [AOp.app.injEq] at heq1; obtain ⟨rfl, rfl, rfl⟩ := heq1; simp only [List.cons.injEq, and_true] at heq2; obtain ⟨rfl, rfl⟩ := heq2; split at ha <;> try (cases ha; done))
  · rename_i hk
    obtain ⟨rfl, rfl⟩ := hk
    simp only [Option.some.injEq, Prod.mk.injEq] at ha
    obtain ⟨rfl, rfl⟩ := ha
    exact ⟨_, _, rfl, .inl ⟨_, _, rfl, rfl, rfl⟩⟩
  · rename_i hk
    subst hk
    simp only [Option.some.injEq, Prod.mk.injEq] at ha
    obtain ⟨rfl, rfl⟩ := ha
    exact ⟨_, _, rfl, .inr ⟨rfl, rfl, rfl⟩⟩

theorem act_apps {e bytes dd : Nat} {v u : V} {p : Prop} {ef : Eff} (ha : (AOp.apps e bytes).act dd [v, u] = some (p, ef)) :
    ∃ l, u = .str l ∧
      ((∃ n xs, v = .sl (some n) 1 xs ∧ p = (xs.length + l.length ≤ 1099511627776 ∧ (xs.length + l.length) * bytes ≤ 140737488355328) ∧ ef = .app n e 1 xs.length (xs ++ l.map encB)) ∨
       (v = .raw (.slice none 0 0) ∧ p = (l.length ≤ 1099511627776 ∧ l.length * bytes ≤ 140737488355328) ∧ ef = .appnil dd e 1 (l.map encB))) := by
  unfold AOp.act at ha
  split at ha <;> try (cases ha; done)
  all_goals (try (rename_i heq1 heq2; simp only [reduceCtorEq] at heq1; done))
  all_goals (try (rename_i heq1 heq2; simp only [List.cons.injEq, reduceCtorEq, and_true] at heq2; done))
  all_goals (rename_i heq1 heq2; simp only [AOp.apps.injEq] at heq1; obtain ⟨rfl, rfl⟩ := heq1; simp only [List.cons.injEq, and_true] at heq2; obtain ⟨rfl, rfl⟩ := heq2)
  · split at ha <;> try (cases ha; done)
    rename_i hk
    subst hk
    simp only [Option.some.injEq, Prod.mk.injEq] at ha
    obtain ⟨rfl, rfl⟩ := ha
    exact ⟨_, rfl, .inl ⟨_, _, rfl, rfl, rfl⟩⟩
  · simp only [Option.some.injEq, Prod.mk.injEq] at ha
    obtain ⟨rfl, rfl⟩ := ha
    exact ⟨_, rfl, .inr ⟨rfl, rfl, rfl⟩⟩

set_option maxHeartbeats 1000000 in
theorem call_sound {c : Call} {ty : TypeId} {ao : AOp} {xs : List Operand} {vs : List V} {p : Prop} {e : Eff} {dd : Nat} (hc : compOp C.P (.call c) = some (ao, xs)) (h : SR C B S g s a w) (hd : dstOk B.nt d = true)
    (hx : VRl S g vs (xs.map a.eval)) (ha : ao.act dd vs = some (p, e)) (hp : p)
    (hr : r = ((do let d ← resolve a.eval c ty; invoke d.target d.args) : Sem Next).run C.P w) : Ran C B g s a w d r e := by
  obtain ⟨callee, args, argTypes⟩ := c
  cases callee with
  | value f =>
    cases f with
    | func f =>
      simp only [compOp] at hc
      split at hc
      · rename_i hib
        simp only [Option.some.injEq, Prod.mk.injEq] at hc
        obtain ⟨rfl, rfl⟩ := hc
        obtain ⟨l, c, rfl, rfl⟩ := act_ibs_inv ha
        match hargs : args.toList, hx with
        | [x, y], .cons h1 (.cons h2 .nil) =>
          have hae : args.map a.eval = #[a.eval x, a.eval y] := by apply Array.ext'; simp [hargs]
          refine Ran.ret h hd (v' := .int .i64 (Lib.indexByte l c.toNat.toUInt8)) ?_ rfl
          have hrun : ((do let d ← resolve a.eval { callee := .value (.func f), args := args, argTypes := argTypes } ty; invoke d.target d.args) : Sem Next).run C.P w = (callFunc f (args.map a.eval)).run C.P w := by simp [resolve, Act.eval, Deferred.ofValue, invoke]
          rw [hr, hrun, hae, show a.eval x = _ from h1, show a.eval y = _ from h2, ibs_run hib l c w]
      · cases hc
    | _ => simp [compOp] at hc
  | invoke f m => simp [compOp] at hc
  | builtin b =>
    have hr' : r = (builtin b argTypes ty (args.map fun | .const _ => true | _ => false) (args.map a.eval)).run C.P w := by
      rw [hr]; simp only [resolve, invoke, Sem.run_bind, Sem.run_pure, Result.andThen_ok]; congr
    clear hr
    cases b <;> try (simp [compOp] at hc; done)
    case append =>
      simp only [compOp] at hc
      split at hc
      · rename_i x y t t' hargs hts
        split at hc
        · rename_i e0 ht
          split at hc
          · rename_i i hi
            split at hc
            · rename_i z hz
              split at hc
              · rename_i hcond
                obtain ⟨rfl, hzs⟩ := hcond
                simp only [Option.some.injEq, Prod.mk.injEq] at hc
                obtain ⟨rfl, rfl⟩ := hc
                obtain ⟨v, u, rfl, hv, hu⟩ := VRl.inv2 hx
                have hae : args.map a.eval = #[a.eval x, a.eval y] := by
                  apply Array.ext'; simp [hargs]
                have hte : argTypes = #[t, t] := by apply Array.ext'; simp [hts]
                obtain ⟨tk2, ys, rfl, h2⟩ := act_app ha
                rcases h2 with ⟨n, xs, rfl, rfl, rfl⟩ | ⟨rfl, rfl, rfl⟩
                · refine Ran.app h hd hv hu hp.1 t ty i z i.bytes ht hi hz rfl rfl hzs (by simp only [maxLen]; omega) hp.2.2 ?_
                  rw [hr', hae, hte]
                  simp [builtin]
                · refine Ran.appnil h hd hu hp.1 t ty i z i.bytes ht hi hz rfl rfl hzs (by simp only [maxLen]; omega) hp.2.2 ?_
                  rw [hr', hae, hte, hv.1]
                  simp [builtin]
              · split at hc
                · rename_i hcond
                  obtain ⟨ht2', hzs, hs1⟩ := hcond
                  have ht2 : C.P.underlying t' = some .string := by unfold isStrD at ht2'; split at ht2'; assumption; cases ht2'
                  simp only [Option.some.injEq, Prod.mk.injEq] at hc
                  obtain ⟨rfl, rfl⟩ := hc
                  obtain ⟨v, u, rfl, hv, hu⟩ := VRl.inv2 hx
                  have hae : args.map a.eval = #[a.eval x, a.eval y] := by
                    apply Array.ext'; simp [hargs]
                  have hte : argTypes = #[t, t'] := by apply Array.ext'; simp [hts]
                  obtain ⟨l, rfl, h2⟩ := act_apps ha
                  rcases h2 with ⟨n, xs, rfl, rfl, rfl⟩ | ⟨rfl, rfl, rfl⟩
                  · refine Ran.apps h hd hv t t' ty i z i.bytes ht ht2 hi hz hs1 rfl hzs (by simp only [maxLen]; omega) hp.2 ?_
                    rw [hr', hae, hte, show a.eval y = _ from hu]
                    simp [builtin]
                  · refine Ran.appnils h hd t t' ty i z i.bytes ht ht2 hi hz hs1 rfl hzs (by simp only [maxLen]; omega) hp.2 ?_
                    rw [hr', hae, hte, hv.1, show a.eval y = _ from hu]
                    simp [builtin]
                · cases hc
            · cases hc
          · cases hc
        · cases hc
      · cases hc
    case len =>
      simp only [compOp] at hc
      split at hc
      · rename_i x t hargs hts
        have hae : args.map a.eval = #[a.eval x] := by apply Array.ext'; simp [hargs]
        have hte : argTypes = #[t] := by apply Array.ext'; simp [hts]
        have hr2 : r = (Builtin.len_ #[t] ty #[a.eval x] >>= fun u => pure (.value u) : Sem Next).run C.P w := by rw [hr', hae, hte]; simp [builtin]
        split at hc
        · rename_i ht
          simp only [Option.some.injEq, Prod.mk.injEq] at hc
          obtain ⟨rfl, rfl⟩ := hc
          obtain ⟨v, rfl, hv⟩ := VRl.inv1 hx
          exact len_str ht h hd hv ha hp hr2
        · rename_i e0 ht
          simp only [Option.some.injEq, Prod.mk.injEq] at hc
          obtain ⟨rfl, rfl⟩ := hc
          obtain ⟨v, rfl, hv⟩ := VRl.inv1 hx
          exact len_sl ht h hd hv ha hp hr2
        · cases hc
      · cases hc
    case max =>
      simp only [compOp] at hc
      split at hc
      · rename_i x y hargs
        simp only [Option.some.injEq, Prod.mk.injEq] at hc
        obtain ⟨rfl, rfl⟩ := hc
        have hae : args.map a.eval = #[a.eval x, a.eval y] := by apply Array.ext'; simp [hargs]
        obtain ⟨v, u, rfl, hv, hu⟩ := VRl.inv2 hx
        cases v <;> cases u <;> simp only [AOp.act, reduceCtorEq] at ha
        split at ha
        · rename_i hk
          subst hk
          simp only [Option.some.injEq, Prod.mk.injEq] at ha
          obtain ⟨rfl, rfl⟩ := ha
          rename_i k m n
          refine ran_val h hd (m := Builtin.max_ argTypes ty (args.map a.eval)) ⟨_, ?_, rfl⟩ (by rw [hr']; simp [builtin])
          rw [hae, show a.eval x = _ from hv, show a.eval y = _ from hu]
          simp [Builtin.max_, Builtin.max2]
        · cases ha
      · cases hc
    case min =>
      simp only [compOp] at hc
      split at hc
      · rename_i x y hargs
        simp only [Option.some.injEq, Prod.mk.injEq] at hc
        obtain ⟨rfl, rfl⟩ := hc
        have hae : args.map a.eval = #[a.eval x, a.eval y] := by apply Array.ext'; simp [hargs]
        obtain ⟨v, u, rfl, hv, hu⟩ := VRl.inv2 hx
        cases v <;> cases u <;> simp only [AOp.act, reduceCtorEq] at ha
        split at ha
        · rename_i hk
          subst hk
          simp only [Option.some.injEq, Prod.mk.injEq] at ha
          obtain ⟨rfl, rfl⟩ := ha
          rename_i k m n
          refine ran_val h hd (m := Builtin.min_ argTypes ty (args.map a.eval)) ⟨_, ?_, rfl⟩ (by rw [hr']; simp [builtin])
          rw [hae, show a.eval x = _ from hv, show a.eval y = _ from hu]
          simp [Builtin.min_, Builtin.min2]
        · cases ha
      · cases hc

theorem act_b2s {dd : Nat} {v : V} {p : Prop} {ef : Eff} (ha : AOp.b2s.act dd [v] = some (p, ef)) :
    (∃ tk l, v = .sl tk 1 (l.map encB) ∧ ef = .ret (.str l)) ∨ (v = .raw (.slice none 0 0) ∧ ef = .ret (.str [])) := by
  unfold AOp.act at ha
  split at ha <;> try (cases ha; done)
  all_goals (try (rename_i heq1 heq2; simp only [reduceCtorEq] at heq1; done))
  all_goals (try (rename_i heq1 heq2; simp only [List.cons.injEq, reduceCtorEq, and_true] at heq2; done))
  · rename_i heq1 heq2
    simp only [List.cons.injEq, and_true] at heq2
    subst heq2
    split at ha
    · rename_i hk
      subst hk
      simp only [Option.map_eq_some_iff, Prod.mk.injEq] at ha
      obtain ⟨l, hl, rfl, rfl⟩ := ha
      exact .inl ⟨_, l, by rw [toB_some hl], rfl⟩
    · cases ha
  · rename_i heq1 heq2
    simp only [List.cons.injEq, and_true] at heq2
    subst heq2
    simp only [Option.some.injEq, Prod.mk.injEq] at ha
    exact .inr ⟨rfl, ha.2.symm⟩

set_option maxHeartbeats 2000000 in
/-- An operation that the compiler takes does what its effect says. -/
theorem op_sound {o : Oper} {ao : AOp} {xs : List Operand} {vs : List V} {p : Prop} {e : Eff} {dd : Nat} (hc : compOp C.P o.op = some (ao, xs)) (h : SR C B S g s a w) (hd : dstOk B.nt o.dst = true)
    (hx : VRl S g vs (xs.map a.eval)) (ha : ao.act dd vs = some (p, e)) (hp : p) : Ran C B g s a w o.dst ((execOp a.eval o).run C.P w) e := by
  obtain ⟨dst, op, ty, pos, after, guard⟩ := o
  simp only at hc hd ⊢
  cases op with
  | move x =>
    simp only [compOp, Option.some.injEq, Prod.mk.injEq] at hc
    obtain ⟨rfl, rfl⟩ := hc
    obtain ⟨v, rfl, hv⟩ := VRl.inv1 hx
    simp only [AOp.act, Option.some.injEq, Prod.mk.injEq] at ha
    obtain ⟨rfl, rfl⟩ := ha
    exact Ran.ret h hd rfl hv
  | assign x =>
    simp only [compOp, Option.some.injEq, Prod.mk.injEq] at hc
    obtain ⟨rfl, rfl⟩ := hc
    obtain ⟨v, rfl, hv⟩ := VRl.inv1 hx
    simp only [AOp.act, Option.some.injEq, Prod.mk.injEq] at ha
    obtain ⟨rfl, rfl⟩ := ha
    exact Ran.ret h hd rfl hv
  | pick c x y =>
    simp only [compOp, Option.some.injEq, Prod.mk.injEq] at hc
    obtain ⟨rfl, rfl⟩ := hc
    obtain ⟨vc, vx, vy, rfl, h1, h2, h3⟩ := VRl.inv3 hx
    cases vc <;> simp only [AOp.act, Option.some.injEq, Prod.mk.injEq, reduceCtorEq] at ha
    obtain ⟨rfl, rfl⟩ := ha
    rename_i b
    refine ran_val h hd (m := do pure (if ← asBool (a.eval c) then a.eval x else a.eval y)) ?_ (by simp [execOp])
    rw [show a.eval c = .bool b from h1]
    cases b
    · exact ⟨_, rfl, h3⟩
    · exact ⟨_, rfl, h2⟩
  | alloc e0 =>
    simp only [compOp] at hc
    split at hc
    · rename_i i hi
      split at hc
      · rename_i z hz
        simp only [Option.some.injEq, Prod.mk.injEq] at hc
        obtain ⟨rfl, rfl⟩ := hc
        obtain ⟨v, rfl, hv⟩ := VRl.inv1 hx
        simp only [AOp.act, Option.some.injEq, Prod.mk.injEq] at ha
        obtain ⟨rfl, rfl⟩ := ha
        refine Ran.new h hd (t := e0) hv (elemOk_nt hp) ?_
        simp [execOp, Instr.alloc, zeroValue, typeInfo, hi, hz, Act.eval]
      · cases hc
    · cases hc
  | box e0 x =>
    simp only [compOp] at hc
    split at hc
    · simp only [Option.some.injEq, Prod.mk.injEq] at hc
      obtain ⟨rfl, rfl⟩ := hc
      obtain ⟨v, rfl, hv⟩ := VRl.inv1 hx
      simp only [AOp.act, Option.some.injEq, Prod.mk.injEq] at ha
      obtain ⟨rfl, rfl⟩ := ha
      refine Ran.sealb h hd (t := e0) hv (elemOk_nt hp.1) hp.2 ?_
      simp [execOp, Instr.box]
    · simp only [Option.some.injEq, Prod.mk.injEq] at hc
      obtain ⟨rfl, rfl⟩ := hc
      obtain ⟨v, rfl, hv⟩ := VRl.inv1 hx
      simp only [AOp.act, Option.some.injEq, Prod.mk.injEq] at ha
      obtain ⟨rfl, rfl⟩ := ha
      refine Ran.new h hd (t := e0) hv (elemOk_nt hp) ?_
      simp [execOp, Instr.box]
  | load t x =>
    simp only [compOp] at hc
    split at hc
    · rename_i i dd' hi hu
      split at hc
      · rename_i hag
        simp only [Option.some.injEq, Prod.mk.injEq] at hc
        obtain ⟨rfl, rfl⟩ := hc
        obtain ⟨v, rfl, hv⟩ := VRl.inv1 hx
        have h1 : isAggD dd' = false → i.size = 1 := fun e => hag.resolve_left (by simp [e])
        cases v <;> simp only [AOp.act, Option.some.injEq, Prod.mk.injEq, reduceCtorEq] at ha
        · obtain ⟨rfl, rfl⟩ := ha
          exact Ran.rd h hd (ρ := a.eval) (x := x) hi hu rfl rfl h1 rfl hv (by simp [execOp])
        · obtain ⟨rfl, rfl⟩ := ha
          exact ran_val h hd (ok_loadcp h.good hi hu rfl rfl h1 hv hp) (by simp [execOp])
      · cases hc
    · cases hc
  | store t x y =>
    simp only [compOp] at hc
    split at hc
    · rename_i i hi
      simp only [Option.some.injEq, Prod.mk.injEq] at hc
      obtain ⟨rfl, rfl⟩ := hc
      obtain ⟨v, u, rfl, hv, hu⟩ := VRl.inv2 hx
      cases v <;> simp only [AOp.act, Option.some.injEq, Prod.mk.injEq, reduceCtorEq] at ha
      obtain ⟨rfl, rfl⟩ := ha
      have hnt := elemOk_nt hp.2
      refine Ran.wr h hd hi (by rw [hu.cells_size hnt]; exact hp.1.symm) hv hu hnt ?_
      simp [execOp]
    · cases hc
  | nilCheck x =>
    simp only [compOp, Option.some.injEq, Prod.mk.injEq] at hc
    obtain ⟨rfl, rfl⟩ := hc
    obtain ⟨v, rfl, hv⟩ := VRl.inv1 hx
    cases v <;> simp only [AOp.act, Option.some.injEq, Prod.mk.injEq, reduceCtorEq] at ha
    · obtain ⟨rfl, rfl⟩ := ha
      have hv' := hv
      obtain ⟨b, hb, he⟩ := hv'
      exact Ran.ret h hd (v' := a.eval x) (by simp [execOp, he]) hv
    · obtain ⟨rfl, rfl⟩ := ha
      have hv' := hv
      obtain ⟨b, j, q, hq, he, hr⟩ := hv'
      exact Ran.ret h hd (v' := a.eval x) (by simp [execOp, he]) hv
  | binOp op t x y yt =>
    have hrun : (execOp a.eval { dst := dst, op := .binOp op t x y yt, type := ty, pos := pos, after := after, guard := guard }).run C.P w =
      ((do eqGuard op t x y (a.eval x) (a.eval y); binOp op t (a.eval x) (a.eval y) : Sem Value) >>= fun u => pure (.value u) : Sem Next).run C.P w := by simp [execOp]
    exact bin_sound hc h hd hx ha hp hrun
  | unOp op t x =>
    simp only [compOp, Option.some.injEq, Prod.mk.injEq] at hc
    obtain ⟨rfl, rfl⟩ := hc
    obtain ⟨v, rfl, hv⟩ := VRl.inv1 hx
    cases op <;> cases v <;> simp only [AOp.act, Option.some.injEq, Prod.mk.injEq, reduceCtorEq] at ha
    · obtain ⟨rfl, rfl⟩ := ha
      exact ran_val h hd (m := Op.unary .neg (a.eval x)) ⟨_, by rw [show a.eval x = _ from hv]; rfl, rfl⟩ (by simp [execOp])
    · obtain ⟨rfl, rfl⟩ := ha
      exact ran_val h hd (m := Op.unary .not (a.eval x)) ⟨_, by rw [show a.eval x = _ from hv]; rfl, rfl⟩ (by simp [execOp])
  | convert sr ds x =>
    simp only [compOp] at hc
    split at hc
    · rename_i k1 k2 h1 h2
      simp only [Option.some.injEq, Prod.mk.injEq] at hc
      obtain ⟨rfl, rfl⟩ := hc
      obtain ⟨v, rfl, hv⟩ := VRl.inv1 hx
      cases v <;> simp only [AOp.act, Option.some.injEq, Prod.mk.injEq, reduceCtorEq] at ha
      obtain ⟨rfl, rfl⟩ := ha
      exact ran_val h hd (m := convert sr ds (a.eval x)) ⟨_, by rw [show a.eval x = _ from hv]; simp [convert, run_underlying h1, run_underlying h2, Conv.intToInt], rfl⟩ (by simp [execOp])
    · rename_i h1 h2
      simp only [Option.some.injEq, Prod.mk.injEq] at hc
      obtain ⟨rfl, rfl⟩ := hc
      obtain ⟨v, rfl, hv⟩ := VRl.inv1 hx
      cases v <;> simp only [AOp.act, Option.some.injEq, Prod.mk.injEq, reduceCtorEq] at ha
      obtain ⟨rfl, rfl⟩ := ha
      exact ran_val h hd (m := convert sr ds (a.eval x)) ⟨_, by rw [show a.eval x = _ from hv]; simp [convert, run_underlying h1, run_underlying h2], rfl⟩ (by simp [execOp])
    · rename_i e0 h1 h2
      split at hc
      · rename_i h3
        simp only [Option.some.injEq, Prod.mk.injEq] at hc
        obtain ⟨rfl, rfl⟩ := hc
        obtain ⟨v, rfl, hv⟩ := VRl.inv1 hx
        cases v <;> simp only [AOp.act, Option.some.injEq, Prod.mk.injEq, reduceCtorEq] at ha
        obtain ⟨rfl, rfl⟩ := ha
        refine Ran.s2b h hd h1 h2 h3 ?_
        simp only [execOp, show a.eval x = _ from hv]
      · cases hc
    · rename_i e0 h1 h2
      split at hc
      · rename_i h3
        simp only [Option.some.injEq, Prod.mk.injEq] at hc
        obtain ⟨rfl, rfl⟩ := hc
        obtain ⟨v, rfl, hv⟩ := VRl.inv1 hx
        obtain ⟨tk, l, rfl, rfl⟩ | ⟨rfl, rfl⟩ := act_b2s ha
        · exact Ran.b2s h hd h1 h2 h3 hv (by simp [execOp])
        · refine Ran.ret h hd (v' := .string ⟨#[]⟩) ?_ rfl
          obtain ⟨hv, _⟩ := hv
          simp only [execOp, Sem.run_bind, hv, run_convert_bytes_nil w sr e0 h1 h3 0 0 ds h2]
          rfl
      · cases hc
    · cases hc
  | makeInterface t x =>
    simp only [compOp] at hc
    split at hc
    · rename_i dd' hu
      split at hc
      · cases hc
      · rename_i hni
        simp only [Option.some.injEq, Prod.mk.injEq] at hc
        obtain ⟨rfl, rfl⟩ := hc
        obtain ⟨v, rfl, hv⟩ := VRl.inv1 hx
        simp only [AOp.act, Option.some.injEq, Prod.mk.injEq] at ha
        obtain ⟨rfl, rfl⟩ := ha
        refine ran_val h hd (m := Instr.makeInterface t (a.eval x)) ⟨.iface t (a.eval x), ?_, ⟨_, rfl, hv⟩⟩ (by simp [execOp])
        cases dd' <;> simp [isIfaceD] at hni <;> simp [Instr.makeInterface, run_underlying hu]
    · cases hc
  | makeFunc f fs cs =>
    simp only [compOp, Option.some.injEq, Prod.mk.injEq] at hc
    obtain ⟨rfl, rfl⟩ := hc
    have hl := hx.len
    cases vs <;> simp only [AOp.act, Option.some.injEq, Prod.mk.injEq] at ha <;> obtain ⟨rfl, rfl⟩ := ha <;>
      refine ran_val h hd (m := Instr.makeFunc f (fs.map a.eval) (cs.map a.eval)) ⟨_, rfl, ⟨_, _, rfl, ?_, ?_, ?_, ?_⟩⟩ (by simp [execOp])
    all_goals simp only [List.length_map, List.length_append, Array.length_toList, List.length_cons, List.length_nil] at hl
    all_goals first
      | (simp only [Array.size_map, List.length_take, List.length_drop, List.length_cons, List.length_nil]; omega)
      | (have hv := hx.vrs
         simp only [List.map_append] at hv
         first
           | (have := VRs.take hv fs.size; rw [List.take_left' (by simp)] at this; simpa using this)
           | (have := VRs.drop hv fs.size; rw [List.drop_left' (by simp)] at this; simpa using this))
  | slice t x lo hi mx =>
    cases mx with
    | some m => simp [compOp] at hc
    | none =>
      have hrun : (execOp a.eval { dst := dst, op := .slice t x lo hi none, type := ty, pos := pos, after := after, guard := guard }).run C.P w =
        (Instr.sliceAt t (a.eval x) (lo.map a.eval) (hi.map a.eval) none >>= fun u => pure (.value u) : Sem Next).run C.P w := by simp [execOp]
      exact slice_sound hc h hd hx ha hp hrun
  | fieldAddr st x f =>
    simp only [compOp] at hc
    split at hc
    · rename_i fs hs
      split at hc
      · rename_i fd hf
        split at hc
        · rename_i i hi
          split at hc
          · cases hc
          · rename_i hn
            simp only [Option.some.injEq, Prod.mk.injEq] at hc
            obtain ⟨rfl, rfl⟩ := hc
            obtain ⟨v, rfl, hv⟩ := VRl.inv1 hx
            cases v <;> simp only [AOp.act, Option.some.injEq, Prod.mk.injEq, reduceCtorEq] at ha
            · obtain ⟨rfl, rfl⟩ := ha
              exact ran_val h hd (ok_faddr hs hf hi hn hv (.inl ⟨_, _, rfl, rfl⟩)) (by simp [execOp])
            · obtain ⟨rfl, rfl⟩ := ha
              exact ran_val h hd (ok_faddr hs hf hi hn hv (.inr ⟨_, _, rfl, rfl⟩)) (by simp [execOp])
        · cases hc
      · cases hc
    · cases hc
  | field st x f =>
    simp only [compOp] at hc
    split at hc
    · rename_i fs hs
      split at hc
      · rename_i fd hf
        split at hc
        · rename_i i dd' hi hu
          split at hc
          · rename_i hag
            simp only [Option.some.injEq, Prod.mk.injEq] at hc
            obtain ⟨rfl, rfl⟩ := hc
            obtain ⟨v, rfl, hv⟩ := VRl.inv1 hx
            have h1 : isAggD dd' = false → i.size = 1 := fun e => hag.resolve_left (by simp [e])
            cases v <;> simp only [AOp.act, Option.some.injEq, Prod.mk.injEq, reduceCtorEq] at ha
            obtain ⟨rfl, rfl⟩ := ha
            exact ran_val h hd (ok_fld hs hf hi hu rfl rfl h1 hv hp) (by simp [execOp])
          · cases hc
        · cases hc
      · cases hc
    · cases hc
  | indexAddr t x i =>
    simp only [compOp] at hc
    split at hc
    · rename_i e0 ht
      simp only [Option.map_eq_some_iff] at hc
      obtain ⟨j, hj, he⟩ := hc
      cases he
      obtain ⟨v, n, rfl, hv, hn⟩ := VRl.inv2 hx
      cases v <;> cases n <;> simp only [AOp.act, reduceCtorEq] at ha
      · split at ha
        · rename_i hk
          simp only [Option.some.injEq, Prod.mk.injEq] at ha
          obtain ⟨rfl, rfl⟩ := ha
          refine ran_val h hd (m := Instr.indexAt t (a.eval x) (a.eval i)) ?_ (by simp [execOp])
          rw [show a.eval i = _ from hn]
          exact ok_idxa ht hj rfl hk hv hp.1 hp.2
        · cases ha
      · split at ha
        · rename_i hk
          simp only [Option.some.injEq, Prod.mk.injEq] at ha
          obtain ⟨rfl, rfl⟩ := ha
          refine ran_val h hd (m := Instr.indexAt t (a.eval x) (a.eval i)) ?_ (by simp [execOp])
          rw [show a.eval i = _ from hn]
          exact ok_idxs ht hj rfl hk hv hp.1 hp.2
        · cases ha
    · rename_i n0 e0 ht
      simp only [Option.map_eq_some_iff] at hc
      obtain ⟨j, hj, he⟩ := hc
      cases he
      obtain ⟨v, n, rfl, hv, hn⟩ := VRl.inv2 hx
      cases v <;> cases n <;> simp only [AOp.act, Option.some.injEq, Prod.mk.injEq, reduceCtorEq] at ha
      · obtain ⟨rfl, rfl⟩ := ha
        refine ran_val h hd (m := Instr.indexAt t (a.eval x) (a.eval i)) ?_ (by simp [execOp])
        obtain ⟨b, hb, he⟩ := hv
        rw [show a.eval i = _ from hn, he]
        exact ⟨.pointer (some ⟨b, _, none⟩), by simp [Instr.indexAt, asIntOf, run_underlying ht, Instr.sureAddr, hp.1, hp.2, run_sizeOf' hj, addr_add0], ⟨b, hb, rfl⟩⟩
      · obtain ⟨rfl, rfl⟩ := ha
        refine ran_val h hd (m := Instr.indexAt t (a.eval x) (a.eval i)) ?_ (by simp [execOp])
        obtain ⟨b, q, pp, hq, he, hr⟩ := hv
        rw [show a.eval i = _ from hn, he]
        exact ⟨.pointer (some ⟨b, _, none⟩), by simp [Instr.indexAt, asIntOf, run_underlying ht, Instr.sureAddr, hp.1, hp.2, run_sizeOf' hj, addr_add0]; rfl, ⟨b, q, pp, hq, by rw [Nat.add_assoc], hr⟩⟩
    · cases hc
  | index t x i =>
    simp only [compOp] at hc
    split at hc
    · rename_i ht
      simp only [Option.some.injEq, Prod.mk.injEq] at hc
      obtain ⟨rfl, rfl⟩ := hc
      obtain ⟨v, n, rfl, hv, hn⟩ := VRl.inv2 hx
      cases v <;> cases n <;> simp only [AOp.act, Option.some.injEq, Prod.mk.injEq, reduceCtorEq] at ha
      obtain ⟨rfl, rfl⟩ := ha
      rename_i l k n
      refine ran_val h hd (m := Instr.index t (a.eval x) (a.eval i)) ?_ (by simp [execOp])
      have hlt : n.toNat < l.length := by omega
      rw [show a.eval i = _ from hn, show a.eval x = _ from hv]
      refine ⟨.int .u8 ((l.getD n.toNat 0).toNat : Int), ?_, rfl⟩
      have hg := ba_get l n.toNat
      rw [List.getElem?_eq_getElem hlt] at hg
      simp only [Instr.index, asIntOf, Sem.run_bind, Sem.run_pure, Result.andThen_ok, run_underlying ht, hp.1, if_true, hg]
      simp [List.getD, List.getElem?_eq_getElem hlt]
    · cases hc
  | extract x i =>
    simp only [compOp, Option.some.injEq, Prod.mk.injEq] at hc
    obtain ⟨rfl, rfl⟩ := hc
    obtain ⟨v, rfl, hv⟩ := VRl.inv1 hx
    cases v <;> simp only [AOp.act, Option.some.injEq, Prod.mk.injEq, reduceCtorEq] at ha
    obtain ⟨rfl, rfl⟩ := ha
    rename_i us
    obtain ⟨ws, he, hsz, hr⟩ := hv
    obtain ⟨u, hu, hru⟩ := hr.get i us[i] (List.getElem?_eq_getElem hp)
    refine ran_val h hd (m := Instr.extract (a.eval x) i) ⟨u, ?_, ?_⟩ (by simp [execOp])
    · rw [he]
      have : ws[i]? = some u := by simpa using hu
      simp [Instr.extract, this]
    · simpa [List.getD, List.getElem?_eq_getElem hp] using hru
  | build t ps =>
    have hrun : (execOp a.eval { dst := dst, op := .build t ps, type := ty, pos := pos, after := after, guard := guard }).run C.P w =
        (Instr.build t (ps.map fun (i, x) => (i, a.eval x)) >>= fun u => pure (.value u) : Sem Next).run C.P w := by simp [execOp]
    exact build_sound hc h hd hx ha hp hrun
  | buildSlice t n ps =>
    have hrun : (execOp a.eval { dst := dst, op := .buildSlice t n ps, type := ty, pos := pos, after := after, guard := guard }).run C.P w =
        (Instr.buildSlice t n (ps.map fun (i, x) => (i, a.eval x)) >>= fun u => pure (.value u) : Sem Next).run C.P w := by simp [execOp]
    exact lit_sound hc h hd hx ha hp hrun
  | call c =>
    have hrun : (execOp a.eval { dst := dst, op := .call c, type := ty, pos := pos, after := after, guard := guard }).run C.P w =
        ((do let d ← resolve a.eval c ty; invoke d.target d.args) : Sem Next).run C.P w := by simp [execOp]
    exact call_sound hc h hd hx ha hp hrun
  | range t x =>
    simp only [compOp] at hc
    split at hc <;> try (cases hc; done)
    · rename_i kt et hm
      simp only [Option.some.injEq, Prod.mk.injEq] at hc
      obtain ⟨rfl, rfl⟩ := hc
      obtain ⟨o, rfl, rfl⟩ := act_rangem_inv ha
      obtain ⟨v1, e1, h1⟩ := VRl.inv1 hx
      cases e1
      exact Ran.newit h hd hm h1 (by simp [execOp])
    · rename_i hm
      simp only [Option.some.injEq, Prod.mk.injEq] at hc
      obtain ⟨rfl, rfl⟩ := hc
      obtain ⟨l, rfl, rfl⟩ := act_ranges_inv ha
      obtain ⟨v1, e1, h1⟩ := VRl.inv1 hx
      cases e1
      exact Ran.newsit h hd hm (by simp [execOp, show a.eval x = _ from h1])
  | next i str =>
    cases str with
    | true =>
      simp only [compOp, Option.some.injEq, Prod.mk.injEq] at hc
      obtain ⟨rfl, rfl⟩ := hc
      obtain ⟨o, rfl, rfl⟩ := act_nexts_inv ha
      obtain ⟨v1, e1, h1⟩ := VRl.inv1 hx
      cases e1
      exact Ran.snxt (ty := ty) h hd h1 (by simp [execOp])
    | false =>
      simp only [compOp, Option.some.injEq, Prod.mk.injEq] at hc
      obtain ⟨rfl, rfl⟩ := hc
      obtain ⟨o, rfl, rfl⟩ := act_nextm_inv ha
      obtain ⟨v1, e1, h1⟩ := VRl.inv1 hx
      cases e1
      exact Ran.nxt (ty := ty) h hd h1 (by simp [execOp])
  | entry i =>
    simp only [compOp, Option.some.injEq, Prod.mk.injEq] at hc
    obtain ⟨rfl, rfl⟩ := hc
    obtain ⟨o, rfl, rfl⟩ := act_entrym_inv ha
    obtain ⟨v1, e1, h1⟩ := VRl.inv1 hx
    cases e1
    exact Ran.ent h hd h1 (by simp [execOp])
  | makeMap t rv =>
    cases rv with
    | none =>
      simp only [compOp, Option.some.injEq, Prod.mk.injEq] at hc
      obtain ⟨rfl, rfl⟩ := hc
      rw [act_mkmap_inv ha]
      exact Ran.newm (t := t) h hd (by simp [execOp])
    | some rv => simp [compOp] at hc
  | lookup t x i ok =>
    simp only [compOp] at hc
    split at hc <;> try (cases hc; done)
    rename_i kt et hm
    split at hc <;> try (cases hc; done)
    rename_i td it htd hit
    split at hc <;> try (cases hc; done)
    rename_i kd z hkd hz
    split at hc <;> try (cases hc; done)
    rename_i zv hzv
    simp only [Option.some.injEq, Prod.mk.injEq] at hc
    obtain ⟨rfl, rfl⟩ := hc
    obtain ⟨o, k, rfl, rfl⟩ := act_mget_inv ha
    obtain ⟨v1, v2, e1, h1, h2⟩ := VRl.inv2 hx
    cases e1
    exact Ran.mrd h hd hm htd hkd hit hz (cV_ok hzv S g) h1 h2 (by simp [execOp])
  | mapUpdate t m k v =>
    simp only [compOp] at hc
    split at hc <;> try (cases hc; done)
    rename_i kt et hm
    split at hc <;> try (cases hc; done)
    rename_i td htd
    split at hc <;> try (cases hc; done)
    rename_i kd hkd
    simp only [Option.some.injEq, Prod.mk.injEq] at hc
    obtain ⟨rfl, rfl⟩ := hc
    obtain ⟨o, k', v', rfl, rfl, rfl⟩ := act_mput_inv ha
    obtain ⟨v1, v2, v3, e1, h1, h2, h3⟩ := VRl.inv3 hx
    cases e1
    exact Ran.mwr h hd hm htd hkd hp h1 h2 h3 (by simp [execOp])
  | _ => simp [compOp] at hc
end
end Go.Abs

