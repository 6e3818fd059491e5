/-
  Regions, code, calls and drawn orders over abstract states. No program. No conditions beyond those in the statements.
-/
import Derived.Test.YtdachjbobngakaaGreatDoorAbsB
namespace Go.Abs
open Go

/-- Items of a region: where it puts its result, under which guard, what it does. -/
inductive AI where
  | op (dst : Option Nat) (gd : Option (Nat × Bool)) (o : AOp) (xs : List AX)
  | call (dst : Option Nat) (gd : Option (Nat × Bool)) (f : FuncId) (xs : List AX)
  | dyn (dst : Option Nat) (gd : Option (Nat × Bool)) (f : AX) (xs : List AX)
  | bad (dst : Option Nat) (gd : Option (Nat × Bool))

def compXs : List Operand → Option (List AX)
  | [] => some []
  | o :: os => match compX o, compXs os with
    | some x, some xs => some (x :: xs)
    | _, _ => none
def aevs (C : Cx) (s : St) : List AX → Option (List V)
  | [] => some []
  | x :: xs => match aev C s x, aevs C s xs with
    | some v, some vs => some (v :: vs)
    | _, _ => none

def isFn (P : Program) (f : FuncId) : Bool :=
  match P.funcs[f]? with
  | some fn => !(fn.name == "runtime.NumGoroutine") && fn.body.isSome
  | none => false

def compGd (ops : Array Oper) : Option (Nat × Bool) → Option (Option (Nat × Bool))
  | none => some none
  | some (j, w) => match (ops[j]?).bind (·.dst) with
    | some t => some (some (t, w))
    | none => none

def compItem (P : Program) (ops : Array Oper) (o : Oper) : Option AI :=
  match compGd ops o.guard with
  | none => none
  | some gd =>
    match o.op with
    | .call { callee := .value (.func f), args, .. } => if isFn P f then (compXs args.toList).map fun xs => .call o.dst gd f xs else match compOp P o.op with
      | some (ao, xs) => (compXs xs).map fun ys => .op o.dst gd ao ys
      | none => some (.bad o.dst gd)
    | .call { callee := .value y, args, .. } => match compX y, compXs args.toList with
      | some x, some xs => some (.dyn o.dst gd x xs)
      | _, _ => none
    | op => match compOp P op with
      | some (ao, xs) => (compXs xs).map fun ys => .op o.dst gd ao ys
      | none => some (.bad o.dst gd)

def compItems (P : Program) (ops : Array Oper) : List Oper → Option (List AI)
  | [] => some []
  | o :: os => match compItem P ops o, compItems P ops os with
    | some i, some is => some (i :: is)
    | _, _ => none

def owned (g : Locs) (hp : List (Nat × HO)) (b : Nat) : Prop := ∃ i o, lk hp i = some o ∧ blk g i = some b

/-- What a call leaves. -/
def Out (C : Cx) (S : Seal) (g : Locs) (w : World) (hp : List (Nat × HO)) (N : Nat → Prop) (Q : V → List (Nat × HO) → Prop) (v : Value) (w' : World) : Prop :=
  ∃ r hp' S' g', Q r hp' ∧ VR S' g' r v ∧ Good C S' w' ∧ HR S' g' hp' w' ∧ Grow (owned g hp) S w S' w' ∧ (∀ i, g i ≠ none → gle g g' i) ∧
    (∀ i, g i ≠ none → lk hp i = none → g' i = g i) ∧ (∀ i o, lk hp' i = some o → (lk hp i).isSome = true ∨ g i = none) ∧ (∀ i, g' i ≠ none → g i ≠ none ∨ N i) ∧ (∀ i o b, lk hp' i = some o → blk g' i = some b → owned g hp b ∨ w.heap.size ≤ b)

/-- A function's contract: for these arguments and these objects it answers so. New ids are of `N`. -/
def ACall (C : Cx) (f : FuncId) (vs : List V) (hp : List (Nat × HO)) (N : Nat → Prop) (Q : V → List (Nat × HO) → Prop) : Prop :=
  ∀ S g w args, Good C S w → VRl S g vs args → HR S g hp w → (∀ i, N i → g i = none) →
    Calls C.P f args.toArray w fun e w' => ∃ v, e = .returned v ∧ Out C S g w hp N Q v w'

/-- A function of values alone. -/
def AFn (C : Cx) (f : FuncId) (vs : List V) (r : V) : Prop := ACall C f vs [] (fun _ => False) fun r' hp' => r' = r ∧ hp' = []

/-- The same, where new ids are counted from `cn` to `c`. -/
def CallC (C : Cx) (f : FuncId) (vs : List V) (hp : List (Nat × HO)) (cn c : Nat) (Q : V → List (Nat × HO) → Prop) : Prop :=
  cn ≤ c ∧ ∀ S g w args, Good C S w → VRl S g vs args → HR S g hp w → (∀ i, g i ≠ none → i < cn) →
    Calls C.P f args.toArray w fun e w' => ∃ v, e = .returned v ∧ Out C S g w hp (fun i => cn ≤ i ∧ i < c) Q v w'

def sub (hp : List (Nat × HO)) : List Nat → List (Nat × HO)
  | [] => []
  | k :: ks => match lk hp k with
    | some o => (k, o) :: sub hp ks
    | none => sub hp ks
def del (hp : List (Nat × HO)) : List Nat → List (Nat × HO)
  | [] => hp
  | k :: ks => rm (del hp ks) k

theorem lk_sub {hp : List (Nat × HO)} {ks : List Nat} {i : Nat} {o : HO} (h : lk (sub hp ks) i = some o) : lk hp i = some o ∧ i ∈ ks := by
  induction ks with
  | nil => simp [sub, lk] at h
  | cons k ks ih =>
    simp only [sub] at h
    split at h
    · rename_i o' ho
      simp only [lk] at h
      by_cases hk : k = i
      · simp only [hk, if_true, Option.some.injEq] at h; subst h; subst hk; exact ⟨ho, by simp⟩
      · simp only [hk, if_false] at h; exact ⟨(ih h).1, by simp [(ih h).2]⟩
    · exact ⟨(ih h).1, by simp [(ih h).2]⟩
theorem lk_del {hp : List (Nat × HO)} {ks : List Nat} {i : Nat} {o : HO} (h : lk (del hp ks) i = some o) : lk hp i = some o ∧ i ∉ ks := by
  induction ks with
  | nil => exact ⟨h, by simp⟩
  | cons k ks ih =>
    simp only [del, lk_rm] at h
    by_cases hk : k = i
    · simp [hk] at h
    · simp only [hk, if_false] at h
      exact ⟨(ih h).1, by simp [(ih h).2, Ne.symm hk]⟩
theorem lk_append {α : Type} (l r : List (Nat × α)) (i : Nat) : lk (l ++ r) i = match lk l i with | some x => some x | none => lk r i := by
  induction l with
  | nil => rfl
  | cons p l ih =>
    obtain ⟨k, v⟩ := p
    simp only [List.cons_append, lk]
    by_cases hk : k = i
    · simp [hk]
    · simp [hk, ih]

/-- An operation under its guard. -/
def gdo (s : St) (gd : Option (Nat × Bool)) (dst : Option Nat) (A : Prop) (K : St → Prop) : Prop :=
  match gd with
  | none => A
  | some (t, w) => match lk s.fr t with
    | some (.bool b) => (b = w → A) ∧ (b = !w → K (s.put dst (.tuple [])))
    | some (.tuple []) => K (s.put dst (.tuple []))
    | _ => False

def actP (C : Cx) (dd : Nat) (s : St) (K : St → Prop) (dst : Option Nat) (o : AOp) (xs : List AX) : Prop :=
  match aevs C s xs with
  | some vs => match o.act dd vs with
    | some (p, e) => match e.st dst s with
      | some s' => p ∧ K s'
      | none => False
    | none => False
  | none => False

/-- A call: of values alone, or with some objects handed over, and with one new id. -/
def callP (C : Cx) (dd : Nat) (s : St) (K : St → Prop) (dst : Option Nat) (f : FuncId) (vs : List V) : Prop :=
  (∃ r, AFn C f vs r ∧ K (s.put dst r)) ∨
  (∃ ks Q, ACall C f vs (sub s.hp ks) (· = dd) Q ∧ s.fresh dd = true ∧
    ∀ r hp', Q r hp' → K { (s.put dst r) with hp := hp' ++ del s.hp ks, ids := dd :: s.ids }) ∨
  (∃ ks c Q, CallC C f vs (sub s.hp ks) s.cn c Q ∧ ∀ r hp', Q r hp' → K { (s.put dst r) with hp := hp' ++ del s.hp ks, cn := c })

def AStep (C : Cx) (dd : Nat) (s : St) (K : St → Prop) : AI → Prop
  | .op dst gd o xs => gdo s gd dst (actP C dd s K dst o xs) K
  | .call dst gd f xs => gdo s gd dst (match aevs C s xs with | some vs => callP C dd s K dst f vs | none => False) K
  | .dyn dst gd x xs => gdo s gd dst (match aev C s x, aevs C s xs with
    | some (.fn (.func f) fs cs), some vs => isFn C.P f = true ∧ callP C dd s K dst f (fs ++ vs ++ cs)
    | _, _ => False) K
  | .bad dst gd => gdo s gd dst False K

def AOps (C : Cx) (K : St → Prop) : Nat → List AI → St → Prop
  | _, [], s => K s
  | j, i :: is, s => AStep C (s.nx + j) s (AOps C K (j + 1) is) i

section
variable {C : Cx} {B : Base} {S : Seal} {g : Locs} {s : St} {a : Act} {w : World} {d : Option Nat} {r : Result Next}

theorem compXs_ok (h : SR C B S g s a w) : ∀ {os : List Operand} {xs : List AX} {vs : List V}, compXs os = some xs → aevs C s xs = some vs → VRl S g vs (os.map a.eval)
  | [], xs, vs, hx, hv => by
    simp only [compXs, Option.some.injEq] at hx
    subst hx
    simp only [aevs, Option.some.injEq] at hv
    subst hv
    exact .nil
  | o :: os, xs, vs, hx, hv => by
    simp only [compXs] at hx
    split at hx
    · rename_i x ys h1 h2
      cases hx
      simp only [aevs] at hv
      split at hv
      · rename_i v us h3 h4
        cases hv
        exact .cons (compX_ok h h1 h3) (compXs_ok h h2 h4)
      · cases hv
    · cases hx

theorem VRl.append {vs us : List V} {as bs : List Value} (h : VRl S g vs as) (h' : VRl S g us bs) : VRl S g (vs ++ us) (as ++ bs) := by
  induction h with
  | nil => exact h'
  | cons h1 _ ih => exact .cons h1 ih
theorem VRl.of_vrs : ∀ {xs : List V} {vs : List Value}, VRs S g xs vs → vs.length = xs.length → VRl S g xs vs
  | [], vs, _, hl => by
    have : vs = [] := List.eq_nil_of_length_eq_zero (by simpa using hl)
    subst this; exact .nil
  | x :: xs, vs, h, hl => by
    obtain ⟨v, r, rfl, h1, h2⟩ := h
    exact .cons h1 (VRl.of_vrs h2 (by simpa using hl))

/-- The state behind a call. -/
theorem SR.call (h : SR C B S g s a w) (hd : dstOk B.nt d = true) {ks : List Nat} {N : Nat → Prop} {Q : V → List (Nat × HO) → Prop} {v : Value} {w' : World}
    (ho : Out C S g w (sub s.hp ks) N Q v w') {is : List Nat} {c : Nat} (his : ∀ i, i ∈ s.ids → i ∈ is) (hc : s.cn ≤ c) (hNl : ∀ i, N i → s.nx ≤ i)
    (hN : ∀ i, N i → i < c ∧ (s.nx ≤ i → i < s.nx + s.sz → i ∈ is)) (_hN0 : ∀ i, N i → g i = none) :
    ∃ r hp' S' g', Q r hp' ∧ SR C B S' g' { (s.put d r) with hp := hp' ++ del s.hp ks, ids := is, cn := c } (a.put d v) w' := by
  obtain ⟨r, hp', S', g', hQ, hv, hG, hH, hgr, hg, hgk, hhk, hdom, hnew⟩ := ho
  have lt := fun i o b (hi : lk s.hp i = some o) (hb : blk g i = some b) => (h.hp.1 i o hi).blk_lt hb
  -- an object that stays behind is untouched
  have keep : ∀ i o b, lk (del s.hp ks) i = some o → blk g i = some b → w'.heap[b]? = w.heap[b]? ∧ S' b = S b := fun i o b hi hb => by
    have h1 := lk_del hi
    refine hgr.old b (lt i o b h1.1 hb) ?_
    rintro ⟨j, oj, hj, hbj⟩
    have h2 := lk_sub hj
    have := h.hp.2 i j o oj b h1.1 h2.1 hb hbj
    subst this
    exact h1.2 h2.2
  have hgs : ∀ i o, lk (del s.hp ks) i = some o → g i ≠ none := fun i o hi => by
    have := h.hp.1 i o (lk_del hi).1
    cases o with
    | cells cs => obtain ⟨b, _, _, h1, _⟩ := this; rw [h1]; simp
    | tok e k l => obtain ⟨_, _, _, h1, _⟩ := this; rw [h1]; simp
    | map clock es => obtain ⟨b, _, h1, _⟩ := this; rw [h1]; simp
    | iter m since seen last => obtain ⟨b, _, h1, _⟩ := this; rw [h1]; simp
    | sit l pos => obtain ⟨b, h1, _⟩ := this; rw [h1]; simp
  have hgi : ∀ i o, lk (del s.hp ks) i = some o → g' i = g i := fun i o hi => by
    refine hgk i (hgs i o hi) ?_
    cases h1 : lk (sub s.hp ks) i with
    | none => rfl
    | some o' => exact absurd (lk_sub h1).2 (lk_del hi).2
  have hsub : ∀ i, (lk (sub s.hp ks) i).isSome = true → ∃ o, lk s.hp i = some o := fun i hi => by
    obtain ⟨o, ho⟩ := Option.isSome_iff_exists.1 hi
    exact ⟨o, (lk_sub ho).1⟩
  -- what is new or was handed over has no block of what stayed
  have far : ∀ i o j o' b, lk hp' i = some o → lk (del s.hp ks) j = some o' → blk g' i = some b → blk g' j = some b → False := fun i o j o' b hi hj h1 h2 => by
    rw [blk_congr (hgi j o' hj)] at h2
    rcases hnew i o b hi h1 with ⟨i', o2, h3, h4⟩ | hle
    · have h5 := lk_sub h3
      have := h.hp.2 i' j o2 o' b h5.1 (lk_del hj).1 h4 h2
      subst this
      exact (lk_del hj).2 h5.2
    · have := lt j o' b (lk_del hj).1 h2; omega
  have h1 : SR C B S' g' { s with hp := hp' ++ del s.hp ks, ids := is, cn := c } a w' := by
    refine ⟨h.dfr, h.nt, hG, fun t x hx => VR.mono hgr.sld x hg (h.fr t x hx), ⟨fun i o hi => ?_, fun i j oi oj b hi hj h1 h2 => ?_⟩, ?_, fun i o b hi hb => ?_, fun i hi => (h.gl i hi).trans (hg i ((h.gl i hi).some hi)), fun i hi => ?_,
      fun i hi hm => ?_, fun i o hi => ?_, ⟨h.lo.1, Nat.le_trans h.lo.2 hc⟩, fun i hi => ?_, Nat.le_trans h.rm hc⟩
    · simp only [lk_append] at hi
      split at hi
      · rename_i x hx; cases hi; exact hH.1 i o hx
      · exact (h.hp.1 i o (lk_del hi).1).mono hgr.sld (hgi i o hi) hg fun b hb => keep i o b hi hb
    · simp only [lk_append] at hi hj
      split at hi
      · rename_i x hx
        split at hj
        · rename_i y hy; exact hH.2 i j x y b hx hy h1 h2
        · exact (far i x j oj b hx hj h1 h2).elim
      · split at hj
        · rename_i y hy; exact (far j y i oi b hy hi h2 h1).elim
        · rw [blk_congr (hgi i oi hi)] at h1
          rw [blk_congr (hgi j oj hj)] at h2
          exact h.hp.2 i j oi oj b (lk_del hi).1 (lk_del hj).1 h1 h2
    · exact h.grow.trans hgr fun b ⟨i, o, hi, hb⟩ => h.new i o b (lk_sub hi).1 hb
    · simp only [lk_append] at hi
      split at hi
      · rename_i x hx
        rcases hnew i x b hx hb with ⟨i', o2, h3, h4⟩ | hle
        · exact h.new i' o2 b (lk_sub h3).1 h4
        · exact .inr (Nat.le_trans h.grow.size hle)
      · exact h.new i o b (lk_del hi).1 (by rw [← blk_congr (hgi i o hi)]; exact hb)
    · rcases hdom i hi with h0 | h0
      · have := h.dom i h0
        exact ⟨Nat.lt_of_lt_of_le this.1 hc, fun h1 h2 => his i (this.2 h1 h2)⟩
      · exact hN i h0
    · have h0 : g i ≠ none := (h.gl i hi).some hi
      rw [← h.gk i hi hm]
      refine hgk i h0 ?_
      cases h1 : lk (sub s.hp ks) i with
      | none => rfl
      | some o => exact ((h.hk i o (lk_sub h1).1).elim hm hi).elim
    · simp only [lk_append] at hi
      split at hi
      · rename_i x hx
        rcases hhk i x hx with h1 | h1
        · obtain ⟨o', ho'⟩ := hsub i h1
          exact h.hk i o' ho'
        · refine .inr ?_
          cases h0 : B.g0 i with
          | none => rfl
          | some y => exact absurd h1 ((h.gl i (by rw [h0]; simp)).some (by rw [h0]; simp))
      · exact h.hk i o (lk_del hi).1
    · rcases hdom i hi with h0 | h0
      · exact h.low i h0
      · exact .inr (Nat.le_trans h.lo.1 (hNl i h0))
  refine ⟨r, hp', S', g', hQ, ?_⟩
  have := h1.put hd hv
  cases d <;> exact this
end
end Go.Abs

namespace Go.Abs
open Go

/-- What holds in the model behind an abstract claim. -/
def SRp (C : Cx) (B : Base) (s : St) (a : Act) (w : World) : Prop := ∃ S g, SR C B S g s a w
def lift (C : Cx) (B : Base) (Q : Exit → St → Prop) : Exit → Act → World → Prop := fun e a w => ∃ s, Q e s ∧ SRp C B s a w
def lift1 (C : Cx) (B : Base) (K : St → Prop) : Act → World → Prop := fun a w => ∃ s, K s ∧ SRp C B s a w

section
variable {C : Cx} {B : Base} {S : Seal} {g : Locs} {s : St} {a : Act} {w : World}

theorem tmp_bool {t : Nat} {b : Bool} (h : a.tmps.getD t undef = .bool b) : a.tmps[t]? = some (.bool b) := by
  rw [Array.getD_eq_getD_getElem?] at h
  cases h1 : a.tmps[t]? with
  | none => rw [h1] at h; simp [undef] at h
  | some v => rw [h1] at h; simpa using h

theorem wanted_of {ops : Array Oper} {o : Oper} {gd : Option (Nat × Bool)} (hc : compGd ops o.guard = some gd) (h : SR C B S g s a w) :
    (gd = none ∧ Region.wanted o (yielded ops a.tmps) = true) ∨
    (∃ t w', gd = some (t, w') ∧ ((∃ b, lk s.fr t = some (.bool b) ∧ Region.wanted o (yielded ops a.tmps) = (b == w')) ∨
      (lk s.fr t = some (.tuple []) ∧ Region.wanted o (yielded ops a.tmps) = false) ∨ (∀ b, lk s.fr t ≠ some (.bool b)) ∧ lk s.fr t ≠ some (.tuple []))) := by
  cases hg : o.guard with
  | none =>
    rw [hg] at hc
    simp only [compGd, Option.some.injEq] at hc
    subst hc
    exact .inl ⟨rfl, by simp [Region.wanted, hg]⟩
  | some jw =>
    obtain ⟨j, w'⟩ := jw
    rw [hg] at hc
    simp only [compGd] at hc
    split at hc
    · rename_i t ht
      cases hc
      refine .inr ⟨t, w', rfl, ?_⟩
      by_cases h1 : ∃ b, lk s.fr t = some (.bool b)
      · obtain ⟨b, hb⟩ := h1
        refine .inl ⟨b, hb, ?_⟩
        have := tmp_bool (h.fr t _ hb)
        simp only [Region.wanted, hg, yielded, ht, Option.bind_some, this]
        cases b <;> cases w' <;> rfl
      · by_cases h2 : lk s.fr t = some (.tuple [])
        · refine .inr (.inl ⟨h2, ?_⟩)
          obtain ⟨ws, hws, hs, _⟩ := h.fr t _ h2
          simp only [Region.wanted, hg, yielded, ht, Option.bind_some]
          have : ∀ b, a.tmps[t]? ≠ some (.bool b) := fun b hb => by
            rw [Array.getD_eq_getD_getElem?, hb] at hws
            simp at hws
          split
          · rename_i b hb; exact absurd hb (this b)
          · rfl
        · exact .inr (.inr ⟨fun b hb => h1 ⟨b, hb⟩, h2⟩)
    · cases hc

variable {ops : Array Oper} {K : St → Prop} {Q : Exit → Act → World → Prop}

/-- A call in the model. -/
theorem run_enter {f : FuncId} (hf : isFn C.P f = true) (args : Array Value) (w : World) : (callFunc f args).run C.P w = .ok (.enter f args) w := by
  unfold isFn at hf
  split at hf
  · rename_i fn hfn
    simp only [Bool.and_eq_true, Bool.not_eq_true', beq_eq_false_iff_ne, ne_eq] at hf
    have hb : fn.body ≠ none := by
      intro hb; rw [hb] at hf; simp at hf
    simp [callFunc, hfn, hf.1, hb]
  · cases hf

theorem call_wp {o : Oper} {f : FuncId} {vs : List V} {args : List Value} {dd : Nat} (h : SR C B S g s a w) (hd : dstOk B.nt o.dst = true) (hv : VRl S g vs args)
    (hr : (execOp a.eval o).run C.P w = .ok (.enter f args.toArray) w) (hp : callP C dd s K o.dst f vs) : o.wp C.P a w (lift1 C B K) Q := by
  unfold Oper.wp
  rw [hr]
  simp only [Oper.upon]
  have hsubHR : ∀ ks, HR S g (sub s.hp ks) w := fun ks => ⟨fun i o hi => h.hp.1 i o (lk_sub hi).1, fun i j oi oj b hi hj h1 h2 => h.hp.2 i j oi oj b (lk_sub hi).1 (lk_sub hj).1 h1 h2⟩
  rcases hp with ⟨r, hA, hK⟩ | ⟨ks, R, hA, hfr, hK⟩ | ⟨ks, c, R, ⟨hcc, hA⟩, hK⟩
  · refine Calls.mono (hA S g w args h.good hv ⟨fun i o hi => by simp [lk] at hi, fun i j oi oj b hi => by simp [lk] at hi⟩ (fun _ h => h.elim)) ?_
    rintro e w' ⟨v, rfl, ho⟩
    have ho' : Out C S g w (sub s.hp []) (fun _ => False) (fun r' hp' => r' = r ∧ hp' = []) v w' := ho
    obtain ⟨r', hp', S', g', ⟨rfl, rfl⟩, h1⟩ := h.call hd ho' (is := s.ids) (c := s.cn) (fun _ h => h) (Nat.le_refl _) (fun _ h => h.elim) (fun _ h => h.elim) (fun _ h => h.elim)
    refine ⟨_, hK, S', g', ?_⟩
    cases hdd : o.dst <;> rw [hdd] at h1 <;> exact h1
  · have hf := h.free hfr
    have hg : g dd = none := hf.1
    have hH : HR S g (sub s.hp ks) w := ⟨fun i o hi => h.hp.1 i o (lk_sub hi).1, fun i j oi oj b hi hj h1 h2 => h.hp.2 i j oi oj b (lk_sub hi).1 (lk_sub hj).1 h1 h2⟩
    refine Calls.mono (hA S g w args h.good hv hH (fun i hi => by subst hi; exact hg)) ?_
    rintro e w' ⟨v, rfl, ho⟩
    obtain ⟨r', hp', S', g', hQ, h1⟩ := h.call hd ho (is := dd :: s.ids) (c := s.cn) (fun _ h => List.mem_cons_of_mem _ h) (Nat.le_refl _) (fun i hi => by subst hi; exact hf.2.2) (fun i hi => by subst hi; exact ⟨hf.2.1, fun _ _ => by simp⟩) (fun i hi => by subst hi; exact hg)
    refine ⟨_, hK r' hp' hQ, S', g', ?_⟩
    cases hdd : o.dst <;> rw [hdd] at h1 <;> exact h1
  · refine Calls.mono (hA S g w args h.good hv (hsubHR ks) (fun i hi => (h.dom i hi).1)) ?_
    rintro e w' ⟨v, rfl, ho⟩
    have hrm := h.rm
    obtain ⟨r', hp', S', g', hQ, h1⟩ := h.call hd ho (is := s.ids) (c := c) (fun _ h => h) hcc (fun i hi => by have := hi.1; omega) (fun i hi => ⟨hi.2, fun _ h2 => by have := hi.1; omega⟩)
      (fun i hi => by
        cases hg : g i with
        | none => rfl
        | some x => have := (h.dom i (by rw [hg]; simp)).1; have := hi.1; omega)
    refine ⟨_, hK r' hp' hQ, S', g', ?_⟩
    cases hdd : o.dst <;> rw [hdd] at h1 <;> exact h1

theorem gdo_wp {i : Nat} {o : Oper} {gd : Option (Nat × Bool)} {A : Prop} (ho : ops[i]? = some o) (hc : compGd ops o.guard = some gd) (h : SR C B S g s a w) (hd : dstOk B.nt o.dst = true)
    (hp : gdo s gd o.dst A K) (hA : A → o.wp C.P a w (lift1 C B K) Q) : wpOp C.P ops Q i (lift1 C B K) a w := by
  unfold wpOp
  simp only [ho]
  rcases wanted_of hc h with ⟨rfl, hw⟩ | ⟨t, w', rfl, hcase⟩
  · simp only [hw, if_true]
    exact .inl (hA hp)
  · simp only [gdo] at hp
    have skip : K (s.put o.dst (.tuple [])) → lift1 C B K (a.put o.dst undef) w := fun hk => ⟨_, hk, S, g, h.put hd (VR.unit S g)⟩
    rcases hcase with ⟨b, hb, hw⟩ | ⟨hb, hw⟩ | ⟨h1, h2⟩
    · rw [hb] at hp
      simp only at hp
      by_cases hbw : b = w'
      · have : Region.wanted o (yielded ops a.tmps) = true := by rw [hw]; simpa using hbw
        simp only [this, if_true]
        exact .inl (hA (hp.1 hbw))
      · have : Region.wanted o (yielded ops a.tmps) = false := by rw [hw]; simpa using hbw
        simp only [this, Bool.false_eq_true, if_false]
        exact skip (hp.2 (by cases b <;> cases w' <;> simp_all))
    · rw [hb] at hp
      simp only [hw, Bool.false_eq_true, if_false]
      exact skip hp
    · split at hp
      · rename_i b hb; exact (h1 b hb).elim
      · rename_i hb; exact (h2 hb).elim
      · exact hp.elim

theorem op_wp {o : Oper} {ao : AOp} {os : List Operand} {xs : List AX} {dd : Nat} (hc : compOp C.P o.op = some (ao, os)) (hx : compXs os = some xs) (h : SR C B S g s a w) (hd : dstOk B.nt o.dst = true)
    (hp : actP C dd s K o.dst ao xs) : o.wp C.P a w (lift1 C B K) Q := by
  unfold actP at hp
  split at hp
  · rename_i vs hvs
    split at hp
    · rename_i p e hact
      split at hp
      · rename_i s' hs'
        obtain ⟨v, w', S', g', hr, _, hsr⟩ := op_sound (a := a) hc h hd (compXs_ok h hx hvs) hact hp.1 s' hs'
        unfold Oper.wp
        rcases hr with hr | ⟨hr, rfl⟩ <;> rw [hr] <;> exact ⟨s', hp.2, S', g', hsr⟩
      · exact hp.elim
    · exact hp.elim
  · exact hp.elim

theorem arr_map {α β : Type} (f : α → β) (xs : Array α) : xs.map f = (xs.toList.map f).toArray := by apply Array.ext'; simp
theorem arr_map3 {α β : Type} (f : α → β) (ws us : Array β) (xs : Array α) : (ws ++ xs.map f) ++ us = (ws.toList ++ xs.toList.map f ++ us.toList).toArray := by apply Array.ext'; simp

theorem step_wp {i : Nat} {o : Oper} {it : AI} {dd : Nat} (ho : ops[i]? = some o) (hc : compItem C.P ops o = some it) (h : SR C B S g s a w) (hd : dstOk B.nt o.dst = true)
    (hp : AStep C dd s K it) : wpOp C.P ops Q i (lift1 C B K) a w := by
  unfold compItem at hc
  split at hc
  · cases hc
  · rename_i gd hgd
    split at hc
    · rename_i f args ats hop
      split at hc
      · rename_i hf
        simp only [Option.map_eq_some_iff] at hc
        obtain ⟨xs, hxs, rfl⟩ := hc
        refine gdo_wp ho hgd h hd hp fun hA => ?_
        split at hA
        · rename_i vs hvs
          refine call_wp h hd (compXs_ok h hxs hvs) ?_ hA
          have : (execOp a.eval o).run C.P w = (callFunc f (args.map a.eval)).run C.P w := by
            obtain ⟨dst, op, ty, pos, after, guard⟩ := o
            simp only at hop
            subst hop
            simp [execOp, resolve, Act.eval, Deferred.ofValue, invoke]
          rw [this, run_enter hf, arr_map]
        · exact hA.elim
      · split at hc
        · rename_i ao os hop'
          simp only [Option.map_eq_some_iff] at hc
          obtain ⟨xs, hxs, rfl⟩ := hc
          exact gdo_wp ho hgd h hd hp fun hA => op_wp hop' hxs h hd hA
        · cases hc
          exact gdo_wp ho hgd h hd hp fun hA => hA.elim
    · rename_i y args ats _ hop
      split at hc
      · rename_i x xs hx hxs
        cases hc
        refine gdo_wp ho hgd h hd hp fun hA => ?_
        split at hA
        · rename_i f fs cs vs hv hvs
          obtain ⟨ws, us, hy, h1, h2, h3, h4⟩ := compX_ok h hx hv
          refine call_wp h hd (((VRl.of_vrs h3 (by simpa using h1)).append (compXs_ok h hxs hvs)).append (VRl.of_vrs h4 (by simpa using h2))) ?_ hA.2
          have : (execOp a.eval o).run C.P w = (callFunc f ((ws ++ args.map a.eval) ++ us)).run C.P w := by
            obtain ⟨dst, op, ty, pos, after, guard⟩ := o
            simp only at hop
            subst hop
            simp [execOp, resolve, hy, Deferred.ofValue, invoke]
          rw [this, run_enter hA.1, arr_map3]
        · exact hA.elim
      · cases hc
    · split at hc
      · rename_i ao os hop
        simp only [Option.map_eq_some_iff] at hc
        obtain ⟨xs, hxs, rfl⟩ := hc
        exact gdo_wp ho hgd h hd hp fun hA => op_wp hop hxs h hd hA
      · cases hc
        exact gdo_wp ho hgd h hd hp fun hA => hA.elim

theorem ops_wp (hQ : ∀ a w, lift1 C B K a w → Q .normal a w) (hd : ∀ o ∈ ops.toList, dstOk B.nt o.dst = true) :
    ∀ (l : List Oper) (j : Nat) (is : List AI), ops.toList.drop j = l → compItems C.P ops l = some is → ∀ {S g s a w}, SR C B S g s a w → AOps C K j is s → wpOps C.P ops Q (List.range' j l.length) a w
  | [], j, is, _, hc, S, g, s, a, w, h, hp => by
    simp only [compItems, Option.some.injEq] at hc
    subst hc
    exact hQ a w ⟨s, hp, S, g, h⟩
  | o :: l, j, is, hl, hc, S, g, s, a, w, h, hp => by
    simp only [compItems] at hc
    split at hc
    · rename_i it is' h1 h2
      cases hc
      have hj : ops[j]? = some o := by
        have := congrArg List.head? hl
        simpa using this
      have hl' : ops.toList.drop (j + 1) = l := by
        have := congrArg List.tail hl
        simpa using this
      simp only [List.length_cons, List.range'_succ]
      rw [wpOps_cons]
      refine wpOp_mono ?_ (step_wp (Q := Q) hj h1 h (hd o (by rw [← List.take_append_drop j ops.toList, hl]; simp)) hp)
      rintro a' w' ⟨s', hK, S', g', h'⟩
      exact ops_wp hQ hd l (j + 1) is' hl' h2 h' hK
    · cases hc
end

/-- A region that the compiler takes. -/
def compReg (P : Program) (nt : Nat) (ops : Array Oper) : Option (List AI) :=
  if ops.toList.all (fun o => dstOk nt o.dst) then compItems P ops ops.toList else none

/-- A region begins: its own new ids lie behind all others. -/
def St.enter (s : St) (n : Nat) : St := { s with nx := s.cn, sz := n, cn := s.cn + n, ids := [] }

/-- The code does, from this state. -/
def W (C : Cx) (B : Base) (c : Code) (Q : Exit → St → Prop) (s : St) : Prop := ∀ S g a w, SR C B S g s a w → c.wp C.P (lift C B Q) a w

section
variable {C : Cx} {B : Base} {Q : Exit → St → Prop} {s : St}

theorem SR.enter {S : Seal} {g : Locs} {a : Act} {w : World} (h : SR C B S g s a w) (n : Nat) : SR C B S g (s.enter n) a w := by
  refine h.le ⟨fun t x hx => ⟨x, hx, VLe.refl x⟩, fun i o hi => .inl hi, fun i hi => ⟨?_, fun h1 _ => ?_⟩⟩ ⟨⟨h.lo.2, Nat.le_trans h.lo.2 (Nat.le_add_right _ _)⟩, Nat.le_refl _⟩
  · have := hi.1; simp only [St.enter]; omega
  · have := hi.1; simp only [St.enter] at h1; omega

theorem W.region {id : Nat} {ops : Array Oper} {is : List AI} (hc : compReg C.P B.nt ops = some is) (h : AOps C (Q .normal) 0 is (s.enter ops.size)) : W C B (.region id ops false) Q s := by
  intro S g a w hsr
  unfold compReg at hc
  split at hc
  · rename_i hd
    refine wp_region ?_
    have := ops_wp (C := C) (B := B) (ops := ops) (K := Q .normal) (Q := lift C B Q) (fun a w h => h) (fun o ho => List.all_eq_true.1 hd o ho) ops.toList 0 is rfl hc (hsr.enter ops.size) h
    simpa [List.range_eq_range'] using this
  · cases hc

theorem W.le {c : Code} {s' : St} (hB : B.n0 = 0) (hr : s'.nx + s'.sz ≤ s'.cn) (hl : s.le s') (h : W C B c Q s') : W C B c Q s := fun S g a w hs => h S g a w (hs.le hl ⟨by rw [hB]; exact ⟨Nat.zero_le _, Nat.zero_le _⟩, hr⟩)
theorem W.mono {c : Code} {Q' : Exit → St → Prop} (h : W C B c Q s) (hq : ∀ e s, Q e s → Q' e s) : W C B c Q' s :=
  fun S g a w hs => wp_mono (h S g a w hs) fun e _a _w ⟨s, hQ, hs⟩ => ⟨s, hq e s hQ, hs⟩
theorem W.skip (h : Q .normal s) : W C B .skip Q s := fun S g _a _w hs => wp_skip ⟨s, h, S, g, hs⟩
theorem W.exit {id : Nat} (h : Q (.exit id) s) : W C B (.exit id) Q s := fun S g _a _w hs => wp_exit ⟨s, h, S, g, hs⟩
theorem W.ret (h : Q .ret s) : W C B .ret Q s := fun S g _a _w hs => wp_ret ⟨s, h, S, g, hs⟩

def thenQ (K : St → Prop) (Q : Exit → St → Prop) : Exit → St → Prop
  | .normal, s => K s
  | e, s => Q e s
theorem W.seq {x y : Code} (h : W C B x (thenQ (W C B y Q) Q) s) : W C B (.seq x y) Q s := fun S g a w hs => by
  refine wp_seq (wp_mono (h S g a w hs) ?_)
  rintro e a' w' ⟨s', hQ, hs'⟩
  cases e with
  | normal => obtain ⟨S', g', hs'⟩ := hs'; exact hQ S' g' a' w' hs'
  | _ => exact ⟨s', hQ, hs'⟩

theorem W.cond {c : Operand} {cx : AX} {x y : Code} {b : Bool} (hc : compX c = some cx) (hb : aev C s cx = some (.bool b)) (ht : b = true → W C B x Q s) (hf : b = false → W C B y Q s) : W C B (.cond c x y) Q s := fun S g a w hs =>
  wp_cond_split (compX_ok hs hc hb) (fun h => ht h S g a w hs) (fun h => hf h S g a w hs)

def blockQ (id : Nat) (Q : Exit → St → Prop) : Exit → St → Prop
  | .exit id', s => if id' = id then Q .normal s else Q (.exit id') s
  | e, s => Q e s
theorem W.block {id : Nat} {c : Code} (h : W C B c (blockQ id Q) s) : W C B (.block id c) Q s := fun S g a w hs => by
  refine wp_block (wp_mono (h S g a w hs) ?_)
  rintro e a' w' ⟨s', hQ, hs'⟩
  cases e with
  | exit id' =>
    simp only [Exit.inBlock, blockQ] at hQ ⊢
    split at hQ
    · rename_i e; simp only [e, if_true]; exact ⟨s', hQ, hs'⟩
    · rename_i e; simp only [e, if_false]; exact ⟨s', hQ, hs'⟩
  | _ => exact ⟨s', hQ, hs'⟩

theorem wp_loop_ix {P : Program} {Q : Exit → Act → World → Prop} {c : Code} (I : Nat → Act → World → Prop)
    (round : ∀ n a w, I n a w → c.wp P (Exit.then (fun a' w' => ∃ m, m < n ∧ I m a' w') Q) a w) {n : Nat} {a : Act} {w : World} (h0 : I n a w) : (Code.loop c).wp P Q a w := by
  intro b k cs
  have key : ∀ n a w, I n a w → ∃ e a' w', Q e a' w' ∧ Arrives P (lone (b.at a (.code c :: .inLoop c :: k)) cs w) b k cs e a' w' := by
    intro n
    induction n using Nat.strongRecOn with
    | _ n ih =>
      intro a w hI
      obtain ⟨e, a1, w1, hq, harr⟩ := round n a w hI b (.inLoop c :: k) cs
      cases e with
      | normal =>
        obtain ⟨m, hlt, hI1⟩ := hq
        obtain ⟨e2, a2, w2, hq2, harr2⟩ := ih m hlt a1 w1 hI1
        exact ⟨e2, a2, w2, hq2, .of_steps (Steps.trans harr (.one step_inLoop)) harr2⟩
      | _ => exact ⟨_, a1, w1, hq, .pass (x := .inLoop c) rfl (fun _ _ => .inl (by simp)) harr⟩
  obtain ⟨e, a', w', hq, harr⟩ := key n a w h0
  exact ⟨e, a', w', hq, .of_steps (.one step_loop) harr⟩

theorem W.loop {σ : Type} {c : Code} (hB : B.n0 = 0) (inv : σ → St) (I : σ → Prop) (μ : σ → Nat) (hr : ∀ x, (inv x).nx + (inv x).sz ≤ (inv x).cn) {x : σ} (hs : s.le (inv x)) (hI : I x)
    (round : ∀ x, I x → W C B c (thenQ (fun s => ∃ x', s.le (inv x') ∧ I x' ∧ μ x' < μ x) Q) (inv x)) : W C B (.loop c) Q s := fun S g a w h => by
  refine wp_loop_ix (I := fun n a w => ∃ x, μ x = n ∧ I x ∧ SRp C B (inv x) a w) ?_ (n := μ x) ⟨x, rfl, hI, S, g, h.le hs ⟨by rw [hB]; exact ⟨Nat.zero_le _, Nat.zero_le _⟩, hr _⟩⟩
  rintro n a w ⟨x, rfl, hI, S, g, hsr⟩
  refine wp_mono (round x hI S g a w hsr) ?_
  rintro e a' w' ⟨s', hQ, hs'⟩
  cases e with
  | normal =>
    obtain ⟨x', hle, hI', hlt⟩ := hQ
    obtain ⟨S', g', hs'⟩ := hs'
    exact ⟨_, hlt, x', rfl, hI', S', g', hs'.le hle ⟨by rw [hB]; exact ⟨Nat.zero_le _, Nat.zero_le _⟩, hr _⟩⟩
  | _ => exact ⟨s', hQ, hs'⟩
end
end Go.Abs

namespace Go.Abs
open Go

def resOne (P : Program) (s : St) : ResultVar → Option V
  | .tmp t => lk s.fr t
  | .cell a t => match lk s.fr a with
    | some (.ptr o off) => match P.info? t, P.underlying t, lk s.hp o with
      | some i, some d, some (.cells cs) => if off + i.size ≤ cs.length ∧ (isAggD d = true ∨ i.size = 1) then some (pack (isAggD d) ((cs.drop off).take i.size)) else none
      | _, _, _ => none
    | _ => none
def resAll (P : Program) (s : St) : List ResultVar → Option (List V)
  | [] => some []
  | r :: rs => match resOne P s r, resAll P s rs with
    | some v, some vs => some (v :: vs)
    | _, _ => none
def tup : List V → V
  | [x] => x
  | xs => .tuple xs
def resV (P : Program) (s : St) (rs : List ResultVar) : Option V := (resAll P s rs).map tup

section
variable {C : Cx} {B : Base} {S : Seal} {g : Locs} {s : St} {a : Act} {w : World}

def resRun (tmps : Array Value) : ResultVar → Sem Value
  | .tmp t => pure (tmps.getD t undef)
  | .cell a t => do loadVar t (← asAddr (tmps.getD a undef))

theorem resOne_ok {rv : ResultVar} {r : V} (h : SR C B S g s a w) (hr : resOne C.P s rv = some r) : ∃ v, (resRun a.tmps rv).run C.P w = .ok v w ∧ VR S g r v := by
  cases rv with
  | tmp t => exact ⟨_, rfl, h.fr t r hr⟩
  | cell p t =>
    simp only [resOne] at hr
    split at hr <;> try (cases hr; done)
    rename_i o off hp
    split at hr <;> try (cases hr; done)
    rename_i i d cs hi hd ho
    split at hr <;> try (cases hr; done)
    rename_i hle
    cases hr
    obtain ⟨b, hb, hv⟩ := h.fr p _ hp
    obtain ⟨b', c, E, h2, h3, h4, h5, h6⟩ := h.hp.1 o _ ho
    rw [hb] at h2
    cases h2
    have hus : ((c.toList.drop off).take i.size).length = i.size := by simp; omega
    have hcell : ∀ (j : Nat) (u : Value), ((c.toList.drop off).take i.size)[j]? = some u → w.cell? ⟨b, off + j, none⟩ = some u := fun j u hj => by
      simp only [List.getElem?_take, List.getElem?_drop] at hj
      split at hj
      · simp only [World.cell?, h3, Option.isSome_none, Bool.false_eq_true, if_false]; simpa using hj
      · cases hj
    have h1 : isAggD d = false → i.size = 1 := fun e => hle.2.resolve_left (by simp [e])
    have hl := run_loadVar (P := C.P) (w := w) hi hd (b := b) (off := off) (us := (c.toList.drop off).take i.size) hus hcell h1
    refine ⟨_, ?_, VRs.pack ((h6.drop off).take i.size) (by rw [hus]; simp; omega) (fun e => by simp; have := h1 e; omega)⟩
    simp only [resRun, hv, asAddr, Sem.run_bind, Sem.run_pure, Result.andThen_ok, hl]

theorem resAll_ok (h : SR C B S g s a w) : ∀ {rs : List ResultVar} {xs : List V}, resAll C.P s rs = some xs → ∃ vs, (rs.mapM (resRun a.tmps)).run C.P w = .ok vs w ∧ VRl S g xs vs
  | [], xs, hr => by
    simp only [resAll, Option.some.injEq] at hr
    subst hr
    exact ⟨[], by simp, .nil⟩
  | r :: rs, xs, hr => by
    simp only [resAll] at hr
    split at hr
    · rename_i v vs h1 h2
      cases hr
      obtain ⟨u, hu, hv⟩ := resOne_ok h h1
      obtain ⟨us, hus, hvs⟩ := resAll_ok h h2
      exact ⟨u :: us, by simp [hu, hus], .cons hv hvs⟩
    · cases hr

theorem results_eq (fn : Func) (tmps : Array Value) : results fn tmps = (do
    let vs ← List.toArray <$> fn.results.toList.mapM (resRun tmps)
    pure (if h : vs.size = 1 then vs[0] else .tuple vs)) := by
  have : fn.results.mapM (resRun tmps) = List.toArray <$> fn.results.toList.mapM (resRun tmps) := by
    conv => lhs; rw [← Array.toArray_toList (xs := fn.results)]
    rw [List.mapM_toArray]
  rw [← this]
  rfl

theorem resV_ok {fn : Func} {r : V} (h : SR C B S g s a w) (hr : resV C.P s fn.results.toList = some r) : ∃ v, (results fn a.tmps).run C.P w = .ok v w ∧ VR S g r v := by
  simp only [resV, Option.map_eq_some_iff] at hr
  obtain ⟨xs, hxs, rfl⟩ := hr
  obtain ⟨vs, hvs, hr⟩ := resAll_ok h hxs
  rw [results_eq]
  have hrun : (List.toArray <$> fn.results.toList.mapM (resRun a.tmps)).run C.P w = .ok vs.toArray w := by simp [hvs]
  simp only [Sem.run_bind, hrun, Result.andThen_ok, Sem.run_pure]
  match xs, vs, hr with
  | [], [], .nil => exact ⟨_, rfl, #[], rfl, rfl, trivial⟩
  | [x], [v], .cons hv .nil => exact ⟨_, rfl, hv⟩
  | x :: y :: xs, v :: u :: vs, hr =>
    refine ⟨_, rfl, ?_⟩
    have hne : (v :: u :: vs).toArray.size ≠ 1 := by simp
    rw [dif_neg hne]
    exact ⟨_, rfl, by have := hr.len; simpa using this.symm, by simpa using hr.vrs⟩
end

/-- Slots from the arguments. -/
def frs : Nat → List V → List (Nat × V)
  | _, [] => []
  | n, x :: xs => (n, x) :: frs (n + 1) xs

theorem lk_frs {xs : List V} {n t : Nat} {x : V} (h : lk (frs n xs) t = some x) : ∃ i, t = n + i ∧ xs[i]? = some x := by
  induction xs generalizing n with
  | nil => simp [frs, lk] at h
  | cons y ys ih =>
    simp only [frs, lk] at h
    by_cases hn : n = t
    · simp only [hn, if_true, Option.some.injEq] at h; subst h; exact ⟨0, by omega, rfl⟩
    · simp only [hn, if_false] at h
      obtain ⟨i, hi, hx⟩ := ih h
      exact ⟨i + 1, by omega, by simpa using hx⟩

theorem VRl.get {S : Seal} {g : Locs} {xs : List V} {vs : List Value} (h : VRl S g xs vs) {i : Nat} {x : V} (hx : xs[i]? = some x) : ∃ v, vs[i]? = some v ∧ VR S g x v := by
  obtain ⟨v, hv, hr⟩ := VRs.get h.vrs i x hx
  exact ⟨v, hv, hr⟩

def start (n : Nat) (vs : List V) (hp : List (Nat × HO)) : St := { fr := frs 0 vs, hp := hp, nx := n, sz := 0, cn := n, ids := [] }

/-- A function of values alone, by its body. -/
def retQ (P : Program) (fn : Func) (r : V) : Exit → St → Prop
  | .normal, s => resV P s fn.results.toList = some r
  | .ret, s => resV P s fn.results.toList = some r
  | _, _ => False

theorem AFn.of_W {C : Cx} {f : FuncId} {fn : Func} {c : Code} {vs : List V} {r : V} (hf : C.P.funcs[f]? = some fn) (hb : fn.body = some c) (hn : vs.length ≤ fn.ntmps)
    (hi : idfL vs = true) (hr : r.idf = true) (h : ∀ B : Base, B.n0 = 0 → B.nt = fn.ntmps → W C B c (retQ C.P fn r) (start 0 vs [])) : AFn C f vs r := by
  intro S g w args hG hv _ _
  let g1 : Locs := fun _ => none
  let B : Base := ⟨S, g1, w, fun _ => False, fun _ => False, 0, fn.ntmps⟩
  have hsr : SR C B S g1 (start 0 vs []) { tmps := args.toArray ++ Array.replicate (fn.ntmps - args.toArray.size) undef, defers := [] } w := by
    refine ⟨rfl, ?_, hG, fun t x hx => ?_, ⟨fun i o hi => by simp [start, lk] at hi, fun i j oi oj b hi => by simp [start, lk] at hi⟩, Grow.refl _ _ _, fun i o b hi => by simp [start, lk] at hi, fun i hi => absurd rfl hi, fun i hi => absurd rfl hi,
      fun i hi => absurd rfl hi, fun i o hi => by simp [start, lk] at hi, ⟨Nat.zero_le _, Nat.zero_le _⟩, fun i hi => absurd rfl hi, Nat.le_refl _⟩
    · have := hv.len
      simp only [Array.size_append, List.size_toArray, Array.size_replicate]
      show _ = fn.ntmps
      omega
    · obtain ⟨i, rfl, hx'⟩ := lk_frs hx
      obtain ⟨v, hv', hr'⟩ := VRl.get hv hx'
      have hxi : x.idf = true := by
        have : ∀ {l : List V} {i : Nat}, idfL l = true → l[i]? = some x → x.idf = true := by
          intro l
          induction l with
          | nil => intro i _ h; simp at h
          | cons y ys ih =>
            intro i h0 h1
            simp only [idfL, Bool.and_eq_true] at h0
            cases i with
            | zero => simp at h1; subst h1; exact h0.1
            | succ i => exact ih h0.2 (by simpa using h1)
        exact this hi hx'
      have : (args.toArray ++ Array.replicate (fn.ntmps - args.toArray.size) undef).getD (0 + i) undef = v := by
        have hlt : i < args.length := (List.getElem?_eq_some_iff.1 hv').1
        rw [Array.getD_eq_getD_getElem?, Nat.zero_add, Array.getElem?_append_left (by simpa using hlt)]
        simp [hv']
      rw [this]
      exact VR.idf x hxi hr'
  refine Calls.mono (calls_of_wp (R := fun e w' => ∃ v, e = .returned v ∧ Out C S g w [] (fun _ => False) (fun r' hp' => r' = r ∧ hp' = []) v w') hf hb (wp_mono (h B rfl rfl S g1 _ w hsr) ?_)) fun e w' h => h
  rintro e a' w' ⟨s', hQ, S', g', hs'⟩
  have key : resV C.P s' fn.results.toList = some r → a'.defers = [] ∧ ∃ v, (results fn a'.tmps).run C.P w' = .ok v w' ∧ ∃ v', Ending.returned v = .returned v' ∧ Out C S g w [] (fun _ => False) (fun r' hp' => r' = r ∧ hp' = []) v' w' := fun hrv => by
    obtain ⟨v, hrun, hvr⟩ := resV_ok hs' hrv
    refine ⟨hs'.dfr, v, hrun, v, rfl, r, [], S', g, ⟨rfl, rfl⟩, VR.idf r hr hvr, hs'.good, ⟨fun i o hi => by simp [lk] at hi, fun i j oi oj b hi => by simp [lk] at hi⟩, ?_, fun _ _ => .inl rfl, fun _ _ _ => rfl, fun i o hi => by simp [lk] at hi, fun i hi => .inl hi, fun i o b hi => by simp [lk] at hi⟩
    exact ⟨hs'.grow.size, hs'.grow.sld, fun b hb hn => hs'.grow.old b hb (fun hf => hf), hs'.grow.kept⟩
  cases e with
  | normal => exact key hQ
  | ret => exact key hQ
  | _ => exact hQ.elim
end Go.Abs

namespace Go.Abs
open Go

/-- What one step writes. -/
structure D where
  slot : Option (Nat × V)
  del : List Nat
  hp : List (Nat × HO)
  ids : List Nat
  cn : Option Nat

def D.app (δ : D) (s : St) : St :=
  { fr := match δ.slot with | some p => p :: s.fr | none => s.fr, hp := δ.hp ++ Abs.del s.hp δ.del, nx := s.nx, sz := s.sz, cn := match δ.cn with | some c => c | none => s.cn, ids := δ.ids ++ s.ids }

/-- A step of a region: its number, what it reads, what it writes. -/
structure En where
  i : Nat
  it : AI
  rs : List Nat
  hs : List Nat
  δ : D
def En.wh (e : En) : List Nat := e.δ.del ++ e.δ.hp.map (·.1)

structure Eqv (s s' : St) : Prop where
  fr : ∀ t, lk s'.fr t = lk s.fr t
  hp : ∀ i, lk s'.hp i = lk s.hp i
  nx : s'.nx = s.nx
  sz : s'.sz = s.sz
  cn : s'.cn = s.cn
  ids : ∀ i, i ∈ s'.ids ↔ i ∈ s.ids

theorem lk_del' (hp : List (Nat × HO)) (ks : List Nat) (i : Nat) : lk (del hp ks) i = if i ∈ ks then none else lk hp i := by
  induction ks with
  | nil => simp [del]
  | cons k ks ih =>
    simp only [del, lk_rm, ih]
    by_cases hk : k = i
    · simp [hk]
    · have : i ≠ k := fun e => hk e.symm
      simp [hk, this]
theorem Eqv.le {s s' : St} (h : Eqv s s') : s.le s' :=
  ⟨fun t x hx => ⟨x, by rw [← h.fr t]; exact hx, VLe.refl x⟩, fun i o hi => .inl (by rw [← h.hp i]; exact hi), fun i hi => by
    refine ⟨by rw [h.cn]; exact hi.1, fun h1 h2 => (h.ids i).2 (hi.2 (by rw [← h.nx]; exact h1) (by rw [← h.nx, ← h.sz]; exact h2))⟩⟩
theorem Eqv.fresh {s s' : St} (h : Eqv s s') (o : Nat) : s'.fresh o = s.fresh o := by
  have : s'.ids.contains o = s.ids.contains o := by
    rw [Bool.eq_iff_iff]; simpa [List.contains_eq_mem] using h.ids o
  simp only [St.fresh, h.nx, h.sz, this]
theorem Eqv.app {s s' : St} (h : Eqv s s') (δ : D) : Eqv (δ.app s) (δ.app s') := by
  refine ⟨fun t => ?_, fun i => ?_, h.nx, h.sz, ?_, fun i => ?_⟩
  · simp only [D.app]
    cases δ.slot with
    | none => exact h.fr t
    | some p => simp only [lk]; rw [h.fr t]
  · simp only [D.app, lk_append, lk_del', h.hp i]
  · simp only [D.app, h.cn]
  · simp only [D.app, List.mem_append, h.ids i]

/-- The step does this wherever what it reads is the same. -/
def Snd (C : Cx) (dd : Nat) (s : St) (e : En) : Prop :=
  (∀ d ∈ e.δ.ids, s.fresh d = true) ∧
  ∀ s', (∀ t ∈ e.rs, lk s'.fr t = lk s.fr t) → (∀ i ∈ e.hs, lk s'.hp i = lk s.hp i) → (∀ d ∈ e.δ.ids, s'.fresh d = true) → (e.δ.cn ≠ none → s'.cn = s.cn) → ∀ K : St → Prop, K (e.δ.app s') → AStep C dd s' K e.it

def Val (C : Cx) (base : Nat) (K : St → Prop) : St → List En → Prop
  | s, [] => K s
  | s, e :: T => Snd C (base + e.i) s e ∧ Val C base K (e.δ.app s) T

theorem Snd.eqv {C : Cx} {dd : Nat} {s s' : St} {e : En} (h : Snd C dd s e) (hq : Eqv s s') : Snd C dd s' e :=
  ⟨fun d hd => by rw [hq.fresh]; exact h.1 d hd, fun s1 h1 h2 h3 h4 K hK => h.2 s1 (fun t ht => (h1 t ht).trans (hq.fr t)) (fun i hi => (h2 i hi).trans (hq.hp i)) h3 (fun hc => (h4 hc).trans hq.cn) K hK⟩
theorem Val.eqv {C : Cx} {base : Nat} {K : St → Prop} (hK : ∀ s s', Eqv s s' → K s → K s') : ∀ {T : List En} {s s' : St}, Val C base K s T → Eqv s s' → Val C base K s' T
  | [], _, _, h, hq => hK _ _ hq h
  | _ :: _, _, _, h, hq => ⟨h.1.eqv hq, Val.eqv hK h.2 (hq.app _)⟩

def ind (a b : En) : Bool :=
  (match a.δ.slot with | some (t, _) => !b.rs.contains t && (match b.δ.slot with | some (u, _) => !(t == u) | none => true) | none => true) &&
  (match b.δ.slot with | some (u, _) => !a.rs.contains u | none => true) &&
  a.wh.all (fun i => !b.hs.contains i && !b.wh.contains i) && b.wh.all (fun i => !a.hs.contains i) && (a.δ.cn.isNone || b.δ.cn.isNone)

theorem ind_spec {a b : En} (h : ind a b = true) : (∀ t v, a.δ.slot = some (t, v) → t ∉ b.rs ∧ ∀ u v', b.δ.slot = some (u, v') → t ≠ u) ∧ (∀ u v, b.δ.slot = some (u, v) → u ∉ a.rs) ∧
    (∀ i ∈ a.wh, i ∉ b.hs ∧ i ∉ b.wh) ∧ (∀ i ∈ b.wh, i ∉ a.hs) ∧ (a.δ.cn = none ∨ b.δ.cn = none) := by
  simp only [ind, Bool.and_eq_true, List.all_eq_true, Bool.not_eq_true', List.contains_eq_mem, decide_eq_false_iff_not, Bool.or_eq_true, Option.isNone_iff_eq_none] at h
  obtain ⟨⟨⟨⟨h1, h2⟩, h3⟩, h4⟩, h5⟩ := h
  refine ⟨fun t v ht => ?_, fun u v hu => ?_, h3, h4, h5⟩
  · rw [ht] at h1
    simp only [Bool.and_eq_true, Bool.not_eq_true', decide_eq_false_iff_not] at h1
    refine ⟨h1.1, fun u v' hu => ?_⟩
    have := h1.2
    rw [hu] at this
    simpa using this
  · rw [hu] at h2
    simpa using h2

theorem app_fr (δ : D) (s : St) (t : Nat) (h : ∀ u v, δ.slot = some (u, v) → u ≠ t) : lk (δ.app s).fr t = lk s.fr t := by
  simp only [D.app]
  cases hs : δ.slot with
  | none => rfl
  | some p => simp only [lk]; rw [if_neg (h p.1 p.2 hs)]
theorem lk_none_of {α : Type} {l : List (Nat × α)} {i : Nat} (h : i ∉ l.map (·.1)) : lk l i = none := by
  induction l with
  | nil => rfl
  | cons p l ih =>
    obtain ⟨k, v⟩ := p
    simp only [List.map_cons, List.mem_cons, not_or] at h
    simp only [lk]
    rw [if_neg (fun e => h.1 e.symm)]
    exact ih h.2
theorem app_hp (e : En) (s : St) (i : Nat) (h : i ∉ e.wh) : lk (e.δ.app s).hp i = lk s.hp i := by
  simp only [En.wh, List.mem_append, not_or] at h
  simp only [D.app, lk_append, lk_del', lk_none_of h.2, h.1, if_false]
theorem app_fresh {e : En} {s : St} {d : Nat} : (e.δ.app s).fresh d = true ↔ s.fresh d = true ∧ d ∉ e.δ.ids := by
  have h : (e.δ.app s).fresh d = (decide (s.nx ≤ d) && decide (d < s.nx + s.sz) && !(e.δ.ids ++ s.ids).contains d) := rfl
  rw [h]
  simp only [St.fresh, List.contains_eq_mem, Bool.and_eq_true, decide_eq_true_eq, Bool.not_eq_true', decide_eq_false_iff_not, List.mem_append, not_or]
  constructor
  · rintro ⟨h1, h2, h3⟩; exact ⟨⟨h1, h3⟩, h2⟩
  · rintro ⟨⟨h1, h3⟩, h2⟩; exact ⟨h1, h2, h3⟩

theorem swap_eqv {a b : En} (s : St) (h : ind a b = true) : Eqv (b.δ.app (a.δ.app s)) (a.δ.app (b.δ.app s)) := by
  obtain ⟨h1, h2, h3, h4, h5⟩ := ind_spec h
  refine ⟨fun t => ?_, fun i => ?_, rfl, rfl, by simp only [D.app]; rcases h5 with h5 | h5 <;> rw [h5], fun i => ?_⟩
  · simp only [D.app]
    cases ha : a.δ.slot with
    | none => simp
    | some p =>
      cases hb : b.δ.slot with
      | none => simp
      | some q =>
        simp only [lk]
        have := (h1 p.1 p.2 ha).2 q.1 q.2 hb
        by_cases e1 : p.1 = t
        · have e2 : q.1 ≠ t := fun e => this (e1.trans e.symm)
          simp [e1, e2]
        · simp [e1]
  · by_cases ha : i ∈ a.wh
    · have hb : i ∉ b.wh := (h3 i ha).2
      rw [app_hp b _ i hb]
      simp only [D.app, lk_append, lk_del']
      have hb2 : lk b.δ.hp i = none := lk_none_of (fun e => hb (by simp [En.wh, e]))
      have hb3 : i ∉ b.δ.del := fun e => hb (by simp [En.wh, e])
      rw [hb2]
      simp [hb3]
    · rw [app_hp a _ i ha]
      have ha2 : lk a.δ.hp i = none := lk_none_of (fun e => ha (by simp [En.wh, e]))
      have ha3 : i ∉ a.δ.del := fun e => ha (by simp [En.wh, e])
      simp only [D.app, lk_append, lk_del', ha2]
      simp [ha3]
  · simp only [D.app, List.mem_append]
    constructor <;> rintro (h | h | h) <;> simp [h]

theorem Val.swap {C : Cx} {base : Nat} {K : St → Prop} (hK : ∀ s s', Eqv s s' → K s → K s') {s : St} {a b : En} {T : List En} (h : Val C base K s (a :: b :: T)) (hi : ind a b = true) :
    Val C base K s (b :: a :: T) := by
  obtain ⟨ha, hb, hT⟩ := h
  obtain ⟨h1, h2, h3, h4, h5⟩ := ind_spec hi
  have fr : ∀ d ∈ b.δ.ids, s.fresh d = true ∧ d ∉ a.δ.ids := fun d hd => app_fresh.1 (hb.1 d hd)
  refine ⟨⟨fun d hd => (fr d hd).1, fun s' e1 e2 e3 e4 K' hK' => hb.2 s' (fun t ht => ?_) (fun i hi => ?_) e3 (fun hc => ?_) K' hK'⟩, ⟨fun d hd => ?_, fun s' e1 e2 e3 e4 K' hK' => ha.2 s' (fun t ht => ?_) (fun i hi => ?_) e3 (fun hc => ?_) K' hK'⟩, Val.eqv hK hT (swap_eqv s hi)⟩
  · rw [e1 t ht, app_fr _ _ _ (fun u v hu e => (h1 u v hu).1 (e ▸ ht))]
  · rw [e2 i hi, app_hp a s i (fun hw => (h3 i hw).1 hi)]
  · rw [e4 hc]; simp only [D.app, h5.resolve_right hc]
  · exact app_fresh.2 ⟨ha.1 d hd, fun hd' => (fr d hd').2 hd⟩
  · rw [e1 t ht, app_fr _ _ _ (fun u v hu e => h2 u v hu (e ▸ ht))]
  · rw [e2 i hi, app_hp b s i (fun hw => h4 i hw hi)]
  · rw [e4 hc]; simp only [D.app, h5.resolve_left hc]

theorem Val.pull {C : Cx} {base : Nat} {K : St → Prop} (hK : ∀ s s', Eqv s s' → K s → K s') {e : En} {T2 : List En} : ∀ {T1 : List En} {s : St}, Val C base K s (T1 ++ e :: T2) → (∀ x ∈ T1, ind x e = true) →
    Val C base K s (e :: (T1 ++ T2))
  | [], _, h, _ => h
  | x :: T1, s, h, hx => by
    have h1 : Val C base K s (x :: e :: (T1 ++ T2)) := ⟨h.1, Val.pull hK h.2 fun y hy => hx y (by simp [hy])⟩
    exact h1.swap hK (hx x (by simp))

/-! The order. -/
def preds (o : Oper) : List Nat := o.after.toList.filterMap fun e => if Region.binds .any e then some e.on else none
def checkAnc (ops : Array Oper) (an : List (List Nat)) : Bool :=
  (List.range ops.size).all fun i => match ops[i]? with
    | some o => (preds o).all (fun r => decide (r < i)) && (an.getD i []).all (fun j => (preds o).contains j || (preds o).any (fun r => (an.getD r []).contains j))
    | none => true

theorem mem_preds {o : Oper} {r : Nat} : r ∈ preds o ↔ ∃ e ∈ o.after, Region.binds .any e = true ∧ e.on = r := by
  simp only [preds, List.mem_filterMap, Array.mem_toList_iff]
  constructor
  · rintro ⟨e, he, h⟩
    split at h
    · rename_i hb; exact ⟨e, he, hb, by simpa using h⟩
    · cases h
  · rintro ⟨e, he, hb, rfl⟩
    exact ⟨e, he, by simp [hb]⟩

section
variable {C : Cx} {B : Base} {ops : Array Oper} {an : List (List Nat)}

theorem anc_listed (hc : checkAnc ops an = true) {L : Nat → Prop} (hcl : ∀ i o, L i → ops[i]? = some o → ∀ r ∈ preds o, L r) :
    ∀ i o, ops[i]? = some o → (∀ r ∈ preds o, L r) → ∀ j ∈ an.getD i [], L j := by
  intro i
  induction i using Nat.strongRecOn with
  | _ i ih =>
    intro o ho hp j hj
    have hlt : i < ops.size := (Array.getElem?_eq_some_iff.1 ho).1
    have h1 := List.all_eq_true.1 hc i (List.mem_range.2 hlt)
    simp only [ho, Bool.and_eq_true, List.all_eq_true, decide_eq_true_eq, Bool.or_eq_true, List.any_eq_true, List.contains_eq_mem] at h1
    rcases h1.2 j hj with h2 | ⟨r, hr, h2⟩
    · exact hp j h2
    · have hri := h1.1 r hr
      have hro : ops[r]? = some ops[r] := Array.getElem?_eq_getElem (Nat.lt_trans hri hlt)
      exact ih r hri _ hro (hcl r _ (hp r hr) hro) j h2

/-- Any order does. -/
theorem any_wp {K : St → Prop} {Q : Exit → Act → World → Prop} (hK : ∀ s s', Eqv s s' → K s → K s') (hQ : ∀ a w, lift1 C B K a w → Q .normal a w)
    (hd : ∀ o ∈ ops.toList, dstOk B.nt o.dst = true) (hc : checkAnc ops an = true) (base : Nat) :
    ∀ (fuel : Nat) (listed : Array Bool) (T : List En) {S g s a w}, SR C B S g s a w → Val C base K s T → s.nx = base → listed.size = ops.size →
      (∀ i, i ∈ T.map (·.i) ↔ i < ops.size ∧ listed.getD i true = false) → (T.map (·.i)).Nodup →
      (∀ e ∈ T, ∃ o, ops[e.i]? = some o ∧ compItem C.P ops o = some e.it) → T.Pairwise (fun e f => e.i ∈ an.getD f.i [] ∨ ind e f = true) → T.length ≤ fuel →
      (∀ i o, listed.getD i false = true → ops[i]? = some o → ∀ r ∈ preds o, listed.getD r false = true) → wpAny C.P .any ops Q fuel listed a w := by
  intro fuel
  have done : ∀ (listed : Array Bool) (T : List En) {S g s a w}, SR C B S g s a w → Val C base K s T → listed.size = ops.size →
      (∀ i, i ∈ T.map (·.i) ↔ i < ops.size ∧ listed.getD i true = false) → Region.ready .any ops listed = [] → Q .normal a w := by
    intro listed T S g s a w hs hv hsz hT hr
    have hno : ∀ i, i ∈ T.map (·.i) → False := by
      intro i
      induction i using Nat.strongRecOn with
      | _ i ih =>
        intro hi
        have h1 := (hT i).1 hi
        have ho : ops[i]? = some ops[i] := Array.getElem?_eq_getElem h1.1
        have : i ∈ Region.ready .any ops listed := by
          refine mem_ready.2 ⟨h1.2, _, ho, fun e he hb => ?_⟩
          have hp : e.on ∈ preds ops[i] := mem_preds.2 ⟨e, he, hb, rfl⟩
          have h2 := List.all_eq_true.1 hc i (List.mem_range.2 h1.1)
          simp only [ho, Bool.and_eq_true, List.all_eq_true, decide_eq_true_eq] at h2
          have hlt := h2.1 _ hp
          have hlt' : e.on < listed.size := by rw [hsz]; exact Nat.lt_trans hlt h1.1
          cases hg : listed.getD e.on false with
          | true => rfl
          | false =>
            refine (ih e.on hlt ((hT e.on).2 ⟨Nat.lt_trans hlt h1.1, ?_⟩)).elim
            simp only [Array.getD_eq_getD_getElem?, Array.getElem?_eq_getElem hlt', Option.getD_some] at hg ⊢
            exact hg
        rw [hr] at this
        cases this
    cases T with
    | nil => exact hQ a w ⟨s, hv, S, g, hs⟩
    | cons e T => exact (hno e.i (by simp)).elim
  induction fuel with
  | zero =>
    intro listed T S g s a w hs hv hb hsz hT hnd hit hpw hlen hcl
    have hnil : T = [] := List.eq_nil_of_length_eq_zero (by omega)
    have hr : Region.ready .any ops listed = [] := by
      rw [List.eq_nil_iff_forall_not_mem]
      intro i hi
      obtain ⟨h1, o, ho, _⟩ := mem_ready.1 hi
      have := (hT i).2 ⟨(Array.getElem?_eq_some_iff.1 ho).1, h1⟩
      rw [hnil] at this
      simp at this
    exact ⟨hr, done listed T hs hv hsz hT hr⟩
  | succ fuel ih =>
    intro listed T S g s a w hs hv hb hsz hT hnd hit hpw hlen hcl
    refine ⟨fun hr => done listed T hs hv hsz hT hr, fun i hi => ?_⟩
    obtain ⟨h1, o, ho, hpr⟩ := mem_ready.1 hi
    have hlt := (Array.getElem?_eq_some_iff.1 ho).1
    have hiT := (hT i).2 ⟨hlt, h1⟩
    obtain ⟨e, heT, hei⟩ := List.mem_map.1 hiT
    obtain ⟨T1, T2, rfl⟩ := List.append_of_mem heT
    have hprl : ∀ r ∈ preds o, listed.getD r false = true := fun r hr => by
      obtain ⟨ed, h2, h3, rfl⟩ := mem_preds.1 hr
      exact hpr ed h2 h3
    have hanc := anc_listed hc (L := fun r => listed.getD r false = true) hcl i o ho hprl
    have hind : ∀ x ∈ T1, ind x e = true := fun x hx => by
      have h2 := (List.pairwise_append.1 hpw).2.2 x hx e (by simp)
      rcases h2 with h2 | h2
      · rw [hei] at h2
        have h3 := hanc x.i h2
        have h4 := ((hT x.i).1 (List.mem_map.2 ⟨x, by simp [hx], rfl⟩))
        simp only [Array.getD_eq_getD_getElem?] at h3 h4
        cases hx2 : listed[x.i]? with
        | none => rw [hx2] at h3; simp at h3
        | some b => rw [hx2] at h3 h4; simp at h3 h4; rw [h3] at h4; simp at h4
      · exact h2
    have hv2 := hv.pull hK hind
    obtain ⟨o', ho', hcomp⟩ := hit e heT
    rw [hei] at ho'
    rw [ho] at ho'
    cases ho'
    have hsub : (T1 ++ T2).Sublist (T1 ++ e :: T2) := List.Sublist.append (List.Sublist.refl _) (List.sublist_cons_self _ _)
    refine wpOp_mono ?_ (step_wp (K := fun s' => s' = e.δ.app s) (Q := Q) ho hcomp hs (hd o (Array.mem_toList_iff.2 (Array.mem_of_getElem? ho))) (hv2.1.2 s (fun _ _ => rfl) (fun _ _ => rfl) hv2.1.1 (fun _ => rfl) _ rfl))
    rintro a' w' ⟨s', rfl, S', g', hs'⟩
    have hni : i ∉ (T1 ++ T2).map (·.i) := by
      intro hm
      rw [List.map_append, List.map_cons, List.nodup_append] at hnd
      rw [List.map_append, List.mem_append] at hm
      rcases hm with hm | hm
      · exact hnd.2.2 i hm e.i (by simp) hei.symm
      · have := (List.nodup_cons.1 hnd.2.1).1
        rw [hei] at this
        exact this hm
    refine ih (listed.setIfInBounds i true) (T1 ++ T2) hs' hv2.2 hb (by simpa using hsz) (fun k => ?_) (hnd.sublist (hsub.map _)) (fun x hx => hit x (hsub.subset hx)) (hpw.sublist hsub)
      (by simp only [List.length_append, List.length_cons] at hlen ⊢; omega) (fun k ok hk hok r hr => ?_)
    · by_cases hki : k = i
      · subst hki
        refine ⟨fun hm => (hni hm).elim, fun hm => ?_⟩
        have := hm.2
        simp [hsz, hlt] at this
      · have h3 : (listed.setIfInBounds i true).getD k true = listed.getD k true := getD_set_ne true (fun e => hki e.symm)
        rw [h3, ← hT k]
        simp only [List.map_append, List.map_cons, List.mem_append, List.mem_cons]
        constructor
        · rintro (h | h)
          · exact .inl h
          · exact .inr (.inr h)
        · rintro (h | h | h)
          · exact .inl h
          · exact (hki (h.trans hei)).elim
          · exact .inr h
    · by_cases hki : i = k
      · subst hki
        rw [ho] at hok
        cases hok
        exact getD_set_true (hprl r hr)
      · rw [getD_set_ne false hki] at hk
        exact getD_set_true (hcl k ok hk hok r hr)
end
end Go.Abs

namespace Go.Abs
open Go

/-- Code as the compiler leaves it. -/
inductive ACode where
  | skip
  | ret
  | exit (id : Nat)
  | seq (x y : ACode)
  | cond (c : AX) (x y : ACode)
  | block (id : Nat) (c : ACode)
  | loop (c : ACode)
  | reg (is : List AI)
  | draw (is : List AI) (an : List (List Nat))
  | bad

def uni : List Nat → List Nat → List Nat
  | [], ys => ys
  | x :: xs, ys => if (uni xs ys).contains x then uni xs ys else x :: uni xs ys
def ancGo : List Oper → List (List Nat) → List (List Nat)
  | [], acc => acc
  | o :: os, acc => ancGo os (acc ++ [(preds o).foldr (fun r l => uni (r :: acc.getD r []) l) []])
def ancs (ops : Array Oper) : List (List Nat) := ancGo ops.toList []

def compC (P : Program) (nt : Nat) : Code → Option ACode
  | .skip => some .skip
  | .ret => some .ret
  | .exit id => some (.exit id)
  | .seq x y => match compC P nt x, compC P nt y with
    | some a, some b => some (.seq a b)
    | _, _ => none
  | .cond c x y => match compX c, compC P nt x, compC P nt y with
    | some d, some a, some b => some (.cond d a b)
    | _, _, _ => none
  | .block id c => match compC P nt c with
    | some a => some (.block id a)
    | none => none
  | .loop c => match compC P nt c with
    | some a => some (.loop a)
    | none => none
  | .region _ ops false => match compReg P nt ops with
    | some is => some (.reg is)
    | none => none
  | .region _ ops true => match compReg P nt ops with
    | some is => if P.follows .mixedOrders = true ∧ checkAnc ops (ancs ops) = true then some (.draw is (ancs ops)) else some .bad
    | none => none
  | _ => some .bad

structure AF where
  nt : Nat
  res : List ResultVar
  body : ACode
def compF (P : Program) (f : FuncId) : Option AF :=
  match P.funcs[f]? with
  | some fn => match fn.body with
    | some c => match compC P fn.ntmps c with
      | some b => some ⟨fn.ntmps, fn.results.toList, b⟩
      | none => none
    | none => none
  | none => none

def WA (C : Cx) (B : Base) (ac : ACode) (Q : Exit → St → Prop) (s : St) : Prop := ∀ c, compC C.P B.nt c = some ac → W C B c Q s

theorem compItems_len {P : Program} {ops : Array Oper} : ∀ {l : List Oper} {is : List AI}, compItems P ops l = some is → is.length = l.length
  | [], is, h => by simp only [compItems, Option.some.injEq] at h; subst h; rfl
  | o :: l, is, h => by
    simp only [compItems] at h
    split at h
    · rename_i i is' h1 h2
      cases h
      simp [compItems_len h2]
    · cases h
theorem compReg_len {P : Program} {nt : Nat} {ops : Array Oper} {is : List AI} (h : compReg P nt ops = some is) : is.length = ops.size := by
  unfold compReg at h
  split at h
  · simpa using compItems_len h
  · cases h

section
variable {C : Cx} {B : Base} {Q : Exit → St → Prop} {s : St}

theorem WA.skip (h : Q .normal s) : WA C B .skip Q s := fun c hc => by
  have : c = .skip := by unfold compC at hc; split at hc <;> (try split at hc) <;> (try split at hc) <;> simp_all
  subst this; exact W.skip h
theorem WA.ret (h : Q .ret s) : WA C B .ret Q s := fun c hc => by
  have : c = .ret := by unfold compC at hc; split at hc <;> (try split at hc) <;> (try split at hc) <;> simp_all
  subst this; exact W.ret h
theorem WA.exit {id : Nat} (h : Q (.exit id) s) : WA C B (.exit id) Q s := fun c hc => by
  have : c = .exit id := by unfold compC at hc; split at hc <;> (try split at hc) <;> (try split at hc) <;> simp_all
  subst this; exact W.exit h
theorem WA.mono {ac : ACode} {Q' : Exit → St → Prop} (h : WA C B ac Q s) (hq : ∀ e s, Q e s → Q' e s) : WA C B ac Q' s := fun c hc => (h c hc).mono hq
theorem WA.le {ac : ACode} {s' : St} (hB : B.n0 = 0) (hr : s'.nx + s'.sz ≤ s'.cn) (hl : s.le s') (h : WA C B ac Q s') : WA C B ac Q s := fun c hc => (h c hc).le hB hr hl
theorem WA.seq {x y : ACode} (h : WA C B x (thenQ (WA C B y Q) Q) s) : WA C B (.seq x y) Q s := fun c hc => by
  have : ∃ c1 c2, c = .seq c1 c2 ∧ compC C.P B.nt c1 = some x ∧ compC C.P B.nt c2 = some y := by
    unfold compC at hc; split at hc <;> (try split at hc) <;> (try split at hc) <;> simp_all
    exact ⟨_, _, ⟨rfl, rfl⟩, by assumption, by assumption⟩
  obtain ⟨c1, c2, rfl, h1, h2⟩ := this
  refine W.seq ((h c1 h1).mono fun e s hq => ?_)
  cases e with
  | normal => exact hq c2 h2
  | _ => exact hq
theorem WA.cond {cx : AX} {x y : ACode} {b : Bool} (hb : aev C s cx = some (.bool b)) (ht : b = true → WA C B x Q s) (hf : b = false → WA C B y Q s) : WA C B (.cond cx x y) Q s := fun c hc => by
  have : ∃ d c1 c2, c = .cond d c1 c2 ∧ compX d = some cx ∧ compC C.P B.nt c1 = some x ∧ compC C.P B.nt c2 = some y := by
    unfold compC at hc; split at hc <;> (try split at hc) <;> (try split at hc) <;> simp_all
    exact ⟨_, _, _, ⟨rfl, rfl, rfl⟩, by assumption, by assumption, by assumption⟩
  obtain ⟨d, c1, c2, rfl, h0, h1, h2⟩ := this
  exact W.cond h0 hb (fun h => ht h c1 h1) (fun h => hf h c2 h2)
theorem WA.block {id : Nat} {x : ACode} (h : WA C B x (blockQ id Q) s) : WA C B (.block id x) Q s := fun c hc => by
  have : ∃ c1, c = .block id c1 ∧ compC C.P B.nt c1 = some x := by
    unfold compC at hc; split at hc <;> (try split at hc) <;> (try split at hc) <;> simp_all
  obtain ⟨c1, rfl, h1⟩ := this
  exact W.block (h c1 h1)
theorem WA.loop {σ : Type} {x : ACode} (hB : B.n0 = 0) (inv : σ → St) (I : σ → Prop) (μ : σ → Nat) (hr : ∀ x, (inv x).nx + (inv x).sz ≤ (inv x).cn) (i : σ) (hs : s.le (inv i)) (hI : I i)
    (round : ∀ i, I i → WA C B x (thenQ (fun s => ∃ i', s.le (inv i') ∧ I i' ∧ μ i' < μ i) Q) (inv i)) : WA C B (.loop x) Q s := fun c hc => by
  have : ∃ c1, c = .loop c1 ∧ compC C.P B.nt c1 = some x := by
    unfold compC at hc; split at hc <;> (try split at hc) <;> (try split at hc) <;> simp_all
  obtain ⟨c1, rfl, h1⟩ := this
  exact W.loop hB inv I μ hr hs hI fun i hi => round i hi c1 h1
theorem WA.reg {is : List AI} (h : AOps C (Q .normal) 0 is (s.enter is.length)) : WA C B (.reg is) Q s := fun c hc => by
  have : ∃ id ops, c = .region id ops false ∧ compReg C.P B.nt ops = some is := by
    unfold compC at hc; split at hc <;> (try split at hc) <;> (try split at hc) <;> simp_all
    exact ⟨_, _, ⟨rfl, rfl⟩, by assumption⟩
  obtain ⟨id, ops, rfl, h1⟩ := this
  exact W.region h1 (by rw [← compReg_len h1]; exact h)
end

/-- A region whose order is drawn, walked in the text's order, with what each step reads and writes. -/
def TR (C : Cx) (an : List (List Nat)) (base : Nat) (K : St → Prop) : Nat → List AI → St → List En → Prop
  | _, [], s, _ => K s
  | j, it :: is, s, dn => ∃ e : En, e.i = j ∧ e.it = it ∧ Snd C (base + j) s e ∧ dn.all (fun x => (an.getD j []).contains x.i || ind x e) = true ∧ TR C an base K (j + 1) is (e.δ.app s) (e :: dn)

theorem TR.val {C : Cx} {an : List (List Nat)} {base : Nat} {K : St → Prop} : ∀ {is : List AI} {j : Nat} {s : St} {dn : List En}, TR C an base K j is s dn →
    ∃ T, Val C base K s T ∧ T.map (·.i) = List.range' j is.length ∧ (∀ e ∈ T, j ≤ e.i ∧ is[e.i - j]? = some e.it) ∧ (∀ x ∈ dn, ∀ e ∈ T, x.i ∈ an.getD e.i [] ∨ ind x e = true) ∧
      T.Pairwise (fun e f => e.i ∈ an.getD f.i [] ∨ ind e f = true)
  | [], j, s, dn, h => ⟨[], h, rfl, by simp, by simp, .nil⟩
  | it :: is, j, s, dn, h => by
    obtain ⟨e, rfl, rfl, hs, hd, h⟩ := h
    obtain ⟨T, h1, h2, h3, h4, h5⟩ := TR.val h
    have hd' : ∀ x ∈ dn, x.i ∈ an.getD e.i [] ∨ ind x e = true := fun x hx => by
      have := List.all_eq_true.1 hd x hx
      simpa [List.contains_eq_mem] using this
    refine ⟨e :: T, ⟨hs, h1⟩, by simp [h2, List.range'_succ], fun f hf => ?_, fun x hx f hf => ?_, List.pairwise_cons.2 ⟨fun f hf => h4 e (by simp) f hf, h5⟩⟩
    · rcases List.mem_cons.1 hf with rfl | hf
      · exact ⟨Nat.le_refl _, by simp⟩
      · obtain ⟨h6, h7⟩ := h3 f hf
        refine ⟨by omega, ?_⟩
        have : f.i - e.i = (f.i - (e.i + 1)) + 1 := by omega
        rw [this]
        simpa using h7
    · rcases List.mem_cons.1 hf with rfl | hf
      · exact hd' x hx
      · exact h4 x (by simp [hx]) f hf

theorem compItems_get {P : Program} {ops : Array Oper} : ∀ {l : List Oper} {is : List AI}, compItems P ops l = some is → ∀ (i : Nat) (it : AI), is[i]? = some it → ∃ o : Oper, l[i]? = some o ∧ compItem P ops o = some it
  | [], is, h, i, it, hi => by simp only [compItems, Option.some.injEq] at h; subst h; simp at hi
  | o :: l, is, h, i, it, hi => by
    simp only [compItems] at h
    split at h
    · rename_i i0 is' h1 h2
      cases h
      cases i with
      | zero => simp only [List.getElem?_cons_zero, Option.some.injEq] at hi; subst hi; exact ⟨o, rfl, h1⟩
      | succ i => simpa using compItems_get h2 i it (by simpa using hi)
    · cases h

theorem Eqv.refl (s : St) : Eqv s s := ⟨fun _ => rfl, fun _ => rfl, rfl, rfl, rfl, fun _ => .rfl⟩
theorem Eqv.symm {s s' : St} (h : Eqv s s') : Eqv s' s := ⟨fun t => (h.fr t).symm, fun i => (h.hp i).symm, h.nx.symm, h.sz.symm, h.cn.symm, fun i => (h.ids i).symm⟩
theorem Eqv.trans {s s' s'' : St} (h : Eqv s s') (h' : Eqv s' s'') : Eqv s s'' :=
  ⟨fun t => (h'.fr t).trans (h.fr t), fun i => (h'.hp i).trans (h.hp i), h'.nx.trans h.nx, h'.sz.trans h.sz, h'.cn.trans h.cn, fun i => (h'.ids i).trans (h.ids i)⟩

theorem WA.draw {C : Cx} {B : Base} {Q : Exit → St → Prop} {s : St} {is : List AI} {an : List (List Nat)} (h : TR C an s.cn (Q .normal) 0 is (s.enter is.length) []) : WA C B (.draw is an) Q s := fun c hc => by
  have : ∃ id ops, c = .region id ops true ∧ compReg C.P B.nt ops = some is ∧ C.P.follows .mixedOrders = true ∧ checkAnc ops an = true := by
    unfold compC at hc; split at hc <;> (try split at hc) <;> (try split at hc) <;> simp_all
    rename_i h0
    exact ⟨_, _, ⟨rfl, rfl⟩, by assumption, h0.2⟩
  obtain ⟨id, ops, rfl, h1, hm, hck⟩ := this
  intro S g a w hs
  obtain ⟨T, hv, hix, hit, _, hpw⟩ := h.val
  have hlen := compReg_len h1
  unfold compReg at h1
  split at h1
  · rename_i hd
    let K : St → Prop := fun s' => ∃ s0, Q .normal s0 ∧ Eqv s' s0
    have hK : ∀ s s', Eqv s s' → K s → K s' := fun s s' hq ⟨s0, h0, h1⟩ => ⟨s0, h0, hq.symm.trans h1⟩
    have hQ : ∀ a w, lift1 C B K a w → lift C B Q .normal a w := fun a w ⟨s', ⟨s0, h0, h1⟩, S, g, h2⟩ => ⟨s0, h0, S, g, h2.le h1.le ⟨by rw [h1.nx, h1.cn]; exact h2.lo, by rw [h1.nx, h1.sz, h1.cn]; exact h2.rm⟩⟩
    have hvK : Val C s.cn K (s.enter is.length) T := by
      have : ∀ {T : List En} {s : St} {b : Nat}, Val C b (Q .normal) s T → Val C b K s T := by
        intro T
        induction T with
        | nil => exact fun h => ⟨_, h, Eqv.refl _⟩
        | cons e T ih => exact fun h => ⟨h.1, ih h.2⟩
      exact this hv
    refine wp_region_any hm ?_
    refine any_wp hK hQ (fun o ho => List.all_eq_true.1 hd o ho) hck s.cn ops.size (Array.replicate ops.size false) T ((hs.enter is.length).drew) hvK rfl (by simp) (fun i => ?_) ?_ (fun e he => ?_) hpw ?_ (fun i o hi => ?_)
    · rw [hix]
      simp only [List.mem_range'_1, hlen, Nat.zero_le, true_and, Nat.zero_add]
      constructor
      · intro h; exact ⟨h, by simp [h]⟩
      · exact fun h => h.1
    · rw [hix]; exact List.nodup_range'
    · obtain ⟨h2, h3⟩ := hit e he
      obtain ⟨o, ho, hc⟩ := compItems_get h1 (e.i - 0) e.it h3
      exact ⟨o, by simpa using ho, hc⟩
    · have := congrArg List.length hix
      simp only [List.length_map, List.length_range', hlen] at this
      omega
    · simp only [Array.getD_eq_getD_getElem?, Array.getElem?_replicate] at hi
      split at hi <;> simp at hi
  · cases h1

def retA (P : Program) (rs : List ResultVar) (r : V) : Exit → St → Prop
  | .normal, s => resV P s rs = some r
  | .ret, s => resV P s rs = some r
  | _, _ => False

theorem AFn.of_WA {C : Cx} {f : FuncId} {F : AF} {vs : List V} {r : V} (hF : compF C.P f = some F) (hn : vs.length ≤ F.nt)
    (hi : idfL vs = true) (hr : r.idf = true) (h : ∀ B : Base, B.n0 = 0 → WA C B F.body (retA C.P F.res r) (start 0 vs [])) : AFn C f vs r := by
  unfold compF at hF
  split at hF
  · rename_i fn hf
    split at hF
    · rename_i c hb
      split at hF
      · rename_i b hc
        cases hF
        exact AFn.of_W hf hb hn hi hr fun B h0 hB => (h B h0 c (by rw [hB]; exact hc)).mono fun e s hq => by cases e <;> exact hq
      · cases hF
    · cases hF
  · cases hF
end Go.Abs

namespace Go.Abs
open Go
/-! What each operation does, one law each: for walks by `simp only`. -/
section
variable (d : Nat) (x y z : V) (b c : Bool) (s s' : List UInt8) (k k' : IntKind) (m n : Int) (o off j kk : Nat) (tk : Option Nat) (xs ys cs : List V)
theorem act_mv : AOp.mv.act d [x] = some (True, .ret x) := rfl
theorem act_cstr : AOp.cstr.act d [.str s] = some (True, .ret (.str s)) := rfl
theorem act_pick : AOp.pick.act d [.bool c, x, y] = some (True, .ret (if c then x else y)) := rfl
theorem act_box : AOp.box.act d [x] = some (elemOk x = true, .new d x.cells) := rfl
theorem act_nilck1 : AOp.nilck.act d [.ptr o off] = some (True, .ret (.ptr o off)) := rfl
theorem act_nilck2 : AOp.nilck.act d [.cp cs off] = some (True, .ret (.cp cs off)) := rfl
theorem act_slen : AOp.slen.act d [.str s] = some (True, .ret (.int .i64 s.length)) := rfl
theorem act_len : AOp.len.act d [.sl tk kk xs] = some (True, .ret (.int .i64 xs.length)) := rfl
theorem act_len0 : AOp.len.act d [.raw (.slice none 0 0)] = some (True, .ret (.int .i64 0)) := rfl
theorem act_idxs : AOp.idxs.act d [.str s, .int k m] = some (0 ≤ m ∧ m < s.length, .ret (.int .u8 ((s.getD m.toNat 0).toNat : Int))) := rfl
theorem act_load1 : (AOp.load j b).act d [.ptr o off] = some (True, .rd o off j b) := rfl
theorem act_load2 : (AOp.load j b).act d [.cp cs off] = some (off + j ≤ cs.length, .ret (pack b ((cs.drop off).take j))) := rfl
theorem act_store : (AOp.store j).act d [.ptr o off, x] = some (x.cells.length = j ∧ elemOk x = true, .wr o off x.cells) := rfl
theorem act_bin (op : BinOp) : (AOp.bin op).act d [x, y] = (vbin op x y).map fun p => (p.1, .ret p.2) := rfl
theorem act_beq : (AOp.beq false).act d [.bool b, .bool c] = some (True, .ret (.bool (b == c))) := rfl
theorem act_bne : (AOp.beq true).act d [.bool b, .bool c] = some (True, .ret (.bool (b != c))) := rfl
theorem act_nileq (kd : Nat) : (AOp.nileq kd b).act d [x] = (isNil kd x).map fun c => (True, .ret (.bool (if b then !c else c))) := rfl
theorem act_seq (ks : List Nat) : (AOp.seq b ks).act d [.agg xs, .agg ys] = (veqs ks xs ys).map fun c => (True, .ret (.bool (if b then !c else c))) := rfl
theorem act_not : (AOp.un .not).act d [.bool b] = some (True, .ret (.bool (!b))) := rfl
theorem act_neg : (AOp.un .neg).act d [.int k m] = some (True, .ret (.int k (k.wrap (0 - m)))) := rfl
theorem act_conv : (AOp.conv k).act d [.int k' m] = some (True, .ret (.int k (k.wrap m))) := rfl
theorem act_mkif (t : Nat) : (AOp.mkif t).act d [x] = some (True, .ret (.iface t x)) := rfl
theorem act_mkfn (f : Fn) (nf : Nat) : (AOp.mkfn f nf).act d xs = some (True, .ret (.fn f (xs.take nf) (xs.drop nf))) := rfl
theorem act_sstr2 : (AOp.sstr true true).act d [.str s, .int k m, .int k' n] = some (0 ≤ m ∧ m ≤ n ∧ n ≤ s.length, .ret (.str ((s.take n.toNat).drop m.toNat))) := rfl
theorem act_sstr1 : (AOp.sstr true false).act d [.str s, .int k m] = some (0 ≤ m ∧ m ≤ s.length, .ret (.str (s.drop m.toNat))) := rfl
theorem act_sstr0 : (AOp.sstr false true).act d [.str s, .int k m] = some (0 ≤ m ∧ m ≤ s.length, .ret (.str (s.take m.toNat))) := rfl
theorem act_ssl2 (j' : Nat) : (AOp.ssl j true true).act d [.sl tk j' xs, .int k m, .int k' n] = if j' = j then some (0 ≤ m ∧ m ≤ n ∧ n ≤ xs.length, .ret (.sl none j ((xs.take n.toNat).drop m.toNat))) else none := rfl
theorem act_ssl1 (j' : Nat) : (AOp.ssl j true false).act d [.sl tk j' xs, .int k m] = if j' = j then some (0 ≤ m ∧ m ≤ xs.length, .ret (.sl none j (xs.drop m.toNat))) else none := rfl
theorem act_ssl0 (j' : Nat) : (AOp.ssl j false true).act d [.sl tk j' xs, .int k m] = if j' = j then some (0 ≤ m ∧ m ≤ xs.length, .ret (.sl none j (xs.take m.toNat))) else none := rfl
theorem act_faddr1 (f : Nat) : (AOp.faddr f).act d [.ptr o off] = some (True, .ret (.ptr o (off + f))) := rfl
theorem act_faddr2 (f : Nat) : (AOp.faddr f).act d [.cp cs off] = some (True, .ret (.cp cs (off + f))) := rfl
theorem act_fld (f : Nat) : (AOp.fld f j b).act d [.agg cs] = some (f + j ≤ cs.length, .ret (pack b ((cs.drop f).take j))) := rfl
theorem act_idxa (j' : Nat) : (AOp.idxa j).act d [.sl tk j' xs, .int k m] = if j' = j then some (0 ≤ m ∧ m < xs.length, .ret (.cp (xs.getD m.toNat (.raw .nilFunc)).cells 0)) else none := rfl
theorem act_idxarr1 (l : Nat) : (AOp.idxarr l j).act d [.ptr o off, .int k m] = some (0 ≤ m ∧ m < l, .ret (.ptr o (off + m.toNat * j))) := rfl
theorem act_idxarr2 (l : Nat) : (AOp.idxarr l j).act d [.cp cs off, .int k m] = some (0 ≤ m ∧ m < l, .ret (.cp cs (off + m.toNat * j))) := rfl
theorem act_ext : (AOp.ext j).act d [.tuple xs] = some (j < xs.length, .ret (xs.getD j (.raw .nilFunc))) := rfl
theorem act_bld (zs : List V) (ps : List (Nat × Nat)) : (AOp.bld zs ps).act d xs = (putParts zs ps xs).map fun cs => (True ∧ xs.all elemNt = true, .ret (.agg cs)) := by cases xs <;> rfl
theorem act_lit (e : Nat) : (AOp.lit e kk).act d xs = some ((xs.map V.strip).all (fun x => x.cells.length = kk && elemOk x && x.idf) = true, .lit d e kk (xs.map V.strip)) := by cases xs <;> rfl
theorem act_app1 (e bytes nn k1 k2 : Nat) : (AOp.app e kk bytes).act d [.sl (some nn) k1 xs, .sl tk k2 ys] =
    if k1 = kk ∧ k2 = kk then some (ys.all elemOk = true ∧ xs.length + ys.length ≤ 1099511627776 ∧ (xs.length + ys.length) * bytes ≤ 140737488355328, .app nn e kk xs.length (xs ++ ys)) else none := rfl
theorem act_app0 (e bytes k2 : Nat) : (AOp.app e kk bytes).act d [.raw (.slice none 0 0), .sl tk k2 ys] =
    if k2 = kk then some (ys.all elemOk = true ∧ ys.length ≤ 1099511627776 ∧ ys.length * bytes ≤ 140737488355328, .appnil d e kk ys) else none := rfl
theorem act_boxs : AOp.boxs.act d [x] = some (elemOk x = true ∧ x.idf = true, .sealb x.cells) := rfl
theorem act_mm : (AOp.mm b).act d [.int k m, .int k' n] = if k = k' then some (True, .ret (.int k (if b then (if m < n then n else m) else (if n < m then n else m)))) else none := rfl
/-! Arithmetic. -/
theorem vb_add : vbin .add (.int k m) (.int k n) = some (True, .int k (k.wrap (m + n))) := by simp [vbin, isShift, iop]
theorem vb_sub : vbin .sub (.int k m) (.int k n) = some (True, .int k (k.wrap (m - n))) := by simp [vbin, isShift, iop]
theorem vb_mul : vbin .mul (.int k m) (.int k n) = some (True, .int k (k.wrap (m * n))) := by simp [vbin, isShift, iop]
theorem vb_quo : vbin .quo (.int k m) (.int k n) = some (n ≠ 0, .int k (k.wrap (m.tdiv n))) := by simp [vbin, isShift, iop]
theorem vb_rem : vbin .rem (.int k m) (.int k n) = some (n ≠ 0, .int k (m.tmod n)) := by simp [vbin, isShift, iop]
theorem vb_and : vbin .and (.int k m) (.int k n) = some (True, .int k (k.wrap ((BitVec.ofInt k.bits m &&& BitVec.ofInt k.bits n).toNat : Int))) := by simp [vbin, isShift, iop]
theorem vb_or : vbin .or (.int k m) (.int k n) = some (True, .int k (k.wrap ((BitVec.ofInt k.bits m ||| BitVec.ofInt k.bits n).toNat : Int))) := by simp [vbin, isShift, iop]
theorem vb_xor : vbin .xor (.int k m) (.int k n) = some (True, .int k (k.wrap ((BitVec.ofInt k.bits m ^^^ BitVec.ofInt k.bits n).toNat : Int))) := by simp [vbin, isShift, iop]
theorem vb_shl : vbin .shl (.int k m) (.int k' n) = some (0 ≤ n, .int k (k.wrap (m * 2 ^ (min n.toNat k.bits)))) := by simp [vbin, isShift, shop]
theorem vb_shr : vbin .shr (.int k m) (.int k' n) = some (0 ≤ n, .int k (m.fdiv (2 ^ (min n.toNat k.bits)))) := by simp [vbin, isShift, shop]
theorem vb_eql : vbin .eql (.int k m) (.int k n) = some (True, .bool (m == n)) := by simp [vbin, isShift, iop]
theorem vb_neq : vbin .neq (.int k m) (.int k n) = some (True, .bool (m != n)) := by simp [vbin, isShift, iop]
theorem vb_lss : vbin .lss (.int k m) (.int k n) = some (True, .bool (decide (m < n))) := by simp [vbin, isShift, iop]
theorem vb_leq : vbin .leq (.int k m) (.int k n) = some (True, .bool (decide (m ≤ n))) := by simp [vbin, isShift, iop]
theorem vb_gtr : vbin .gtr (.int k m) (.int k n) = some (True, .bool (decide (n < m))) := by simp [vbin, isShift, iop]
theorem vb_geq : vbin .geq (.int k m) (.int k n) = some (True, .bool (decide (n ≤ m))) := by simp [vbin, isShift, iop]
theorem vb_sadd : vbin .add (.str s) (.str s') = some (s.length + s'.length ≤ 9223372036854775807, .str (s ++ s')) := rfl
theorem vb_seql : vbin .eql (.str s) (.str s') = some (True, .bool (s == s')) := rfl
theorem vb_sneq : vbin .neq (.str s) (.str s') = some (True, .bool (!(s == s'))) := rfl
theorem vb_slss : vbin .lss (.str s) (.str s') = some (True, .bool (Op.bytesLess s s')) := rfl
theorem vb_sleq : vbin .leq (.str s) (.str s') = some (True, .bool (Op.bytesLess s s' || s == s')) := rfl
theorem vb_sgtr : vbin .gtr (.str s) (.str s') = some (True, .bool (!(Op.bytesLess s s' || s == s'))) := rfl
theorem vb_sgeq : vbin .geq (.str s) (.str s') = some (True, .bool (!Op.bytesLess s s')) := rfl
end
/-! Steps. -/
section
variable {C : Cx} {K : St → Prop} {dd : Nat} {s s' : St} {dst : Option Nat} {gd : Option (Nat × Bool)} {o : AOp} {xs : List AX} {vs : List V} {p : Prop} {e : Eff} {j : Nat} {is : List AI}
theorem gdo_none {A : Prop} : gdo s none dst A K = A := rfl
theorem gdo_yes {A : Prop} {t : Nat} {w : Bool} (h : lk s.fr t = some (.bool w)) : gdo s (some (t, w)) dst A K = A := by
  simp only [gdo, h]; cases w <;> simp
theorem gdo_no {A : Prop} {t : Nat} {w : Bool} (h : lk s.fr t = some (.bool (!w))) : gdo s (some (t, w)) dst A K = K (s.put dst (.tuple [])) := by
  simp only [gdo, h]; cases w <;> simp
theorem gdo_un {A : Prop} {t : Nat} {w : Bool} (h : lk s.fr t = some (.tuple [])) : gdo s (some (t, w)) dst A K = K (s.put dst (.tuple [])) := by
  simp only [gdo, h]
theorem AOps_nil : AOps C K j [] s = K s := rfl
/-- A step that only gives a value. -/
theorem sRet {v : V} (hx : aevs C s xs = some vs) (ha : o.act (s.nx + j) vs = some (p, .ret v)) (hp : p) (h : AOps C K (j + 1) is (s.put dst v)) :
    AOps C K j (.op dst none o xs :: is) s := by
  simp only [AOps, AStep, gdo, actP, hx, ha, Eff.st]; exact ⟨hp, h⟩
end
end Go.Abs

namespace Go.Abs
open Go
def AI.bare : AI → AI
  | .op d _ o xs => .op d none o xs
  | .call d _ f xs => .call d none f xs
  | .dyn d _ f xs => .dyn d none f xs
  | .bad d _ => .bad d none
def AI.gd : AI → Option (Nat × Bool)
  | .op _ g _ _ => g
  | .call _ g _ _ => g
  | .dyn _ g _ _ => g
  | .bad _ g => g
def AI.dst : AI → Option Nat
  | .op d _ _ _ => d
  | .call d _ _ _ => d
  | .dyn d _ _ _ => d
  | .bad d _ => d
section
variable {C : Cx} {K : St → Prop} {dd : Nat} {s s' : St} {dst : Option Nat} {gd : Option (Nat × Bool)} {o : AOp} {xs : List AX} {vs : List V} {p : Prop} {e : Eff} {j : Nat} {is : List AI} {it : AI}
theorem sYes {t : Nat} {w : Bool} (hg : it.gd = some (t, w)) (h : lk s.fr t = some (.bool w)) (h1 : AOps C K j (it.bare :: is) s) : AOps C K j (it :: is) s := by
  cases it <;> simp only [AI.gd] at hg <;> subst hg <;> simp only [AOps, AStep] <;> rw [gdo_yes h] <;> first | (simp [AOps, AStep, AI.bare, gdo] at h1; done) | (simp [AOps, AStep, AI.bare, gdo] at h1; exact h1) | (simp [AOps, AStep, AI.bare, gdo] at h1 ⊢; exact h1)
theorem sNo {t : Nat} {w : Bool} (hg : it.gd = some (t, w)) (h : lk s.fr t = some (.bool (!w))) (h1 : AOps C K (j + 1) is (s.put it.dst (.tuple []))) : AOps C K j (it :: is) s := by
  cases it <;> simp only [AI.gd] at hg <;> subst hg <;> simp only [AOps, AStep] <;> rw [gdo_no h] <;> exact h1
theorem sUn {t : Nat} {w : Bool} (hg : it.gd = some (t, w)) (h : lk s.fr t = some (.tuple [])) (h1 : AOps C K (j + 1) is (s.put it.dst (.tuple []))) : AOps C K j (it :: is) s := by
  cases it <;> simp only [AI.gd] at hg <;> subst hg <;> simp only [AOps, AStep] <;> rw [gdo_un h] <;> exact h1
/-- A step that gives a truth value: it gets a name. -/
theorem sBool {b : Bool} (hx : aevs C s xs = some vs) (ha : o.act (s.nx + j) vs = some (p, .ret (.bool b))) (hp : p) (h : ∀ c, c = b → AOps C K (j + 1) is (s.put dst (.bool c))) :
    AOps C K j (.op dst none o xs :: is) s := sRet hx ha hp (h b rfl)
/-- A step that touches objects. -/
theorem sEff (hx : aevs C s xs = some vs) (ha : o.act (s.nx + j) vs = some (p, e)) (he : e.st dst s = some s') (hp : p) (h : AOps C K (j + 1) is s') :
    AOps C K j (.op dst none o xs :: is) s := by
  simp only [AOps, AStep, gdo, actP, hx, ha, he]; exact ⟨hp, h⟩
/-- A call of values alone. -/
theorem sFn {f : FuncId} {r : V} (hx : aevs C s xs = some vs) (hf : AFn C f vs r) (h : AOps C K (j + 1) is (s.put dst r)) : AOps C K j (.call dst none f xs :: is) s := by
  simp only [AOps, AStep, gdo, hx]; exact .inl ⟨r, hf, h⟩
theorem sEnd (h : K s) : AOps C K j [] s := h
end
end Go.Abs

namespace Go.Abs
open Go
/-! Steps in a region of drawn order. -/
def Eff.dl : Eff → Option Nat → St → Option D
  | .ret v, d, _ => some ⟨d.map (·, v), [], [], [], none⟩
  | .rd o off n ag, d, s =>
    match lk s.hp o with
    | some (.cells cs) => if off + n ≤ cs.length then some ⟨d.map (·, pack ag ((cs.drop off).take n)), [], [], [], none⟩ else none
    | _ => none
  | .wr o off vs, d, s =>
    match lk s.hp o with
    | some (.cells cs) => if off + vs.length ≤ cs.length ∧ vs.all oneV then some ⟨d.map (·, .tuple []), [], [(o, .cells (splice cs off vs))], [], none⟩ else none
    | _ => none
  | .new o cs, d, s => if s.fresh o then some ⟨d.map (·, .ptr o 0), [], [(o, .cells cs)], [o], none⟩ else none
  | .lit n e k xs, d, s => if s.fresh n then some ⟨d.map (·, .sl (some n) k xs), [], [(n, .tok e k xs.length)], [n], none⟩ else none
  | .appnil n e k xs, d, s => if s.fresh n then some ⟨d.map (·, .sl (some n) k xs), [], [(n, .tok e k xs.length)], [n], none⟩ else none
  | .app n e k l xs, d, s =>
    match lk s.hp n with
    | some (.tok e' k' l') => if e' = e ∧ k' = k ∧ l' = l then some ⟨d.map (·, .sl (some n) k xs), [], [(n, .tok e k xs.length)], [], none⟩ else none
    | _ => none
  | .newsl o cs n, d, s => if s.fresh o then some ⟨d.map (·, .ls o 0 1 n), [], [(o, .cells cs)], [o], none⟩ else none
  | .newit o m, d, s => if s.fresh o then match lk s.hp m with
    | some (.map clock _) => some ⟨d.map (·, .ptr o 0), [], [(o, .iter m clock [] clock)], [o], none⟩
    | _ => none
    else none
  | .newm o, d, s => if s.fresh o then some ⟨d.map (·, .mp o), [], [(o, .map 0 [])], [o], none⟩ else none
  | .mrd o kd k ok z, d, s =>
    match lk s.hp o with
    | some (.map _ es) => match mfind kd k es with
      | some r => some ⟨d.map (·, mres ok z r), [], [], [], none⟩
      | none => none
    | _ => none
  | .mwr o kd k v, d, s =>
    match lk s.hp o with
    | some (.map clock es) => match Abs.mput kd k v clock es with
      | some (es', b) => some ⟨d.map (·, .tuple []), [], [(o, .map (if b then clock else clock + 1) es')], [], none⟩
      | none => none
    | _ => none
  | .sealed k xs, d, _ => some ⟨d.map (·, .sl none k xs), [], [], [], none⟩
  | .newsit o l, d, s => if s.fresh o then some ⟨d.map (·, .ptr o 0), [], [(o, .sit l 0)], [o], none⟩ else none
  | .snxt _, _, _ => none
  | .sealb cs, d, _ => some ⟨d.map (·, .cp cs 0), [], [], [], none⟩
  | .nxt _, _, _ => none
  | .ent _, _, _ => none
def Eff.hs : Eff → List Nat
  | .rd o _ _ _ => [o]
  | .wr o _ _ => [o]
  | .app n _ _ _ _ => [n]
  | .newit _ m => [m]
  | .mrd o _ _ _ _ => [o]
  | .mwr o _ _ _ => [o]
  | _ => []

theorem Eff.dl_st {e : Eff} {d : Option Nat} {s : St} {δ : D} (h : e.dl d s = some δ) : e.st d s = some (δ.app s) := by
  cases e <;> simp only [Eff.dl] at h <;> simp only [Eff.st]
  case ret => cases h; cases d <;> rfl
  case sealed => cases h; cases d <;> rfl
  case sealb => cases h; cases d <;> rfl
  case newsit => split at h <;> cases h
                 rename_i h1
                 simp only [h1, if_true]; cases d <;> rfl
  case snxt => cases h
  case rd o off n ag =>
    split at h <;> try (cases h; done)
    rename_i cs h1
    split at h <;> cases h
    rename_i h2
    rw [h1]; simp only [h2, if_true]; cases d <;> rfl
  case wr o off vs =>
    split at h <;> try (cases h; done)
    rename_i cs h1
    split at h <;> cases h
    rename_i h2
    rw [h1]; simp only [h2]; cases d <;> rfl
  case app n e k l xs =>
    split at h <;> try (cases h; done)
    rename_i e' k' l' h1
    split at h <;> cases h
    rename_i h2
    rw [h1]; simp only [h2]; cases d <;> rfl
  case mrd o kd k ok z =>
    split at h <;> try (cases h; done)
    rename_i es h1
    split at h <;> cases h
    rename_i r h2
    rw [h1]; simp only [h2]; cases d <;> rfl
  case mwr o kd k v =>
    split at h <;> try (cases h; done)
    rename_i es h1
    split at h <;> cases h
    rename_i r h2
    rw [h1]; simp only [h2]; cases d <;> rfl
  case newm => split at h <;> cases h
               rename_i h1
               simp only [h1, if_true]; cases d <;> rfl
  case newsl => split at h <;> cases h
                rename_i h1
                simp only [h1, if_true]; cases d <;> rfl
  case newit o m =>
    split at h <;> try (cases h; done)
    rename_i h1
    split at h <;> try (cases h; done)
    rename_i h2
    cases h
    simp only [h1, if_true, h2]; cases d <;> rfl
  case nxt => cases h
  case ent => cases h
  case new => split at h <;> cases h
              rename_i h1
              simp only [h1, if_true]; cases d <;> rfl
  case lit => split at h <;> cases h
              rename_i h1
              simp only [h1, if_true]; cases d <;> rfl
  case appnil => split at h <;> cases h
                 rename_i h1
                 simp only [h1, if_true]; cases d <;> rfl

theorem Eff.dl_loc {e : Eff} {d : Option Nat} {s s' : St} {δ : D} (h : e.dl d s = some δ) (hh : ∀ i ∈ e.hs, lk s'.hp i = lk s.hp i) (hf : ∀ i ∈ δ.ids, s'.fresh i = true) : e.dl d s' = some δ := by
  cases e <;> simp only [Eff.dl] at h ⊢ <;> try exact h
  case rd => rw [hh _ (by simp [Eff.hs])]; exact h
  case wr => rw [hh _ (by simp [Eff.hs])]; exact h
  case app => rw [hh _ (by simp [Eff.hs])]; exact h
  case mrd => rw [hh _ (by simp [Eff.hs])]; exact h
  case mwr => rw [hh _ (by simp [Eff.hs])]; exact h
  case newm => split at h <;> cases h; simp [hf _ (List.mem_singleton.2 rfl)]
  case newsit => split at h <;> cases h; simp [hf _ (List.mem_singleton.2 rfl)]
  case newsl => split at h <;> cases h; simp [hf _ (List.mem_singleton.2 rfl)]
  case newit o m =>
    rw [hh _ (by simp [Eff.hs])]
    split at h <;> try (cases h; done)
    rename_i h1
    split at h <;> try (cases h; done)
    rename_i h2
    cases h
    simp [hf _ (List.mem_singleton.2 rfl)]
  case new => split at h <;> cases h; simp [hf _ (List.mem_singleton.2 rfl)]
  case lit => split at h <;> cases h; simp [hf _ (List.mem_singleton.2 rfl)]
  case appnil => split at h <;> cases h; simp [hf _ (List.mem_singleton.2 rfl)]

theorem Eff.dl_fresh {e : Eff} {d : Option Nat} {s : St} {δ : D} (h : e.dl d s = some δ) : ∀ i ∈ δ.ids, s.fresh i = true := by
  intro i hi
  cases e <;> simp only [Eff.dl] at h
  case ret => cases h; cases hi
  case sealb => cases h; cases hi
  case newsit =>
    split at h <;> cases h
    rename_i h1
    cases List.mem_singleton.1 hi; exact h1
  case snxt => cases h
  case sealed => cases h; cases hi
  case rd => split at h <;> try (cases h; done)
             split at h <;> cases h
             cases hi
  case wr => split at h <;> try (cases h; done)
             split at h <;> cases h
             cases hi
  case app => split at h <;> try (cases h; done)
              split at h <;> cases h
              cases hi
  case mrd => split at h <;> try (cases h; done)
              split at h <;> cases h
              cases hi
  case mwr => split at h <;> try (cases h; done)
              split at h <;> cases h
              cases hi
  case newm => split at h <;> cases h
               rename_i h1
               rw [List.mem_singleton.1 hi]; exact h1
  case newit => split at h <;> try (cases h; done)
                rename_i h1
                split at h <;> cases h
                rw [List.mem_singleton.1 hi]; exact h1
  case nxt => cases h
  case ent => cases h
  case newsl => split at h <;> cases h
                rename_i h1
                rw [List.mem_singleton.1 hi]; exact h1
  case new => split at h <;> cases h
              rename_i h1
              rw [List.mem_singleton.1 hi]; exact h1
  case lit => split at h <;> cases h
              rename_i h1
              rw [List.mem_singleton.1 hi]; exact h1
  case appnil => split at h <;> cases h
                 rename_i h1
                 rw [List.mem_singleton.1 hi]; exact h1

def slots : List AX → List Nat
  | [] => []
  | .t n :: xs => n :: slots xs
  | _ :: xs => slots xs
theorem aev_loc {C : Cx} {s s' : St} {x : AX} (h : ∀ t ∈ slots [x], lk s'.fr t = lk s.fr t) : aev C s' x = aev C s x := by
  cases x with
  | t n => exact h n (by simp [slots])
  | c v => rfl
  | g n => rfl
theorem aevs_loc {C : Cx} {s s' : St} : ∀ {xs : List AX}, (∀ t ∈ slots xs, lk s'.fr t = lk s.fr t) → aevs C s' xs = aevs C s xs
  | [], _ => rfl
  | x :: xs, h => by
    have h1 : aev C s' x = aev C s x := aev_loc fun t ht => h t (by cases x <;> simp_all [slots])
    have h2 : aevs C s' xs = aevs C s xs := aevs_loc fun t ht => h t (by cases x <;> simp_all [slots])
    simp only [aevs, h1, h2]

def gslot : Option (Nat × Bool) → List Nat
  | none => []
  | some (t, _) => [t]
/-- The guard lets it run. -/
def gok (s : St) : Option (Nat × Bool) → Bool
  | none => true
  | some (t, w) => match lk s.fr t with
    | some (.bool b) => b == w
    | _ => false
theorem gdo_ok {s s' : St} {gd : Option (Nat × Bool)} {dst : Option Nat} {A : Prop} {K : St → Prop} (h : gok s gd = true) (hl : ∀ t ∈ gslot gd, lk s'.fr t = lk s.fr t) (hA : A) : gdo s' gd dst A K := by
  cases gd with
  | none => exact hA
  | some p =>
    obtain ⟨t, w⟩ := p
    simp only [gok] at h
    split at h
    · rename_i b hb
      have : b = w := by simpa using h
      subst this
      rw [gdo_yes (by rw [hl t (by simp [gslot])]; exact hb)]
      exact hA
    · cases h
/-- The guard forbids it. -/
def gno (s : St) : Option (Nat × Bool) → Bool
  | none => false
  | some (t, w) => match lk s.fr t with
    | some (.bool b) => b == !w
    | some (.tuple []) => true
    | _ => false
theorem gdo_skip {s s' : St} {gd : Option (Nat × Bool)} {dst : Option Nat} {A : Prop} {K : St → Prop} (h : gno s gd = true) (hl : ∀ t ∈ gslot gd, lk s'.fr t = lk s.fr t) (hK : K (s'.put dst (.tuple []))) : gdo s' gd dst A K := by
  cases gd with
  | none => cases h
  | some p =>
    obtain ⟨t, w⟩ := p
    simp only [gno] at h
    split at h
    · rename_i b hb
      have : b = !w := by simpa using h
      subst this
      rw [gdo_no (by rw [hl t (by simp [gslot])]; exact hb)]
      exact hK
    · rename_i hb
      rw [gdo_un (by rw [hl t (by simp [gslot])]; exact hb)]
      exact hK
    · cases h

section
variable {C : Cx} {K : St → Prop} {s s' : St} {dst : Option Nat} {gd : Option (Nat × Bool)} {o : AOp} {xs : List AX} {vs : List V} {p : Prop} {e : Eff} {j base : Nat} {is : List AI} {an : List (List Nat)} {dn : List En} {δ : D}

def chk (an : List (List Nat)) (j : Nat) (e : En) (dn : List En) : Bool := dn.all fun x => (an.getD j []).contains x.i || ind x e

theorem tOp (hg : gok s gd = true) (hx : aevs C s xs = some vs) (ha : o.act (base + j) vs = some (p, e)) (hD : e.dl dst s = some δ) (hp : p)
    (hc : chk an j ⟨j, .op dst gd o xs, gslot gd ++ slots xs, e.hs, δ⟩ dn = true) (h : TR C an base K (j + 1) is (δ.app s) (⟨j, .op dst gd o xs, gslot gd ++ slots xs, e.hs, δ⟩ :: dn)) :
    TR C an base K j (.op dst gd o xs :: is) s dn := by
  refine ⟨_, rfl, rfl, ⟨Eff.dl_fresh hD, fun s' h1 h2 h3 _ K' hK' => ?_⟩, hc, h⟩
  refine gdo_ok hg (fun t ht => h1 t (by simp [ht])) ?_
  have hx' : aevs C s' xs = some vs := by rw [aevs_loc (s := s) fun t ht => h1 t (by simp [ht])]; exact hx
  simp only [actP, hx', ha, Eff.dl_st (Eff.dl_loc hD h2 h3)]
  exact ⟨hp, hK'⟩
theorem tSkip {it : AI} (hg : gno s it.gd = true) (hc : chk an j ⟨j, it, gslot it.gd, [], ⟨it.dst.map (·, .tuple []), [], [], [], none⟩⟩ dn = true)
    (h : TR C an base K (j + 1) is (D.app ⟨it.dst.map (·, .tuple []), [], [], [], none⟩ s) (⟨j, it, gslot it.gd, [], ⟨it.dst.map (·, .tuple []), [], [], [], none⟩⟩ :: dn)) :
    TR C an base K j (it :: is) s dn := by
  refine ⟨_, rfl, rfl, ⟨fun d hd => (by cases hd), fun s' h1 h2 h3 _ K' hK' => ?_⟩, hc, h⟩
  have hK2 : K' (s'.put it.dst (.tuple [])) := by
    have : D.app ⟨it.dst.map (·, .tuple []), [], [], [], none⟩ s' = s'.put it.dst (.tuple []) := by cases it.dst <;> rfl
    rw [← this]; exact hK'
  cases it <;> exact gdo_skip hg h1 hK2
theorem tFn {f : FuncId} {r : V} (hg : gok s gd = true) (hx : aevs C s xs = some vs) (hf : AFn C f vs r)
    (hc : chk an j ⟨j, .call dst gd f xs, gslot gd ++ slots xs, [], ⟨dst.map (·, r), [], [], [], none⟩⟩ dn = true)
    (h : TR C an base K (j + 1) is (D.app ⟨dst.map (·, r), [], [], [], none⟩ s) (⟨j, .call dst gd f xs, gslot gd ++ slots xs, [], ⟨dst.map (·, r), [], [], [], none⟩⟩ :: dn)) :
    TR C an base K j (.call dst gd f xs :: is) s dn := by
  refine ⟨_, rfl, rfl, ⟨fun d hd => (by cases hd), fun s' h1 h2 h3 _ K' hK' => ?_⟩, hc, h⟩
  refine gdo_ok hg (fun t ht => h1 t (by simp [ht])) ?_
  have hx' : aevs C s' xs = some vs := by rw [aevs_loc (s := s) fun t ht => h1 t (by simp [ht])]; exact hx
  simp only [hx']
  refine .inl ⟨r, hf, ?_⟩
  have : D.app ⟨dst.map (·, r), [], [], [], none⟩ s' = s'.put dst r := by cases dst <;> rfl
  rw [← this]; exact hK'
theorem tEnd (h : K s) : TR C an base K j [] s dn := h
end
end Go.Abs

