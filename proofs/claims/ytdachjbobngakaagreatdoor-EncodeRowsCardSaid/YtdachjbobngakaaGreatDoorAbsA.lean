/-
  Abstract values for the model's values and memory: what each single operation does to them, proved against the model. No program. No conditions beyond those in the statements.
-/
import Derived.Calls
import Derived.Orders
import Derived.Laws.Sem
import Derived.Laws.World
import Derived.Laws.AppendOwn
import Derived.Lib.Bytealg
import Derived.Laws.Strings
import Derived.IntWalk
import Derived.Laws.StructEq
import Derived.Laws.Slices
import Derived.Laws.IdiomStrings
import Derived.Laws.BytesArg
import Derived.Laws.Tables
import Derived.Laws.CopyRow
import Derived.MapKept
namespace Go.Abs
open Go

/-- Abstract values. -/
inductive V where
  | int (k : IntKind) (n : Int)
  | bool (b : Bool)
  | str (s : List UInt8)
  | raw (v : Value)
  | ptr (o off : Nat)
  | cp (cs : List V) (off : Nat)
  | mp (o : Nat)
  | sl (tk : Option Nat) (k : Nat) (xs : List V)
  | agg (cs : List V)
  | tuple (vs : List V)
  | iface (t : TypeId) (v : V)
  | fn (f : Fn) (first caps : List V)
  | ls (o off k n : Nat)
  deriving Inhabited

/-- Where an abstract id lies. -/
inductive Loc where
  | obj (b : Nat)
  | arr (a : Option Addr) (len cap : Nat)

abbrev Seal := Nat → Option (List Value)
abbrev Locs := Nat → Option Loc

def scalar : Value → Prop
  | .agg _ => False
  | .tuple _ => False
  | _ => True

mutual
def VR (S : Seal) : Locs → V → Value → Prop
  | _, .int k n, v => v = .int k n
  | _, .bool b, v => v = .bool b
  | _, .str l, v => v = .string ⟨l.toArray⟩
  | _, .raw w, v => v = w ∧ scalar w
  | g, .ptr o off, v => ∃ b, g o = some (.obj b) ∧ v = .pointer (some ⟨b, off, none⟩)
  | _, .cp cs off, v => ∃ b i p, S b = some p ∧ v = .pointer (some ⟨b, i + off, none⟩) ∧ ∀ g, VRs S g cs (p.drop i)
  | g, .mp o, v => ∃ b, g o = some (.obj b) ∧ v = .map (some b)
  | g, .ls o off _ n, v => ∃ b cap, g o = some (.obj b) ∧ v = .slice (some ⟨b, off, none⟩) n cap ∧ n ≤ cap
  | g, .sl tk k xs, v => ∃ a len cap, v = .slice a len cap ∧ len = xs.length ∧ len ≤ cap ∧
      (xs = [] ∨ ∃ b i p, a = some ⟨b, i, none⟩ ∧ S b = some p ∧ VRe S k xs (p.drop i)) ∧
      (∀ n, tk = some n → ∃ a' l' c', g n = some (.arr a' l' c') ∧ len ≤ l' ∧ (len = l' → a = a' ∧ cap = c'))
  | g, .agg cs, v => ∃ ws, v = .agg ws ∧ ws.size = cs.length ∧ VRs S g cs ws.toList
  | g, .tuple cs, v => ∃ ws, v = .tuple ws ∧ ws.size = cs.length ∧ VRs S g cs ws.toList
  | g, .iface t x, v => ∃ w, v = .iface t w ∧ VR S g x w
  | g, .fn f fs cs, v => ∃ ws us, v = .func f ws us ∧ ws.size = fs.length ∧ us.size = cs.length ∧ VRs S g fs ws.toList ∧ VRs S g cs us.toList
def VRs (S : Seal) : Locs → List V → List Value → Prop
  | _, [], _ => True
  | g, x :: xs, vs => ∃ v r, vs = v :: r ∧ VR S g x v ∧ VRs S g xs r
def VRe (S : Seal) : Nat → List V → List Value → Prop
  | _, [], _ => True
  | k, x :: xs, vs => ∃ v r, vs = v.cells.toList ++ r ∧ v.cells.size = k ∧ (∀ g, VR S g x v) ∧ VRe S k xs r
end

mutual
def V.idf : V → Bool
  | .ptr _ _ => false
  | .mp _ => false
  | .ls _ _ _ _ => false
  | .sl tk _ _ => tk.isNone
  | .agg cs => idfL cs
  | .tuple cs => idfL cs
  | .iface _ x => x.idf
  | .fn _ fs cs => idfL fs && idfL cs
  | _ => true
def idfL : List V → Bool
  | [] => true
  | x :: xs => x.idf && idfL xs
end

/-- Sealed memory only grows. -/
def SLe (S S' : Seal) : Prop := ∀ b p, S b = some p → ∃ p', S' b = some p' ∧ p <+: p'
theorem SLe.refl (S : Seal) : SLe S S := fun _ p h => ⟨p, h, List.prefix_rfl⟩
theorem SLe.trans {S S' S'' : Seal} (h : SLe S S') (h' : SLe S' S'') : SLe S S'' := fun b p hp =>
  let ⟨p', hp', e⟩ := h b p hp
  let ⟨p'', hp'', e'⟩ := h' b p' hp'
  ⟨p'', hp'', e.trans e'⟩

/-- An id's place stays, or its array has grown. -/
def gle (g g' : Locs) (i : Nat) : Prop :=
  g' i = g i ∨ ∃ a l c a' l' c', g i = some (.arr a l c) ∧ g' i = some (.arr a' l' c') ∧ l < l'

theorem drop_prefix {α : Type} {p p' : List α} (h : p <+: p') (i : Nat) : p.drop i <+: p'.drop i := by
  obtain ⟨r, rfl⟩ := h
  rw [List.drop_append]
  exact List.prefix_append _ _

mutual
theorem VR.mono {S S' : Seal} (hS : SLe S S') : ∀ (x : V) {g g' : Locs} {v : Value}, (∀ i, g i ≠ none → gle g g' i) → VR S g x v → VR S' g' x v
  | .int _ _, _, _, _, _, h => h
  | .bool _, _, _, _, _, h => h
  | .str _, _, _, _, _, h => h
  | .raw _, _, _, _, _, h => h
  | .ptr o off, g, g', v, hg, h => by
    obtain ⟨b, hb, rfl⟩ := h
    rcases hg o (by rw [hb]; simp) with e | ⟨a, l, c, a', l', c', e, _, _⟩
    · exact ⟨b, by rw [e]; exact hb, rfl⟩
    · rw [hb] at e; cases e
  | .ls o off k n, g, g', v, hg, h => by
    obtain ⟨b, cap, hb, rfl, hn⟩ := h
    rcases hg o (by rw [hb]; simp) with e | ⟨a, l, c, a', l', c', e, _, _⟩
    · exact ⟨b, cap, by rw [e]; exact hb, rfl, hn⟩
    · rw [hb] at e; cases e
  | .mp o, g, g', v, hg, h => by
    obtain ⟨b, hb, rfl⟩ := h
    rcases hg o (by rw [hb]; simp) with e | ⟨a, l, c, a', l', c', e, _, _⟩
    · exact ⟨b, by rw [e]; exact hb, rfl⟩
    · rw [hb] at e; cases e
  | .cp cs off, g, g', v, hg, h => by
    obtain ⟨b, i, p, hp, rfl, hr⟩ := h
    obtain ⟨p', hp', e⟩ := hS b p hp
    exact ⟨b, i, p', hp', rfl, fun g0 => VRs.mono hS cs (drop_prefix e i) (fun _ _ => .inl rfl) (hr g0)⟩
  | .sl tk k xs, g, g', v, hg, h => by
    obtain ⟨a, len, cap, rfl, hl, hc, hx, ht⟩ := h
    refine ⟨a, len, cap, rfl, hl, hc, ?_, ?_⟩
    · rcases hx with hx | ⟨b, i, p, ha, hp, hr⟩
      · exact .inl hx
      · obtain ⟨p', hp', e⟩ := hS b p hp
        exact .inr ⟨b, i, p', ha, hp', VRe.mono hS k xs (drop_prefix e i) hr⟩
    · intro n hn
      obtain ⟨a1, l1, c1, e1, h1, h2⟩ := ht n hn
      rcases hg n (by rw [e1]; simp) with e | ⟨a0, l0, c0, a2, l2, c2, e0, e2, hlt⟩
      · exact ⟨a1, l1, c1, by rw [e]; exact e1, h1, h2⟩
      · rw [e1] at e0
        cases e0
        exact ⟨a2, l2, c2, e2, by omega, fun he => absurd he (by omega)⟩
  | .agg cs, g, g', v, hg, h => by
    obtain ⟨ws, rfl, hs, hr⟩ := h
    exact ⟨ws, rfl, hs, VRs.mono hS cs List.prefix_rfl hg hr⟩
  | .tuple cs, g, g', v, hg, h => by
    obtain ⟨ws, rfl, hs, hr⟩ := h
    exact ⟨ws, rfl, hs, VRs.mono hS cs List.prefix_rfl hg hr⟩
  | .iface t x, g, g', v, hg, h => by
    obtain ⟨w, rfl, hr⟩ := h
    exact ⟨w, rfl, VR.mono hS x hg hr⟩
  | .fn f fs cs, g, g', v, hg, h => by
    obtain ⟨ws, us, rfl, h1, h2, h3, h4⟩ := h
    exact ⟨ws, us, rfl, h1, h2, VRs.mono hS fs List.prefix_rfl hg h3,
      VRs.mono hS cs List.prefix_rfl hg h4⟩
theorem VRs.mono {S S' : Seal} (hS : SLe S S') : ∀ (xs : List V) {g g' : Locs} {vs vs' : List Value}, vs <+: vs' → (∀ i, g i ≠ none → gle g g' i) → VRs S g xs vs → VRs S' g' xs vs'
  | [], _, _, _, _, _, _, _ => trivial
  | x :: xs, g, g', vs, vs', he, hg, h => by
    obtain ⟨v, r, rfl, h1, h2⟩ := h
    obtain ⟨r', rfl⟩ := he
    exact ⟨v, r ++ r', rfl, VR.mono hS x hg h1,
      VRs.mono hS xs (List.prefix_append _ _) hg h2⟩
theorem VRe.mono {S S' : Seal} (hS : SLe S S') : ∀ (k : Nat) (xs : List V) {vs vs' : List Value}, vs <+: vs' → VRe S k xs vs → VRe S' k xs vs'
  | _, [], _, _, _, _ => trivial
  | k, x :: xs, vs, vs', he, h => by
    obtain ⟨v, r, rfl, h1, h2, h3⟩ := h
    obtain ⟨r', rfl⟩ := he
    exact ⟨v, r ++ r', by simp, h1, fun g0 => VR.mono hS x (fun _ _ => .inl rfl) (h2 g0), VRe.mono hS k xs (List.prefix_append _ _) h3⟩
end

mutual
theorem VR.idf {S : Seal} : ∀ (x : V) {g g' : Locs} {v : Value}, x.idf = true → VR S g x v → VR S g' x v
  | .int _ _, _, _, _, _, h => h
  | .bool _, _, _, _, _, h => h
  | .str _, _, _, _, _, h => h
  | .raw _, _, _, _, _, h => h
  | .ptr _ _, _, _, _, hi, _ => by simp [V.idf] at hi
  | .mp _, _, _, _, hi, _ => by simp [V.idf] at hi
  | .ls _ _ _ _, _, _, _, hi, _ => by simp [V.idf] at hi
  | .cp _ _, _, _, _, _, h => h
  | .sl tk k xs, g, g', v, hi, h => by
    obtain ⟨a, len, cap, rfl, hl, hc, hx, ht⟩ := h
    refine ⟨a, len, cap, rfl, hl, hc, hx, fun n hn => ?_⟩
    subst hn
    simp [V.idf] at hi
  | .agg cs, g, g', v, hi, h => by
    obtain ⟨ws, rfl, hs, hr⟩ := h
    exact ⟨ws, rfl, hs, VRs.idf cs (by simpa [V.idf] using hi) hr⟩
  | .tuple cs, g, g', v, hi, h => by
    obtain ⟨ws, rfl, hs, hr⟩ := h
    exact ⟨ws, rfl, hs, VRs.idf cs (by simpa [V.idf] using hi) hr⟩
  | .iface t x, g, g', v, hi, h => by
    obtain ⟨w, rfl, hr⟩ := h
    exact ⟨w, rfl, VR.idf x (by simpa [V.idf] using hi) hr⟩
  | .fn f fs cs, g, g', v, hi, h => by
    obtain ⟨ws, us, rfl, h1, h2, h3, h4⟩ := h
    simp only [V.idf, Bool.and_eq_true] at hi
    exact ⟨ws, us, rfl, h1, h2, VRs.idf fs hi.1 h3, VRs.idf cs hi.2 h4⟩
theorem VRs.idf {S : Seal} : ∀ (xs : List V) {g g' : Locs} {vs : List Value}, idfL xs = true → VRs S g xs vs → VRs S g' xs vs
  | [], _, _, _, _, _ => trivial
  | x :: xs, g, g', vs, hi, h => by
    obtain ⟨v, r, rfl, h1, h2⟩ := h
    simp only [idfL, Bool.and_eq_true] at hi
    exact ⟨v, r, rfl, VR.idf x hi.1 h1, VRs.idf xs hi.2 h2⟩
end

theorem VRs.len {S : Seal} : ∀ {xs : List V} {g : Locs} {vs : List Value}, VRs S g xs vs → xs.length ≤ vs.length
  | [], _, _, _ => by simp
  | _ :: _, _, _, h => by
    obtain ⟨v, r, rfl, _, h2⟩ := h
    have := VRs.len h2
    simp; omega

/-- Forgetting on the abstract side. -/
def VLe (x y : V) : Prop := ∀ S g v, VR S g x v → VR S g y v
theorem VLe.refl (x : V) : VLe x x := fun _ _ _ h => h
theorem VLe.nil (k : Nat) : VLe (.raw (.slice none 0 0)) (.sl none k []) := by
  rintro S g v ⟨rfl, _⟩
  exact ⟨none, 0, 0, rfl, rfl, Nat.le_refl _, .inl rfl, fun n hn => by cases hn⟩
theorem VLe.sl (tk : Option Nat) (k : Nat) (xs : List V) : VLe (.sl tk k xs) (.sl none k xs) := by
  rintro S g v ⟨a, len, cap, rfl, h1, h2, h3, _⟩
  exact ⟨a, len, cap, rfl, h1, h2, h3, fun n hn => by cases hn⟩
inductive VLes : List V → List V → Prop
  | nil : VLes [] []
  | cons {x y : V} {xs ys : List V} : VLe x y → VLes xs ys → VLes (x :: xs) (y :: ys)
theorem VLes.refl : ∀ xs : List V, VLes xs xs
  | [] => .nil
  | x :: xs => .cons (VLe.refl x) (VLes.refl xs)
theorem VLes.len {xs ys : List V} (h : VLes xs ys) : xs.length = ys.length := by
  induction h with
  | nil => rfl
  | cons _ _ ih => simp [ih]
theorem VLes.vrs {xs ys : List V} (h : VLes xs ys) {S : Seal} {g : Locs} {vs : List Value} : VRs S g xs vs → VRs S g ys vs := by
  induction h generalizing vs with
  | nil => exact fun _ => trivial
  | cons h1 _ ih =>
    rintro ⟨v, r, rfl, a, b⟩
    exact ⟨v, r, rfl, h1 _ _ _ a, ih b⟩
theorem VLe.agg {xs ys : List V} (h : VLes xs ys) : VLe (.agg xs) (.agg ys) := by
  rintro S g v ⟨ws, rfl, hs, hr⟩
  exact ⟨ws, rfl, by rw [hs, h.len], h.vrs hr⟩
theorem VLe.tuple {xs ys : List V} (h : VLes xs ys) : VLe (.tuple xs) (.tuple ys) := by
  rintro S g v ⟨ws, rfl, hs, hr⟩
  exact ⟨ws, rfl, by rw [hs, h.len], h.vrs hr⟩
end Go.Abs

namespace Go.Abs
open Go

structure Cx where
  P : Program
  glob : Nat → Option (List V)

/-- What an abstract id holds: a local object's cells, or the room behind an array (element type, its cells, how many elements). -/
inductive HO where
  | cells (cs : List V)
  | tok (e k len : Nat)
  | map (clock : Nat) (es : List (Nat × V × V))
  | iter (m since : Nat) (seen : List Nat) (last : Nat)
  | sit (l : List UInt8) (pos : Nat)

/-- Slots, objects, and which ids may be taken: those below `cn`, but of those from `nx` to `nx + sz` only the ones in `ids`. -/
structure St where
  fr : List (Nat × V)
  hp : List (Nat × HO)
  nx : Nat
  sz : Nat
  cn : Nat
  ids : List Nat

def St.knows (s : St) (i : Nat) : Prop := i < s.cn ∧ (s.nx ≤ i → i < s.nx + s.sz → i ∈ s.ids)

theorem gle.trans {g g' g'' : Locs} {i : Nat} (h : gle g g' i) (h' : gle g' g'' i) : gle g g'' i := by
  rcases h with e | ⟨a, l, c, a', l', c', e1, e2, hl⟩
  · rcases h' with e' | ⟨a, l, c, a', l', c', e1, e2, hl⟩
    · exact .inl (e'.trans e)
    · exact .inr ⟨a, l, c, a', l', c', by rw [← e]; exact e1, e2, hl⟩
  · rcases h' with e' | ⟨b, m, d, b', m', d', e3, e4, hl'⟩
    · exact .inr ⟨a, l, c, a', l', c', e1, by rw [e']; exact e2, hl⟩
    · rw [e2] at e3; cases e3
      exact .inr ⟨a, l, c, b', m', d', e1, e4, by omega⟩
theorem gle.some {g g' : Locs} {i : Nat} (h : gle g g' i) (hi : g i ≠ none) : g' i ≠ none := by
  rcases h with e | ⟨a, l, c, a', l', c', _, e2, _⟩
  · rw [e]; exact hi
  · rw [e2]; simp

def lk {α : Type} : List (Nat × α) → Nat → Option α
  | [], _ => none
  | (k, v) :: r, n => if k = n then some v else lk r n
def rm {α : Type} : List (Nat × α) → Nat → List (Nat × α)
  | [], _ => []
  | (k, v) :: r, n => if k = n then rm r n else (k, v) :: rm r n

theorem lk_rm {α : Type} (l : List (Nat × α)) (n m : Nat) : lk (rm l n) m = if n = m then none else lk l m := by
  induction l with
  | nil => simp [lk, rm]
  | cons p r ih =>
    obtain ⟨k, v⟩ := p
    by_cases h : k = n
    · subst h
      simp only [rm, if_true, ih, lk]
      by_cases hk : k = m <;> simp [hk]
    · simp only [rm, h, if_false, lk, ih]
      by_cases hk : k = m
      · subst hk
        have : n ≠ k := fun e => h e.symm
        simp [this]
      · simp [hk]

def blk (g : Locs) (i : Nat) : Option Nat :=
  match g i with
  | some (.obj b) => some b
  | some (.arr (some a) _ _) => some a.block
  | _ => none

def Good (C : Cx) (S : Seal) (w : World) : Prop :=
  (∀ b p, S b = some p → ∃ c E fr, w.heap[b]? = some (.cells c E fr) ∧ p <+: c.toList) ∧
  (∀ n cs, C.glob n = some cs → ∃ p, S n = some p ∧ ∀ g, VRs S g cs p)

/-- A map's entries. -/
def MR (S : Seal) (g : Locs) : List (Nat × V × V) → List MapEntry → Prop
  | [], l => l = []
  | (n, k, v) :: es, l => ∃ e r, l = e :: r ∧ e.born = n ∧ VR S g k e.key ∧ VR S g v e.val ∧ MR S g es r
theorem MR.mono {S S' : Seal} (hS : SLe S S') {g g' : Locs} (hg : ∀ i, g i ≠ none → gle g g' i) : ∀ {es : List (Nat × V × V)} {l : List MapEntry}, MR S g es l → MR S' g' es l
  | [], _, h => h
  | (n, k, v) :: es, _, h => by
    obtain ⟨e, r, rfl, h0, h1, h2, h3⟩ := h
    exact ⟨e, r, rfl, h0, VR.mono hS k hg h1, VR.mono hS v hg h2, MR.mono hS hg h3⟩

def HOok (S : Seal) (g : Locs) (w : World) (i : Nat) : HO → Prop
  | .cells cs => ∃ b c E, g i = some (.obj b) ∧ w.heap[b]? = some (.cells c E (0, 0)) ∧ S b = none ∧ c.size = cs.length ∧ VRs S g cs c.toList
  | .tok e k len => ∃ a cap xs, g i = some (.arr a len cap) ∧ w.ownsRow 0 e k (.slice a len cap) len xs ∧ ∀ ad, a = some ad → S ad.block = some xs
  | .map clock es => ∃ b arr, g i = some (.obj b) ∧ w.heap[b]? = some (.map arr clock) ∧ S b = none ∧ MR S g es arr.toList
  | .sit l pos => ∃ b, g i = some (.obj b) ∧ w.heap[b]? = some (.stringIter ⟨l.toArray⟩ pos) ∧ S b = none
  | .iter m since seen last => ∃ b bm, g i = some (.obj b) ∧ w.heap[b]? = some (.mapIter (some bm) since seen.toArray last) ∧ S b = none ∧ g m = some (.obj bm)

def HR (S : Seal) (g : Locs) (hp : List (Nat × HO)) (w : World) : Prop :=
  (∀ i o, lk hp i = some o → HOok S g w i o) ∧
  (∀ i j oi oj b, lk hp i = some oi → lk hp j = some oj → blk g i = some b → blk g j = some b → i = j)

structure Base where
  S0 : Seal
  g0 : Locs
  w0 : World
  own : Nat → Prop
  mine : Nat → Prop
  n0 : Nat
  nt : Nat

structure Grow (own : Nat → Prop) (S : Seal) (w : World) (S' : Seal) (w' : World) : Prop where
  size : w.heap.size ≤ w'.heap.size
  sld : SLe S S'
  old : ∀ b, b < w.heap.size → ¬ own b → w'.heap[b]? = w.heap[b]? ∧ S' b = S b
  kept : w'.os = w.os ∧ w'.output = w.output

theorem Grow.refl (own : Nat → Prop) (S : Seal) (w : World) : Grow own S w S w := ⟨Nat.le_refl _, SLe.refl _, fun _ _ _ => ⟨rfl, rfl⟩, rfl, rfl⟩
theorem Grow.trans {own own' : Nat → Prop} {S S' S'' : Seal} {w w' w'' : World} (h : Grow own S w S' w') (h' : Grow own' S' w' S'' w'')
    (ho : ∀ b, own' b → own b ∨ w.heap.size ≤ b) : Grow own S w S'' w'' where
  size := Nat.le_trans h.size h'.size
  sld := h.sld.trans h'.sld
  old := fun b hb hn => by
    have h1 := h.old b hb hn
    have h2 := h'.old b (Nat.lt_of_lt_of_le hb h.size) (fun hc => (ho b hc).elim hn (fun hle => by omega))
    exact ⟨h2.1.trans h1.1, h2.2.trans h1.2⟩
  kept := ⟨h'.kept.1.trans h.kept.1, h'.kept.2.trans h.kept.2⟩

structure SR (C : Cx) (B : Base) (S : Seal) (g : Locs) (s : St) (a : Act) (w : World) : Prop where
  dfr : a.defers = []
  nt : a.tmps.size = B.nt
  good : Good C S w
  fr : ∀ t x, lk s.fr t = some x → VR S g x (a.tmps.getD t undef)
  hp : HR S g s.hp w
  grow : Grow B.own B.S0 B.w0 S w
  new : ∀ i o b, lk s.hp i = some o → blk g i = some b → B.own b ∨ B.w0.heap.size ≤ b
  gl : ∀ i, B.g0 i ≠ none → gle B.g0 g i
  dom : ∀ i, g i ≠ none → s.knows i
  gk : ∀ i, B.g0 i ≠ none → ¬ B.mine i → g i = B.g0 i
  hk : ∀ i o, lk s.hp i = some o → B.mine i ∨ B.g0 i = none
  lo : B.n0 ≤ s.nx ∧ B.n0 ≤ s.cn
  low : ∀ i, g i ≠ none → B.g0 i ≠ none ∨ B.n0 ≤ i
  rm : s.nx + s.sz ≤ s.cn

def St.put (s : St) (d : Option Nat) (x : V) : St :=
  match d with
  | some d => { s with fr := (d, x) :: s.fr }
  | none => s
def St.drop (s : St) (d : Option Nat) : St :=
  match d with
  | some d => { s with fr := rm s.fr d }
  | none => s

def dstOk (nt : Nat) : Option Nat → Bool
  | some d => d < nt
  | none => true

theorem getD_set {α : Type} (a : Array α) (d t : Nat) (v u : α) (hd : d < a.size) : (a.setIfInBounds d v).getD t u = if d = t then v else a.getD t u := by
  simp only [Array.getD_eq_getD_getElem?, Array.getElem?_setIfInBounds]
  by_cases h : d = t
  · subst h; simp [hd]
  · simp [h]

section
variable {C : Cx} {B : Base} {S : Seal} {g : Locs} {s : St} {a : Act} {w : World}

theorem SR.put (h : SR C B S g s a w) {d : Option Nat} {x : V} {v : Value} (hd : dstOk B.nt d = true) (hv : VR S g x v) : SR C B S g (s.put d x) (a.put d v) w := by
  cases d with
  | none => exact h
  | some d =>
    have hd' : d < a.tmps.size := by rw [h.nt]; simpa [dstOk] using hd
    refine ⟨h.dfr, by simp [Act.put, h.nt], h.good, fun t y hy => ?_, h.hp, h.grow, h.new, h.gl, h.dom, h.gk, h.hk, h.lo, h.low, h.rm⟩
    simp only [St.put, lk] at hy
    simp only [Act.put, getD_set _ _ _ _ _ hd']
    by_cases ht : d = t
    · simp only [ht, if_true, Option.some.injEq] at hy ⊢
      exact hy ▸ hv
    · simp only [ht, if_false] at hy ⊢
      exact h.fr t y hy

theorem SR.skip (h : SR C B S g s a w) {d : Option Nat} {v : Value} (hd : dstOk B.nt d = true) : SR C B S g (s.drop d) (a.put d v) w := by
  cases d with
  | none => exact h
  | some d =>
    have hd' : d < a.tmps.size := by rw [h.nt]; simpa [dstOk] using hd
    refine ⟨h.dfr, by simp [Act.put, h.nt], h.good, fun t y hy => ?_, h.hp, h.grow, h.new, h.gl, h.dom, h.gk, h.hk, h.lo, h.low, h.rm⟩
    simp only [St.drop, lk_rm] at hy
    simp only [Act.put, getD_set _ _ _ _ _ hd']
    by_cases ht : d = t
    · simp [ht] at hy
    · simp only [ht, if_false] at hy ⊢
      exact h.fr t y hy

/-- Forgetting: fewer slots, weaker values, fewer objects. -/
structure St.le (s s' : St) : Prop where
  fr : ∀ t x', lk s'.fr t = some x' → ∃ x, lk s.fr t = some x ∧ VLe x x'
  hp : ∀ i o', lk s'.hp i = some o' → lk s.hp i = some o' ∨ ∃ cs cs', lk s.hp i = some (.cells cs) ∧ o' = .cells cs' ∧ VLes cs cs'
  kn : ∀ i, s.knows i → s'.knows i
theorem St.le.refl (s : St) : s.le s := ⟨fun _ x h => ⟨x, h, VLe.refl x⟩, fun _ _ h => .inl h, fun _ h => h⟩

theorem HOok.les {i : Nat} {cs cs' : List V} (h : VLes cs cs') (ho : HOok S g w i (.cells cs)) : HOok S g w i (.cells cs') := by
  obtain ⟨b, c, E, h1, h2, h3, h4, h5⟩ := ho
  exact ⟨b, c, E, h1, h2, h3, by rw [h4, h.len], h.vrs h5⟩

theorem HR.le {hp hp' : List (Nat × HO)} (hl : ∀ i o', lk hp' i = some o' → lk hp i = some o' ∨ ∃ cs cs', lk hp i = some (.cells cs) ∧ o' = .cells cs' ∧ VLes cs cs')
    (h : HR S g hp w) : HR S g hp' w := by
  refine ⟨fun i o ho => ?_, fun i j oi oj b hi hj h1 h2 => ?_⟩
  · rcases hl i o ho with h1 | ⟨cs, cs', h1, rfl, hle⟩
    · exact h.1 i o h1
    · exact (h.1 i _ h1).les hle
  · obtain ⟨oi', hi'⟩ : ∃ o, lk hp i = some o := by rcases hl i oi hi with h3 | ⟨cs, _, h3, _, _⟩ <;> exact ⟨_, h3⟩
    obtain ⟨oj', hj'⟩ : ∃ o, lk hp j = some o := by rcases hl j oj hj with h3 | ⟨cs, _, h3, _, _⟩ <;> exact ⟨_, h3⟩
    exact h.2 i j oi' oj' b hi' hj' h1 h2

theorem SR.le {s' : St} (h : SR C B S g s a w) (hl : s.le s') (hlo : (B.n0 ≤ s'.nx ∧ B.n0 ≤ s'.cn) ∧ s'.nx + s'.sz ≤ s'.cn) : SR C B S g s' a w := by
  refine ⟨h.dfr, h.nt, h.good, fun t x hx => ?_, h.hp.le hl.hp, h.grow, fun i o b hi hb => ?_, h.gl, fun i hi => hl.kn i (h.dom i hi), h.gk, fun i o hi => ?_, hlo.1, h.low, hlo.2⟩
  · obtain ⟨y, hy, hle⟩ := hl.fr t x hx
    exact hle _ _ _ (h.fr t y hy)
  · obtain ⟨o', ho'⟩ : ∃ o, lk s.hp i = some o := by rcases hl.hp i o hi with h3 | ⟨cs, _, h3, _, _⟩ <;> exact ⟨_, h3⟩
    exact h.new i o' b ho' hb
  · obtain ⟨o', ho'⟩ : ∃ o, lk s.hp i = some o := by rcases hl.hp i o hi with h3 | ⟨cs, _, h3, _, _⟩ <;> exact ⟨_, h3⟩
    exact h.hk i o' ho'

/-- A draw changes nothing that is looked at. -/
theorem SR.drew (h : SR C B S g s a w) : SR C B S g s a { w with drawn := w.drawn + 1 } := by
  refine ⟨h.dfr, h.nt, h.good, h.fr, ?_, ⟨h.grow.size, h.grow.sld, h.grow.old, h.grow.kept⟩, h.new, h.gl, h.dom, h.gk, h.hk, h.lo, h.low, h.rm⟩
  refine ⟨fun i o ho => ?_, h.hp.2⟩
  have := h.hp.1 i o ho
  cases o <;> exact this

theorem VRs.get {xs : List V} : ∀ {g : Locs} {vs : List Value} (_ : VRs S g xs vs) (i : Nat) (x : V), xs[i]? = some x → ∃ v, vs[i]? = some v ∧ VR S g x v := by
  induction xs with
  | nil => intro g vs _ i x h; simp at h
  | cons y ys ih =>
    rintro g vs ⟨v, r, rfl, h1, h2⟩ i x hx
    cases i with
    | zero => simp only [List.getElem?_cons_zero, Option.some.injEq] at hx; subst hx; exact ⟨v, rfl, h1⟩
    | succ i => simpa using ih h2 i x (by simpa using hx)

theorem VRs.of_get : ∀ {xs : List V} {g : Locs} {vs : List Value}, (∀ (i : Nat) (x : V), xs[i]? = some x → ∃ v, vs[i]? = some v ∧ VR S g x v) → VRs S g xs vs
  | [], _, _, _ => trivial
  | y :: ys, g, vs, h => by
    obtain ⟨v, hv, h1⟩ := h 0 y rfl
    cases vs with
    | nil => simp at hv
    | cons u r =>
      simp only [List.getElem?_cons_zero, Option.some.injEq] at hv
      subst hv
      exact ⟨u, r, rfl, h1, VRs.of_get fun i x hx => by simpa using h (i + 1) x (by simpa using hx)⟩

theorem VRs.take {xs : List V} {vs : List Value} (h : VRs S g xs vs) (n : Nat) : VRs S g (xs.take n) (vs.take n) :=
  VRs.of_get fun i x hx => by
    rw [List.getElem?_take] at hx ⊢
    by_cases hi : i < n
    · simp only [hi, if_true] at hx ⊢; exact h.get i x hx
    · simp [hi] at hx
theorem VRs.drop {xs : List V} {vs : List Value} (h : VRs S g xs vs) (n : Nat) : VRs S g (xs.drop n) (vs.drop n) :=
  VRs.of_get fun i x hx => by
    rw [List.getElem?_drop] at hx ⊢
    exact h.get _ x hx
theorem VRs.append {xs ys : List V} {vs us : List Value} (h : VRs S g xs vs) (h' : VRs S g ys us) (hl : vs.length = xs.length) : VRs S g (xs ++ ys) (vs ++ us) :=
  VRs.of_get fun i x hx => by
    by_cases hi : i < xs.length
    · rw [List.getElem?_append_left hi] at hx
      obtain ⟨v, hv, hr⟩ := h.get i x hx
      exact ⟨v, by rw [List.getElem?_append_left (by omega)]; exact hv, hr⟩
    · rw [List.getElem?_append_right (by omega)] at hx
      obtain ⟨v, hv, hr⟩ := h'.get _ x hx
      exact ⟨v, by rw [List.getElem?_append_right (by omega), hl]; exact hv, hr⟩
end
end Go.Abs

namespace Go.Abs
open Go

theorem lk_mem {α : Type} {l : List (Nat × α)} {n : Nat} {x : α} (h : lk l n = some x) : (n, x) ∈ l := by
  induction l with
  | nil => simp [lk] at h
  | cons p r ih =>
    obtain ⟨k, v⟩ := p
    simp only [lk] at h
    by_cases hk : k = n
    · simp only [hk, if_true, Option.some.injEq] at h; subst hk; subst h; simp
    · simp only [hk, if_false] at h; exact List.mem_cons_of_mem _ (ih h)

def upd {α : Type} (f : Nat → Option α) (n : Nat) (x : α) : Nat → Option α := fun m => if m = n then some x else f m

section
variable {C : Cx} {B : Base} {S S' : Seal} {g g' : Locs} {s : St} {a : Act} {w w' : World}

theorem ownsRow_of_block {w w' : World} {base e k n : Nat} {v : Value} {xs : List Value} (h : w.ownsRow base e k v n xs)
    (hb : ∀ b, v.ownBlock = some b → w'.heap[b]? = w.heap[b]?) : w'.ownsRow base e k v n xs := by
  refine ⟨h.1, ?_⟩
  rcases h.2 with h1 | ⟨b, cap, cur, rfl, h2, h3, h4⟩
  · exact .inl h1
  · exact .inr ⟨b, cap, cur, rfl, h2, by rw [hb b rfl]; exact h3, h4⟩

theorem blk_congr {i : Nat} (h : g' i = g i) : blk g' i = blk g i := by simp [blk, h]

theorem HOok.mono {i : Nat} {o : HO} (ho : HOok S g w i o) (hS : SLe S S') (hg : g' i = g i) (hn : ∀ n, g n ≠ none → gle g g' n)
    (hb : ∀ b, blk g i = some b → w'.heap[b]? = w.heap[b]? ∧ S' b = S b) : HOok S' g' w' i o := by
  cases o with
  | cells cs =>
    obtain ⟨b, c, E, h1, h2, h3, h4, h5⟩ := ho
    have hbb := hb b (by simp [blk, h1])
    exact ⟨b, c, E, by rw [hg]; exact h1, by rw [hbb.1]; exact h2, by rw [hbb.2]; exact h3, h4, VRs.mono hS cs List.prefix_rfl hn h5⟩
  | tok e k len =>
    obtain ⟨ad, cap, xs, h1, h2, h3⟩ := ho
    refine ⟨ad, cap, xs, by rw [hg]; exact h1, ownsRow_of_block h2 fun b hv => ?_, fun a' ha => ?_⟩
    · cases ad with
      | none => simp [Value.ownBlock] at hv
      | some ad => simp only [Value.ownBlock, Option.some.injEq] at hv; subst hv; exact (hb _ (by simp [blk, h1])).1
    · subst ha
      rw [(hb a'.block (by simp [blk, h1])).2]
      exact h3 a' rfl
  | map clock es =>
    obtain ⟨b, arr, h1, h2, h3, h4⟩ := ho
    have hbb := hb b (by simp [blk, h1])
    exact ⟨b, arr, by rw [hg]; exact h1, by rw [hbb.1]; exact h2, by rw [hbb.2]; exact h3, h4.mono hS hn⟩
  | sit l pos =>
    obtain ⟨b, h1, h2, h3⟩ := ho
    have hbb := hb b (by simp [blk, h1])
    exact ⟨b, by rw [hg]; exact h1, by rw [hbb.1]; exact h2, by rw [hbb.2]; exact h3⟩
  | iter m since seen last =>
    obtain ⟨b, bm, h1, h2, h3, h4⟩ := ho
    have hbb := hb b (by simp [blk, h1])
    refine ⟨b, bm, by rw [hg]; exact h1, by rw [hbb.1]; exact h2, by rw [hbb.2]; exact h3, ?_⟩
    rcases hn m (by rw [h4]; simp) with e | ⟨a, l, c, a', l', c', e, _, _⟩
    · rw [e]; exact h4
    · rw [h4] at e; cases e

theorem HOok.blk_lt {i b : Nat} {o : HO} (ho : HOok S g w i o) (hb : blk g i = some b) : b < w.heap.size := by
  cases o with
  | cells cs =>
    obtain ⟨b', c, E, h1, h2, _⟩ := ho
    simp only [blk, h1, Option.some.injEq] at hb
    subst hb
    exact (Array.getElem?_eq_some_iff.1 h2).1
  | tok e k len =>
    obtain ⟨ad, cap, xs, h1, h2, h3⟩ := ho
    cases ad with
    | none => simp [blk, h1] at hb
    | some ad =>
      simp only [blk, h1, Option.some.injEq] at hb
      subst hb
      rcases h2.2 with ⟨h, _⟩ | ⟨b, cap, cur, h, _, h4, _⟩
      · cases h
      · cases h; exact (Array.getElem?_eq_some_iff.1 h4).1
  | map clock es =>
    obtain ⟨b', arr, h1, h2, _⟩ := ho
    simp only [blk, h1, Option.some.injEq] at hb
    subst hb
    exact (Array.getElem?_eq_some_iff.1 h2).1
  | sit l pos =>
    obtain ⟨b', h1, h2, _⟩ := ho
    simp only [blk, h1, Option.some.injEq] at hb
    subst hb
    exact (Array.getElem?_eq_some_iff.1 h2).1
  | iter m since seen last =>
    obtain ⟨b', bm, h1, h2, _⟩ := ho
    simp only [blk, h1, Option.some.injEq] at hb
    subst hb
    exact (Array.getElem?_eq_some_iff.1 h2).1

/-- One id's entry (and its block alone) changes, or a new one comes. -/
theorem SR.step (h : SR C B S g s a w) {x : Nat} {o' : HO} {xb : Option Nat} (hS : SLe S S') (hgood : Good C S' w') (hsz : w.heap.size ≤ w'.heap.size)
    (hg : ∀ i, g i ≠ none → gle g g' i) (hgk : ∀ i, i ≠ x → g' i = g i)
    (hxb : ∀ b, xb = some b → ∃ o, lk s.hp x = some o ∧ blk g x = some b)
    (hold : ∀ b, b < w.heap.size → xb ≠ some b → w'.heap[b]? = w.heap[b]? ∧ S' b = S b)
    (hx : HOok S' g' w' x o') (hxn : ∀ b, blk g' x = some b → xb = some b ∨ w.heap.size ≤ b)
    {is : List Nat} (his : ∀ i, i ∈ s.ids → i ∈ is) (hgx : ∀ i, g i = none → g' i ≠ none → i ∈ is ∧ i < s.cn ∧ s.nx ≤ i) (hxs : (∃ o, lk s.hp x = some o) ∨ g x = none) (hos : w'.os = w.os ∧ w'.output = w.output := by exact ⟨rfl, rfl⟩) :
    SR C B S' g' { s with hp := (x, o') :: s.hp, ids := is } a w' := by
  have lt := fun i o b (hi : lk s.hp i = some o) (hb : blk g i = some b) => (h.hp.1 i o hi).blk_lt hb
  have hxk : B.mine x ∨ B.g0 x = none := by
    rcases hxs with ⟨o, ho⟩ | hx0
    · exact h.hk x o ho
    · refine .inr ?_
      cases h0 : B.g0 x with
      | none => rfl
      | some y => exact absurd hx0 ((h.gl x (by rw [h0]; simp)).some (by rw [h0]; simp))
  refine ⟨h.dfr, h.nt, hgood, fun t y hy => VR.mono hS y hg (h.fr t y hy), ⟨fun i o hi => ?_, fun i j oi oj b hi hj h1 h2 => ?_⟩, ?_, fun i o b hi hb => ?_,
    fun i hi => (h.gl i hi).trans (hg i ((h.gl i hi).some hi)), fun i hi => ?_, fun i hi hm => ?_, fun i o hi => ?_, h.lo, fun i hi => ?_, h.rm⟩
  · simp only [lk] at hi
    by_cases hxi : x = i
    · subst hxi
      simp only [if_true, Option.some.injEq] at hi
      exact hi ▸ hx
    · simp only [hxi, if_false] at hi
      refine (h.hp.1 i o hi).mono hS (hgk i (Ne.symm hxi)) hg fun b hb => hold b (lt i o b hi hb) fun he => ?_
      obtain ⟨ox, hox, hbx⟩ := hxb b he
      exact hxi (h.hp.2 x i ox o b hox hi hbx hb)
  · simp only [lk] at hi hj
    have key : ∀ i oi, lk s.hp i = some oi → x ≠ i → blk g' x = some b → blk g' i = some b → False := fun i oi hi hne h1 h2 => by
      rw [blk_congr (hgk i (Ne.symm hne))] at h2
      rcases hxn b h1 with he | hle
      · obtain ⟨ox, hox, hbx⟩ := hxb b he
        exact hne (h.hp.2 x i ox oi b hox hi hbx h2)
      · have := lt i oi b hi h2; omega
    by_cases hxi : x = i
    · by_cases hxj : x = j
      · exact hxi.symm.trans hxj
      · simp only [hxj, if_false] at hj
        exact (key j oj hj hxj (hxi ▸ h1) h2).elim
    · simp only [hxi, if_false] at hi
      by_cases hxj : x = j
      · exact (key i oi hi hxi (hxj ▸ h2) h1).elim
      · simp only [hxj, if_false] at hj
        rw [blk_congr (hgk i (Ne.symm hxi))] at h1
        rw [blk_congr (hgk j (Ne.symm hxj))] at h2
        exact h.hp.2 i j oi oj b hi hj h1 h2
  · refine h.grow.trans ⟨hsz, hS, fun b hb hn => hold b hb fun he => hn he, hos⟩ (own' := fun b => xb = some b) fun b he => ?_
    obtain ⟨ox, hox, hbx⟩ := hxb b he
    exact h.new x ox b hox hbx
  · simp only [lk] at hi
    by_cases hxi : x = i
    · subst hxi
      rcases hxn b hb with he | hle
      · obtain ⟨ox, hox, hbx⟩ := hxb b he
        exact h.new x ox b hox hbx
      · exact .inr (Nat.le_trans h.grow.size hle)
    · simp only [hxi, if_false] at hi
      exact h.new i o b hi (by rw [← blk_congr (hgk i (Ne.symm hxi))]; exact hb)
  · by_cases h0 : g i = none
    · exact ⟨(hgx i h0 hi).2.1, fun _ _ => (hgx i h0 hi).1⟩
    · exact ⟨(h.dom i h0).1, fun h1 h2 => his i ((h.dom i h0).2 h1 h2)⟩
  · have hne : i ≠ x := fun e => by subst e; exact hxk.elim hm hi
    rw [hgk i hne]; exact h.gk i hi hm
  · simp only [lk] at hi
    by_cases hxi : x = i
    · subst hxi; exact hxk
    · simp only [hxi, if_false] at hi; exact h.hk i o hi
  · by_cases h0 : g i = none
    · exact .inr (Nat.le_trans h.lo.1 (hgx i h0 hi).2.2)
    · exact h.low i h0

theorem HOok.lift {o : HO} {i : Nat} (h : HOok S g w i o) : HOok S g w i o := h

/-- Sealed memory is found, and stays. -/
theorem Good.keep (hg : Good C S w) (hS : SLe S S') (h1 : ∀ b p, S' b = some p → S b = some p ∧ w'.heap[b]? = w.heap[b]? ∨ ∃ c E fr, w'.heap[b]? = some (.cells c E fr) ∧ p <+: c.toList) : Good C S' w' := by
  refine ⟨fun b p hp => ?_, fun n cs hc => ?_⟩
  · rcases h1 b p hp with ⟨hp', hh⟩ | hh
    · rw [hh]; exact hg.1 b p hp'
    · exact hh
  · obtain ⟨p, hp, hr⟩ := hg.2 n cs hc
    obtain ⟨p', hp', he⟩ := hS n p hp
    exact ⟨p', hp', fun g => VRs.mono hS cs he (fun _ _ => .inl rfl) (hr g)⟩

def splice (cs : List V) (off : Nat) (vs : List V) : List V := cs.take off ++ vs ++ cs.drop (off + vs.length)

theorem setRow_size (w : World) (b : Nat) (c : Array Value) : (w.setRow b c).heap.size = w.heap.size := by simp [World.setRow]

/-- A store into a local object. -/
theorem SR.wr (h : SR C B S g s a w) {o off : Nat} {cs vs : List V} {us : List Value} (ho : lk s.hp o = some (.cells cs)) (hl : off + vs.length ≤ cs.length)
    (hu : us.length = vs.length) (hv : VRs S g vs us) :
    ∃ b c E, g o = some (.obj b) ∧ w.heap[b]? = some (.cells c E (0, 0)) ∧ off + us.length ≤ c.size ∧
      SR C B S g { s with hp := (o, .cells (splice cs off vs)) :: s.hp } a (w.setRow b (c.toList.take off ++ us ++ c.toList.drop (off + us.length)).toArray) := by
  obtain ⟨b, c, E, h1, h2, h3, h4, h5⟩ := h.hp.1 o _ ho
  refine ⟨b, c, E, h1, h2, by rw [hu, h4]; exact hl, ?_⟩
  have hb : blk g o = some b := by simp [blk, h1]
  refine h.step (xb := some b) (SLe.refl S) (h.good.keep (SLe.refl S) fun b' p hp => .inl ⟨hp, ?_⟩) (by rw [setRow_size]; exact Nat.le_refl _) (fun _ _ => .inl rfl) (fun _ _ => rfl)
    (fun b' hb' => ⟨_, ho, by simpa using hb'.symm ▸ hb⟩) (fun b' _ hne => ⟨?_, rfl⟩) ?_ (fun b' hb' => .inl (by rw [hb] at hb'; exact hb')) (fun _ h => h) (fun _ h1 h2 => absurd h1 h2) (.inl ⟨_, ho⟩)
  · exact setRow_other w b b' _ (fun e => by subst e; rw [h3] at hp; cases hp)
  · exact setRow_other w b b' _ (fun e => hne (by rw [e]))
  · refine ⟨b, _, E, h1, setRow_heap w b c _ E _ h2, h3, ?_, ?_⟩
    · simp only [List.size_toArray, List.length_append, List.length_take, List.length_drop, Array.length_toList, splice, h4, hu]
    · simp only [splice]
      refine ((h5.take off).append hv (by simp [h4]) |>.append ?_ (by simp [h4, hu]))
      rw [hu]
      exact h5.drop _

theorem heap_alloc_size (w : World) (o : Obj) : (w.alloc o).heap[w.heap.size]? = some o := heap_alloc_new w o
theorem heap_alloc_lt (w : World) (o : Obj) (b : Nat) (hb : b < w.heap.size) : (w.alloc o).heap[b]? = w.heap[b]? := heap_alloc_old w o b hb

theorem Good.none_size (hg : Good C S w) : S w.heap.size = none := by
  cases hS : S w.heap.size with
  | none => rfl
  | some p =>
    obtain ⟨c, E, fr, hh, _⟩ := hg.1 _ p hS
    have := (Array.getElem?_eq_some_iff.1 hh).1
    omega

theorem gle_upd {n : Nat} {l : Loc} (hf : g n = none) : ∀ i, g i ≠ none → gle g (upd g n l) i := fun i hi => by
  refine .inl ?_
  simp only [upd]
  split
  · rename_i e; subst e; exact absurd hf hi
  · rfl
theorem upd_new {n c x : Nat} {l : Loc} {is : List Nat} (hc : n < c ∧ x ≤ n) (i : Nat) (h0 : g i = none) (h1 : upd g n l i ≠ none) : i ∈ n :: is ∧ i < c ∧ x ≤ i := by
  by_cases e : i = n
  · simp [e, hc]
  · simp only [upd, e, if_false] at h1; exact absurd h0 h1

/-- A new local object. -/
theorem SR.new' (h : SR C B S g s a w) {o : Nat} {cs : List V} {us : List Value} {E : TypeId} (hf : g o = none) (hoc : o < s.cn ∧ s.nx ≤ o) (hu : us.length = cs.length) (hv : VRs S g cs us) :
    SR C B S (upd g o (.obj w.heap.size)) { s with hp := (o, .cells cs) :: s.hp, ids := o :: s.ids } a (w.alloc (.cells us.toArray E)) ∧
      VR S (upd g o (.obj w.heap.size)) (.ptr o 0) (.pointer (some ⟨w.heap.size, 0, none⟩)) := by
  have hno := h.good.none_size
  refine ⟨?_, ⟨_, by simp [upd], rfl⟩⟩
  refine h.step (x := o) (xb := none) (SLe.refl S) (h.good.keep (SLe.refl S) fun b p hp => .inl ⟨hp, ?_⟩) (by simp) (gle_upd hf) (fun i hi => by simp [upd, hi])
    (fun _ hb => by cases hb) (fun b hb _ => ⟨heap_alloc_lt w _ b hb, rfl⟩) ?_ (fun b hb => .inr (by simp [blk, upd] at hb; omega)) (fun _ h => List.mem_cons_of_mem _ h) (upd_new hoc) (.inr hf)
  · obtain ⟨c, E', fr, hh, _⟩ := h.good.1 b p hp
    exact heap_alloc_lt w _ b (Array.getElem?_eq_some_iff.1 hh).1
  · refine ⟨w.heap.size, _, E, by simp [upd], heap_alloc_size w _, hno, by simpa using hu, ?_⟩
    exact VRs.mono (SLe.refl S) cs (by simp) (gle_upd hf) hv
end
end Go.Abs

namespace Go.Abs
open Go
section
variable {C : Cx} {B : Base} {S S' : Seal} {g g' : Locs} {s : St} {a : Act} {w w' : World}

theorem VRe.append {k : Nat} : ∀ {xs ys : List V} {vs us : List Value}, VRe S k xs vs → VRe S k ys us → vs.length = xs.length * k → VRe S k (xs ++ ys) (vs ++ us)
  | [], ys, vs, us, _, h', hl => by
    have : vs = [] := List.eq_nil_of_length_eq_zero (by simpa using hl)
    subst this
    simpa using h'
  | x :: xs, ys, vs, us, h, h', hl => by
    obtain ⟨v, r, rfl, h1, h2, h3⟩ := h
    have hl' : r.length = xs.length * k := by
      have e : (v.cells.toList ++ r).length = (xs.length + 1) * k := hl
      rw [List.length_append, Array.length_toList, h1, Nat.add_mul, Nat.one_mul] at e
      omega
    exact ⟨v, r ++ us, by simp, h1, h2, VRe.append h3 h' hl'⟩

theorem VRe.len {k : Nat} : ∀ {xs : List V} {vs : List Value}, VRe S k xs vs → xs.length * k ≤ vs.length
  | [], _, _ => by simp
  | x :: xs, vs, h => by
    obtain ⟨v, r, rfl, h1, h2, h3⟩ := h
    have := VRe.len h3
    have h1' : v.cells.toList.length = k := by simpa using h1
    show (xs.length + 1) * k ≤ (v.cells.toList ++ r).length
    rw [List.length_append, h1', Nat.add_mul, Nat.one_mul]
    omega

theorem VRe.take {k : Nat} : ∀ {xs : List V} {vs : List Value}, VRe S k xs vs → VRe S k xs (vs.take (xs.length * k))
  | [], _, _ => trivial
  | x :: xs, vs, h => by
    obtain ⟨v, r, rfl, h1, h2, h3⟩ := h
    refine ⟨v, r.take (xs.length * k), ?_, h1, h2, VRe.take h3⟩
    have : v.cells.toList.length = k := by simpa using h1
    rw [List.length_cons, Nat.add_mul, Nat.one_mul, Nat.add_comm, List.take_append, this]
    simp [this, List.take_of_length_le]

theorem SLe.upd {b : Nat} {p : List Value} (h : S b = none) : SLe S (Abs.upd S b p) := fun b' p' hp => by
  refine ⟨p', ?_, List.prefix_rfl⟩
  simp only [Abs.upd]
  split
  · rename_i e; subst e; rw [h] at hp; cases hp
  · exact hp

theorem SLe.updp {b : Nat} {p q : List Value} (h : S b = some q) (hq : q <+: p) : SLe S (Abs.upd S b p) := fun b' p' hp => by
  simp only [Abs.upd]
  split
  · rename_i e; subst e; rw [h] at hp; cases hp; exact ⟨p, rfl, hq⟩
  · exact ⟨p', hp, List.prefix_rfl⟩

/-- A new block, sealed at once. -/
theorem Good.lit (h : Good C S w) {us : List Value} {E : TypeId} : Good C (Abs.upd S w.heap.size us) (w.alloc (.cells us.toArray E)) := by
  refine h.keep (SLe.upd h.none_size) fun b p hp => ?_
  simp only [Abs.upd] at hp
  split at hp
  · rename_i e; subst e; cases hp
    exact .inr ⟨_, E, _, heap_alloc_size w _, by simp⟩
  · obtain ⟨c, E', fr, hh, _⟩ := h.1 b p hp
    exact .inl ⟨hp, heap_alloc_lt w _ b (Array.getElem?_eq_some_iff.1 hh).1⟩

theorem SR.lit (h : SR C B S g s a w) {n e k : Nat} {xs : List V} {us : List Value} (hf : g n = none) (hoc : n < s.cn ∧ s.nx ≤ n) (hv : VRe S k xs us) (hu : us.length = xs.length * k) (hm : xs.length ≤ maxLen) :
    SR C B (Abs.upd S w.heap.size us) (Abs.upd g n (.arr (some ⟨w.heap.size, 0, none⟩) xs.length xs.length)) { s with hp := (n, .tok e k xs.length) :: s.hp, ids := n :: s.ids } a (w.alloc (.cells us.toArray e)) ∧
      VR (Abs.upd S w.heap.size us) (Abs.upd g n (.arr (some ⟨w.heap.size, 0, none⟩) xs.length xs.length)) (.sl (some n) k xs) (.slice (some ⟨w.heap.size, 0, none⟩) xs.length xs.length) := by
  have hS : SLe S (Abs.upd S w.heap.size us) := SLe.upd h.good.none_size
  refine ⟨h.step (x := n) (xb := none) hS h.good.lit (by simp) (gle_upd hf) (fun i hi => by simp [Abs.upd, hi]) (fun _ hb => by cases hb)
    (fun b hb _ => ⟨heap_alloc_lt w _ b hb, by simp [Abs.upd, Nat.ne_of_lt hb]⟩) ?_ (fun b hb => .inr (by simp [blk, Abs.upd] at hb; omega)) (fun _ h => List.mem_cons_of_mem _ h) (upd_new hoc) (.inr hf), ?_⟩
  · refine ⟨_, _, us, by simp [Abs.upd], ⟨hu, .inr ⟨_, _, _, rfl, Nat.zero_le _, heap_alloc_size w _, Nat.le_refl _, hm, by simpa using hu, ?_⟩⟩, fun ad ha => ?_⟩
    · simp [← hu]
    · cases ha; simp [Abs.upd]
  · refine ⟨_, _, _, rfl, rfl, Nat.le_refl _, .inr ⟨_, _, us, rfl, by simp [Abs.upd], by simpa using VRe.mono hS k xs List.prefix_rfl hv⟩, fun m hm => ?_⟩
    cases hm
    exact ⟨_, _, _, by simp [Abs.upd], Nat.le_refl _, fun _ => ⟨rfl, rfl⟩⟩

theorem VRe.get {k : Nat} : ∀ {xs : List V} {vs : List Value}, VRe S k xs vs → ∀ (i : Nat) (x : V), xs[i]? = some x →
    ∃ v, (∀ g, VR S g x v) ∧ v.cells.size = k ∧ v.cells.toList <+: vs.drop (i * k)
  | [], _, _, i, x, hx => by simp at hx
  | y :: ys, vs, h, i, x, hx => by
    obtain ⟨v, r, rfl, h1, h2, h3⟩ := h
    cases i with
    | zero => simp only [List.getElem?_cons_zero, Option.some.injEq] at hx; subst hx; exact ⟨v, h2, h1, by simp⟩
    | succ i =>
      obtain ⟨u, a, b, c⟩ := VRe.get h3 i x (by simpa using hx)
      refine ⟨u, a, b, ?_⟩
      have e : (v.cells.toList ++ r).drop ((i + 1) * k) = r.drop (i * k) := by
        have : v.cells.toList.length = k := by simpa using h1
        rw [Nat.add_mul, Nat.one_mul, Nat.add_comm, ← List.drop_drop, ← this, List.drop_left]
      rw [e]; exact c

theorem VRe.takeE {k : Nat} : ∀ {xs : List V} {vs : List Value} (_ : VRe S k xs vs) (h : Nat), VRe S k (xs.take h) vs
  | [], _, _, h => by simp [VRe]
  | x :: xs, vs, hr, 0 => by simp [VRe]
  | x :: xs, vs, hr, h + 1 => by
    obtain ⟨v, r, rfl, h1, h2, h3⟩ := hr
    exact ⟨v, r, rfl, h1, h2, VRe.takeE h3 h⟩
theorem VRe.dropE {k : Nat} : ∀ {xs : List V} {vs : List Value} (_ : VRe S k xs vs) (l : Nat), VRe S k (xs.drop l) (vs.drop (l * k))
  | [], _, _, h => by simp [VRe]
  | x :: xs, vs, hr, 0 => by simpa using hr
  | x :: xs, vs, hr, l + 1 => by
    obtain ⟨v, r, rfl, h1, h2, h3⟩ := hr
    have hv : v.cells.toList.length = k := by simpa using h1
    have e : (v.cells.toList ++ r).drop ((l + 1) * k) = r.drop (l * k) := by
      rw [Nat.add_mul, Nat.one_mul, Nat.add_comm, ← List.drop_drop, ← hv, List.drop_left]
    rw [e]
    exact VRe.dropE h3 l
theorem VRe.slice {k : Nat} {xs : List V} {vs : List Value} (hr : VRe S k xs vs) (l h : Nat) : VRe S k ((xs.take h).drop l) (vs.drop (l * k)) := (hr.takeE h).dropE l

/-- The cells of a slice that is looked at. -/
theorem sl_cells {tk : Option Nat} {k : Nat} {ys : List V} {ad : Option Addr} {m c : Nat} (hG : Good C S w) (h : VR S g (.sl tk k ys) (.slice ad m c)) (hne : ys ≠ []) :
    ∃ b i p, ad = some ⟨b, i, none⟩ ∧ S b = some p ∧ VRe S k ys (p.drop i) ∧ m = ys.length ∧
      ∀ j u, ((p.drop i).take (ys.length * k))[j]? = some u → w.cell? ((⟨b, i, none⟩ : Addr).add j) = some u := by
  obtain ⟨a', l', c', he, hl, hc, hx, _⟩ := h
  cases he
  rcases hx with hx | ⟨b, i, p, rfl, hp, hr⟩
  · exact (hne hx).elim
  · refine ⟨b, i, p, rfl, hp, hr, hl, fun j u hj => ?_⟩
    obtain ⟨cc, E, fr, hh, hpre⟩ := hG.1 b p hp
    rw [List.getElem?_take] at hj
    split at hj
    · rw [List.getElem?_drop] at hj
      have hadd : (⟨b, i, none⟩ : Addr).add j = ⟨b, i + j, none⟩ := by unfold Addr.add; split <;> simp_all
      rw [hadd]
      simp only [World.cell?, hh, Option.isSome_none, Bool.false_eq_true, if_false]
      obtain ⟨r, hr'⟩ := hpre
      have : cc.toList[i + j]? = some u := by
        rw [← hr', List.getElem?_append_left (by have := (List.getElem?_eq_some_iff.1 hj).1; exact this)]
        exact hj
      simpa using this
    · cases hj

def oneV : V → Bool
  | .agg _ => false
  | .tuple _ => false
  | _ => true
theorem VR.oneCell {x : V} {v : Value} (h : VR S g x v) (ho : oneV x = true) : v.oneCell' = true := by
  cases x with
  | int => subst h; rfl
  | bool => subst h; rfl
  | str => subst h; rfl
  | raw u => obtain ⟨rfl, hs⟩ := h; cases v <;> simp_all [scalar, Value.oneCell']
  | ptr => obtain ⟨_, _, rfl⟩ := h; rfl
  | mp => obtain ⟨_, _, rfl⟩ := h; rfl
  | ls => obtain ⟨_, _, _, rfl, _⟩ := h; rfl
  | cp => obtain ⟨_, _, _, _, rfl, _⟩ := h; rfl
  | sl => obtain ⟨_, _, _, rfl, _⟩ := h; rfl
  | agg => simp [oneV] at ho
  | tuple => simp [oneV] at ho
  | iface => obtain ⟨_, rfl, _⟩ := h; rfl
  | fn => obtain ⟨_, _, rfl, _⟩ := h; rfl

/-- Every element's cells are of one cell each. -/
def V.cells : V → List V
  | .agg cs => cs
  | x => [x]
theorem VR.cells_one {x : V} {v : Value} (h : VR S g x v) (ht : ∀ vs, x ≠ .tuple vs) (ho : x.cells.all oneV = true) : ∀ u ∈ v.cells.toList, u.oneCell' = true := by
  intro u hu
  cases x with
  | agg cs =>
    obtain ⟨ws, rfl, hs, hr⟩ := h
    simp only [Value.cells] at hu
    obtain ⟨i, hi, rfl⟩ := List.mem_iff_getElem.1 hu
    simp only [V.cells, List.all_eq_true] at ho
    have hi' : i < cs.length := by rw [← hs]; simpa using hi
    obtain ⟨v', hv', hr'⟩ := hr.get i cs[i] (List.getElem?_eq_getElem hi')
    have e : ws.toList[i] = v' := by rw [List.getElem?_eq_getElem hi] at hv'; exact Option.some.inj hv'
    rw [e]
    exact hr'.oneCell (ho _ (List.getElem_mem hi'))
  | tuple vs => exact absurd rfl (ht vs)
  | _ =>
    have h1 := VR.oneCell h (by rfl)
    have : v.cells = #[v] := by cases v <;> simp_all [Value.cells, Value.oneCell']
    rw [this] at hu
    simp at hu
    subst hu
    exact h1
def elemOk (x : V) : Bool := (match x with | .tuple _ => false | _ => true) && x.cells.all oneV
theorem VRe.one {k : Nat} : ∀ {xs : List V} {vs : List Value}, VRe S k xs vs → xs.all elemOk = true → ∀ u ∈ vs.take (xs.length * k), u.oneCell' = true
  | [], vs, _, _, u, hu => by simp at hu
  | x :: xs, vs, h, ho, u, hu => by
    obtain ⟨v, r, rfl, h1, h2, h3⟩ := h
    simp only [List.all_cons, Bool.and_eq_true] at ho
    have hk : v.cells.toList.length = k := by simpa using h1
    rw [List.length_cons, Nat.add_mul, Nat.one_mul, Nat.add_comm, List.take_append, hk] at hu
    rcases List.mem_append.1 hu with hu | hu
    · have hx := ho.1
      simp only [elemOk, Bool.and_eq_true] at hx
      exact (h2 (fun _ => none)).cells_one (fun vs e => by subst e; simp at hx) hx.2 u (List.mem_of_mem_take hu)
    · rw [show k + xs.length * k - k = xs.length * k by omega] at hu
      exact VRe.one h3 ho.2 u hu
end
end Go.Abs

namespace Go.Abs
open Go
section
variable {C : Cx} {B : Base} {S S' : Seal} {g g' : Locs} {s : St} {a : Act} {w w' : World}

theorem SR.sameHp (h : SR C B S g s a w) {n : Nat} {o : HO} (hn : lk s.hp n = some o) : SR C B S g { s with hp := (n, o) :: s.hp } a w := by
  refine h.le ⟨fun t x hx => ⟨x, hx, VLe.refl x⟩, fun i o' hi => .inl ?_, fun _ h => h⟩ ⟨h.lo, h.rm⟩
  simp only [lk] at hi
  by_cases hni : n = i
  · subst hni
    simp only [if_true, Option.some.injEq] at hi
    exact hi ▸ hn
  · simpa [hni] using hi

theorem run_append_empty {P : Program} (w : World) (t u ty e : TypeId) (ht : P.underlying t = some (.slice e)) (i : TypeInfo) (hi : P.info? e = some i)
    (hu : ∃ f, P.underlying u = some (.slice f)) (b ad : Option Addr) (len cap c : Nat) (hc : len ≤ cap) :
    (Builtin.append_ #[t, u] ty #[.slice b len cap, .slice ad 0 c]).run P w = .ok (.slice b len cap) w := by
  obtain ⟨f, hu⟩ := hu
  cases b <;> cases ad <;> simp [Builtin.append_, run_underlying ht, run_underlying hu, sizeOf, typeInfo, hi, Builtin.lenOf, hc, Builtin.firstCells, loadCells, loadCellsFrom, storeCells]

theorem gle_arr {n l total cap : Nat} {ad : Option Addr} {ad0 : Option Addr} {c0 : Nat} (hg0 : g n = some (.arr ad0 l c0)) (hl : l < total) :
    ∀ j, gle g (Abs.upd g n (.arr ad total cap)) j := fun j => by
  by_cases e : j = n
  · subst e; exact .inr ⟨_, _, _, ad, total, cap, hg0, by simp [Abs.upd], hl⟩
  · exact .inl (by simp [Abs.upd, e])

theorem upd_old {n c y : Nat} {l x : Loc} {is : List Nat} (hg0 : g n = some x) (i : Nat) (h0 : g i = none) (h1 : Abs.upd g n l i ≠ none) : i ∈ is ∧ i < c ∧ y ≤ i := by
  by_cases e : i = n
  · subst e; rw [hg0] at h0; cases h0
  · simp only [Abs.upd, e, if_false] at h1; exact absurd h0 h1

/-- A nil slice gets a name. -/
theorem SR.adopt (h : SR C B S g s a w) {n e k : Nat} (hf : g n = none) (hoc : n < s.cn ∧ s.nx ≤ n) :
    SR C B S (Abs.upd g n (.arr none 0 0)) { s with hp := (n, .tok e k 0) :: s.hp, ids := n :: s.ids } a w ∧
      VR S (Abs.upd g n (.arr none 0 0)) (.sl (some n) k []) (.slice none 0 0) := by
  refine ⟨h.step (x := n) (xb := none) (SLe.refl S) h.good (Nat.le_refl _) (gle_upd hf) (fun i hi => by simp [Abs.upd, hi]) (fun _ hb => by cases hb)
    (fun b hb _ => ⟨rfl, rfl⟩) ?_ (fun b hb => by simp [blk, Abs.upd] at hb) (fun _ h => List.mem_cons_of_mem _ h) (upd_new hoc) (.inr hf), ?_⟩
  · exact ⟨none, 0, [], by simp [Abs.upd], ⟨by simp, .inl ⟨rfl, rfl⟩⟩, fun ad ha => by cases ha⟩
  · exact ⟨none, 0, 0, rfl, rfl, Nat.le_refl _, .inl rfl, fun m hm => by cases hm; exact ⟨none, 0, 0, by simp [Abs.upd], Nat.le_refl _, fun _ => ⟨rfl, rfl⟩⟩⟩

/-- The array has moved to a new block. -/
theorem SR.appNew (h : SR C B S g s a w) {n e k l total cap c0 : Nat} {ad0 : Option Addr} {all zs : List Value} {zsV : List V} {on : HO} (hn : lk s.hp n = some on)
    (hg0 : g n = some (.arr ad0 l c0)) (hl : l < total) (hlen : all.length = total * k) (hcap : total ≤ cap) (hmax : cap ≤ maxLen)
    (hfull : (all ++ zs).length = cap * k) (hv : VRe S k zsV all) (hvl : zsV.length = total) :
    SR C B (Abs.upd S w.heap.size all) (Abs.upd g n (.arr (some ⟨w.heap.size, 0, none⟩) total cap)) { s with hp := (n, .tok e k total) :: s.hp } a (w.alloc (.cells (all ++ zs).toArray e)) ∧
      VR (Abs.upd S w.heap.size all) (Abs.upd g n (.arr (some ⟨w.heap.size, 0, none⟩) total cap)) (.sl (some n) k zsV) (.slice (some ⟨w.heap.size, 0, none⟩) total cap) ∧ SLe S (Abs.upd S w.heap.size all) := by
  have hS : SLe S (Abs.upd S w.heap.size all) := SLe.upd h.good.none_size
  have hG : Good C (Abs.upd S w.heap.size all) (w.alloc (.cells (all ++ zs).toArray e)) := by
    refine h.good.keep hS fun b p hp => ?_
    simp only [Abs.upd] at hp
    split at hp
    · rename_i e'; subst e'; cases hp
      exact .inr ⟨_, e, _, heap_alloc_size w _, by simp⟩
    · obtain ⟨c, E', fr, hh, _⟩ := h.good.1 b p hp
      exact .inl ⟨hp, heap_alloc_lt w _ b (Array.getElem?_eq_some_iff.1 hh).1⟩
  refine ⟨h.step (x := n) (xb := none) hS hG (by simp) (fun i _ => gle_arr hg0 hl i) (fun i hi => by simp [Abs.upd, hi]) (fun _ hb => by cases hb)
    (fun b hb _ => ⟨heap_alloc_lt w _ b hb, by simp [Abs.upd, Nat.ne_of_lt hb]⟩) ?_ (fun b hb => .inr (by simp [blk, Abs.upd] at hb; omega)) (fun _ h => h) (upd_old hg0) (.inl ⟨_, hn⟩), ?_, hS⟩
  · refine ⟨_, _, all, by simp [Abs.upd], ⟨hlen, .inr ⟨_, _, _, rfl, Nat.zero_le _, heap_alloc_size w _, hcap, hmax, by simpa using hfull, ?_⟩⟩, fun ad ha => ?_⟩
    · simp [← hlen]
    · cases ha; simp [Abs.upd]
  · refine ⟨_, _, _, rfl, hvl.symm, hcap, .inr ⟨_, _, all, rfl, by simp [Abs.upd], by simpa using VRe.mono hS k zsV List.prefix_rfl hv⟩, fun m hm => ?_⟩
    cases hm
    exact ⟨_, _, _, by simp [Abs.upd], Nat.le_refl _, fun _ => ⟨rfl, rfl⟩⟩

theorem SR.app (h : SR C B S g s a w) {n e k : Nat} {xs ys : List V} {tk : Option Nat} {v : Value} {ad : Option Addr} {m c : Nat}
    (hn : lk s.hp n = some (.tok e k xs.length)) (hv : VR S g (.sl (some n) k xs) v) (hy : VR S g (.sl tk k ys) (.slice ad m c)) (ho : ys.all elemOk = true)
    (t ty : TypeId) (i : TypeInfo) (z : Value) (bytes : Nat) (ht : C.P.underlying t = some (.slice e)) (hi : C.P.info? e = some i) (hz : i.zero = some z)
    (hsize : i.size = k) (hby : i.bytes = bytes) (hzs : z.cells.size = k) 
    (h63 : xs.length + ys.length ≤ maxLen) (hbytes : (xs.length + ys.length) * bytes ≤ 140737488355328) :
    ∃ v' w' S' g', (Builtin.append_ #[t, t] ty #[v, .slice ad m c]).run C.P w = .ok v' w' ∧
      SR C B S' g' { s with hp := (n, .tok e k (xs ++ ys).length) :: s.hp } a w' ∧ VR S' g' (.sl (some n) k (xs ++ ys)) v' ∧
      SLe S S' ∧ (∀ j, gle g g' j) := by
  obtain ⟨ad0, cap0, cells, hg0, hrow, hseal⟩ := h.hp.1 n _ hn
  obtain ⟨va, vl, vc, rfl, hvl, hvc, hvx, hvt⟩ := id hv
  obtain ⟨_, _, _, hg1, _, hvt2⟩ := hvt n rfl
  rw [hg0] at hg1
  cases hg1
  obtain ⟨rfl, rfl⟩ := hvt2 hvl
  subst hvl
  by_cases hys : ys = []
  · subst hys
    obtain ⟨_, _, _, he, hm, _⟩ := id hy
    cases he
    simp only [List.length_nil] at hm
    subst hm
    refine ⟨_, w, S, g, run_append_empty w t t ty e ht i hi ⟨e, ht⟩ va ad xs.length vc c hvc, ?_, ?_, SLe.refl S, fun _ => .inl rfl⟩
    · simpa using h.sameHp hn
    · simpa using hv
  · obtain ⟨yb, yi, yp, rfl, hyp, hye, rfl, hyc⟩ := sl_cells h.good hy hys
    have hylen : ((yp.drop yi).take (ys.length * k)).length = ys.length * k := by
      rw [List.length_take]; have := VRe.len hye; omega
    have hyone := VRe.one hye ho
    have hye' := VRe.take hye
    generalize hnews : (yp.drop yi).take (ys.length * k) = news at *
    have hyn : 0 < ys.length := List.length_pos_iff.2 hys
    have h63' : xs.length + ys.length ≤ 9223372036854775807 := by simp only [maxLen] at h63; omega
    have hzlen : ∀ q : Nat, (Builtin.zeroCells z.cells q).toList.length = q * k := fun q => by rw [Array.length_toList, size_zeroCells, hzs]
    have hge := fun w : World => fun old => grownCap_ge w (xs.length + ys.length) old e
    have hcm := fun w : World => fun old => grownCap_le_maxLen w (xs.length + ys.length) old e h63
    have hxl : cells.length = xs.length * k := hrow.1
    -- the elder cells
    have hxe : VRe S k xs cells := by
      rcases hvx with rfl | ⟨b, i', p, rfl, hp, hr⟩
      · trivial
      · have hpc := hseal _ rfl
        rw [hp] at hpc
        cases hpc
        rcases hrow.2 with ⟨he, _⟩ | ⟨b', cap', cur', he, _⟩
        · cases he
        · cases he; simpa using hr
    have hall : VRe S k (xs ++ ys) (cells ++ news) := hxe.append hye' hxl
    have hal : (cells ++ news).length = (xs.length + ys.length) * k := by rw [List.length_append, hxl, hylen, Nat.add_mul]
    have hfull : ∀ w : World, ∀ old, ((cells ++ news) ++ (Builtin.zeroCells z.cells (grownCap w (xs.length + ys.length) old e - (xs.length + ys.length))).toList).length = grownCap w (xs.length + ys.length) old e * k := fun w old => by
      rw [List.length_append, hal, hzlen, ← Nat.add_mul]
      congr 1
      have := hge w old
      omega
    have harr : ∀ (l : List Value) (z : Array Value), l.toArray ++ z = (l ++ z.toList).toArray := fun l z => by apply Array.ext'; simp
    have hgr : ∀ old, ∀ W : World, W = w.drew.alloc (.cells ((cells ++ news) ++ (Builtin.zeroCells z.cells (grownCap w (xs.length + ys.length) old e - (xs.length + ys.length))).toList).toArray e) → ∃ S' g',
        SR C B S' g' { s with hp := (n, .tok e k (xs ++ ys).length) :: s.hp } a W ∧
        VR S' g' (.sl (some n) k (xs ++ ys)) (.slice (some ⟨w.heap.size, 0, none⟩) (xs.length + ys.length) (grownCap w (xs.length + ys.length) old e)) ∧ SLe S S' ∧ (∀ j, gle g g' j) := fun old W hW => by
      have hd : SR C B S g s a w.drew := h.drew
      obtain ⟨h1, h2, h3⟩ := hd.appNew (total := xs.length + ys.length) (e := e) hn hg0 (by omega) hal (hge w old) (hcm w old) (hfull w old) hall (by simp)
      refine ⟨_, _, ?_, h2, h3, gle_arr hg0 (by omega)⟩
      rw [hW, List.length_append]
      exact h1
    rcases hrow.2 with ⟨he, hx0⟩ | ⟨b, cap, cur, he, _, hb, hncap, hcmax, hcsz, htake⟩
    · -- nil
      have hx : xs = [] := List.eq_nil_of_length_eq_zero hx0
      subst hx
      simp only [Value.slice.injEq] at he
      obtain ⟨rfl, _, rfl⟩ := he
      have hc0 : cells = [] := List.eq_nil_of_length_eq_zero (by simpa using hxl)
      subst hc0
      have hr := run_append_nil (P := C.P) w t ty e i z ht hi hz ⟨yb, yi, none⟩ ys.length c news (by rw [hsize]; exact hylen) hyc hyn (by omega)
        (by rw [hby]; have := hbytes; simp only [List.length_nil, Nat.zero_add] at this; omega)
      obtain ⟨S', g', h1, h2, h3, h4⟩ := hgr 0 _ (congrArg (fun x => w.drew.alloc (.cells x e)) (harr _ _))
      refine ⟨_, _, S', g', hr, ?_, ?_, h3, h4⟩
      · simpa using h1
      · simpa using h2
    · cases he
      by_cases hroom : xs.length + ys.length ≤ vc
      · -- room
        have hfit : xs.length * k + news.length ≤ cur.size := by rw [hylen, hcsz, ← Nat.add_mul]; exact Nat.mul_le_mul_right _ hroom
        have hr := run_append_room (P := C.P) w t ty e i ht hi b xs.length vc cur hb ⟨yb, yi, none⟩ ys.length c news (by rw [hsize]; exact hylen) hyc hyone hroom (by rw [hsize]; exact hfit)
        rw [hsize, htake] at hr
        have hSb : S b = some cells := hseal _ rfl
        have hS : SLe S (Abs.upd S b (cells ++ news)) := SLe.updp hSb (List.prefix_append _ _)
        refine ⟨_, _, Abs.upd S b (cells ++ news), Abs.upd g n (.arr (some ⟨b, 0, none⟩) (xs.length + ys.length) vc), hr, ?_, ?_, hS, gle_arr hg0 (by omega)⟩
        · refine h.step (x := n) (xb := some b) hS (h.good.keep hS fun b' p hp => ?_) (by rw [setRow_size]; exact Nat.le_refl _) (fun i _ => gle_arr hg0 (by omega) i) (fun i hi => by simp [Abs.upd, hi])
            (fun b' hb' => ⟨_, hn, by cases hb'; simp [blk, hg0]⟩) (fun b' _ hne => ?_) ?_ (fun b' hb' => .inl (by simp [blk, Abs.upd] at hb'; simp [hb'])) (fun _ h => h) (upd_old hg0) (.inl ⟨_, hn⟩)
          · simp only [Abs.upd] at hp
            split at hp
            · rename_i e'; subst e'; cases hp
              exact .inr ⟨_, e, _, setRow_heap w _ cur _ e _ hb, by simp [List.append_assoc]⟩
            · rename_i e'
              exact .inl ⟨hp, setRow_other w b b' _ e'⟩
          · have : b' ≠ b := fun e' => hne (by rw [e'])
            exact ⟨setRow_other w b b' _ this, by simp [Abs.upd, this]⟩
          · refine ⟨some ⟨b, 0, none⟩, vc, cells ++ news, by simp [Abs.upd], ⟨by rw [hal, List.length_append], .inr ⟨b, vc, _, by simp, Nat.zero_le _, setRow_heap w b cur _ e _ hb, by simpa using hroom, hcmax, ?_, ?_⟩⟩, fun ad ha => ?_⟩
            · simp only [List.size_toArray, List.length_append, List.length_drop, Array.length_toList, hxl, hcsz]
              rw [hcsz] at hfit
              omega
            · rw [List.length_append, ← hal]
              exact List.take_left
            · cases ha; simp [Abs.upd]
        · refine ⟨_, _, _, rfl, by simp, hroom, .inr ⟨b, 0, cells ++ news, rfl, by simp [Abs.upd], by simpa using VRe.mono hS k _ List.prefix_rfl hall⟩, fun m hm => ?_⟩
          cases hm
          exact ⟨_, _, _, by simp [Abs.upd], Nat.le_refl _, fun _ => ⟨rfl, rfl⟩⟩
      · -- it moves
        have holds : ∀ j u, cells[j]? = some u → w.cell? ((⟨b, 0, none⟩ : Addr).add j) = some u := hrow.cells (g := b) rfl
        have hr := run_append_grow (P := C.P) w t ty e i z ht hi hz ⟨b, 0, none⟩ xs.length vc cells (by rw [hsize]; exact hxl) holds ⟨yb, yi, none⟩ ys.length c news (by rw [hsize]; exact hylen) hyc (by omega) (by omega)
          (by rw [hby]; exact growslice_fits (by omega) hbytes)
        obtain ⟨S', g', h1, h2, h3, h4⟩ := hgr vc _ (congrArg (fun x => w.drew.alloc (.cells x e)) (harr _ _))
        refine ⟨_, _, S', g', hr, ?_, h2, h3, h4⟩
        simpa using h1
end
end Go.Abs

namespace Go.Abs
open Go

/-- Operands. -/
inductive AX where
  | t (n : Nat)
  | c (v : V)
  | g (n : Nat)

inductive AOp where
  | mv | cstr | pick | box | nilck | len | slen | s2b | b2s | idxs
  | load (n : Nat) (ag : Bool)
  | store (n : Nat)
  | bin (op : BinOp)
  | beq (neg : Bool)
  | nileq (kd : Nat) (neg : Bool)
  | seq (neg : Bool) (ks : List Nat)
  | un (op : UnOp)
  | conv (k : IntKind)
  | mkif (t : Nat)
  | mkfn (f : Fn) (nf : Nat)
  | sstr (lo hi : Bool)
  | ssl (k : Nat) (lo hi : Bool)
  | faddr (off : Nat)
  | fld (off n : Nat) (ag : Bool)
  | idxa (k : Nat)
  | idxarr (len k : Nat)
  | ext (i : Nat)
  | bld (zero : List V) (ps : List (Nat × Nat))
  | lit (e k : Nat)
  | app (e k bytes : Nat)
  | apps (e bytes : Nat)
  | boxs
  | ranges
  | nexts
  | ibs
  | mm (max : Bool)
  | mkmap
  | rangem
  | nextm
  | entrym
  | sarr (n : Nat)
  | litp (z : V) (n : Nat)
  | mget (kd : Nat) (ok : Bool) (z : V)
  | mput (kd : Nat)

mutual
def V.strip : V → V
  | .sl _ k xs => .sl none k xs
  | .agg cs => .agg (stripL cs)
  | .tuple cs => .tuple (stripL cs)
  | .iface t x => .iface t x.strip
  | .fn f fs cs => .fn f (stripL fs) (stripL cs)
  | x => x
def stripL : List V → List V
  | [] => []
  | x :: xs => x.strip :: stripL xs
end
mutual
theorem strip_le : ∀ (x : V) {S : Seal} {g : Locs} {v : Value}, VR S g x v → VR S g x.strip v
  | .int _ _, _, _, _, h => h
  | .bool _, _, _, _, h => h
  | .str _, _, _, _, h => h
  | .raw _, _, _, _, h => h
  | .ptr _ _, _, _, _, h => h
  | .cp _ _, _, _, _, h => h
  | .mp _, _, _, _, h => h
  | .ls _ _ _ _, _, _, _, h => h
  | .sl tk k xs, _, _, _, h => VLe.sl tk k xs _ _ _ h
  | .agg cs, _, _, _, h => by
    obtain ⟨ws, rfl, hs, hr⟩ := h
    exact ⟨ws, rfl, by rw [hs, stripL_len], stripL_le cs hr⟩
  | .tuple cs, _, _, _, h => by
    obtain ⟨ws, rfl, hs, hr⟩ := h
    exact ⟨ws, rfl, by rw [hs, stripL_len], stripL_le cs hr⟩
  | .iface _ x, _, _, _, h => by
    obtain ⟨w, rfl, hr⟩ := h
    exact ⟨w, rfl, strip_le x hr⟩
  | .fn _ fs cs, _, _, _, h => by
    obtain ⟨ws, us, rfl, h1, h2, h3, h4⟩ := h
    exact ⟨ws, us, rfl, by rw [h1, stripL_len], by rw [h2, stripL_len], stripL_le fs h3, stripL_le cs h4⟩
theorem stripL_le : ∀ (xs : List V) {S : Seal} {g : Locs} {vs : List Value}, VRs S g xs vs → VRs S g (stripL xs) vs
  | [], _, _, _, _ => trivial
  | x :: xs, _, _, _, h => by
    obtain ⟨v, r, rfl, h1, h2⟩ := h
    exact ⟨v, r, rfl, strip_le x h1, stripL_le xs h2⟩
theorem stripL_len : ∀ xs : List V, (stripL xs).length = xs.length
  | [] => rfl
  | _ :: xs => by simp [stripL, stripL_len xs]
end

/-- What an operation does. -/
inductive Eff where
  | ret (v : V)
  | rd (o off n : Nat) (ag : Bool)
  | wr (o off : Nat) (vs : List V)
  | new (o : Nat) (cs : List V)
  | lit (n e k : Nat) (xs : List V)
  | app (n e k l : Nat) (xs : List V)
  | appnil (n e k : Nat) (xs : List V)
  | sealed (k : Nat) (xs : List V)
  | sealb (cs : List V)
  | newsit (o : Nat) (l : List UInt8)
  | snxt (o : Nat)
  | newm (o : Nat)
  | newit (o m : Nat)
  | nxt (o : Nat)
  | ent (o : Nat)
  | newsl (o : Nat) (cs : List V) (n : Nat)
  | mrd (o kd : Nat) (k : V) (ok : Bool) (z : V)
  | mwr (o kd : Nat) (k v : V)

def encB (b : UInt8) : V := .int .u8 (b.toNat : Int)
def toB : List V → Option (List UInt8)
  | [] => some []
  | .int .u8 n :: xs => if ((UInt8.ofNat n.toNat).toNat : Int) = n then (toB xs).map (UInt8.ofNat n.toNat :: ·) else none
  | _ => none
theorem toB_map (l : List UInt8) : toB (l.map encB) = some l := by
  induction l with
  | nil => rfl
  | cons b l ih =>
    have h : UInt8.ofNat ((b.toNat : Int)).toNat = b := by simp
    simp only [List.map_cons, encB, toB, h, if_true]
    rw [show (List.map encB l) = List.map encB l from rfl, ih]
    rfl
theorem toB_some : ∀ {xs : List V} {l : List UInt8}, toB xs = some l → xs = l.map encB
  | [], l, h => by simp only [toB, Option.some.injEq] at h; subst h; rfl
  | .int k n :: xs, l, h => by
    cases k <;> simp only [toB, reduceCtorEq] at h
    split at h
    · rename_i hn
      simp only [Option.map_eq_some_iff] at h
      obtain ⟨l', h1, rfl⟩ := h
      rw [toB_some h1]
      simp only [List.map_cons, encB, hn]
    · cases h
  | .bool _ :: _, _, h => by simp [toB] at h
  | .str _ :: _, _, h => by simp [toB] at h
  | .raw _ :: _, _, h => by simp [toB] at h
  | .ptr _ _ :: _, _, h => by simp [toB] at h
  | .cp _ _ :: _, _, h => by simp [toB] at h
  | .mp _ :: _, _, h => by simp [toB] at h
  | .ls _ _ _ _ :: _, _, h => by simp [toB] at h
  | .sl _ _ _ :: _, _, h => by simp [toB] at h
  | .agg _ :: _, _, h => by simp [toB] at h
  | .tuple _ :: _, _, h => by simp [toB] at h
  | .iface _ _ :: _, _, h => by simp [toB] at h
  | .fn _ _ _ :: _, _, h => by simp [toB] at h

def pack (ag : Bool) (cs : List V) : V := if ag then .agg cs else cs.headD (.raw .nilFunc)

def iop (op : BinOp) (k : IntKind) (a b : Int) : Option (Prop × V) :=
  match op with
  | .add => some (True, .int k (k.wrap (a + b)))
  | .sub => some (True, .int k (k.wrap (a - b)))
  | .mul => some (True, .int k (k.wrap (a * b)))
  | .quo => some (b ≠ 0, .int k (k.wrap (a.tdiv b)))
  | .rem => some (b ≠ 0, .int k (a.tmod b))
  | .and => some (True, .int k (k.wrap ((BitVec.ofInt k.bits a &&& BitVec.ofInt k.bits b).toNat : Int)))
  | .or => some (True, .int k (k.wrap ((BitVec.ofInt k.bits a ||| BitVec.ofInt k.bits b).toNat : Int)))
  | .xor => some (True, .int k (k.wrap ((BitVec.ofInt k.bits a ^^^ BitVec.ofInt k.bits b).toNat : Int)))
  | .eql => some (True, .bool (a == b))
  | .neq => some (True, .bool (a != b))
  | .lss => some (True, .bool (decide (a < b)))
  | .leq => some (True, .bool (decide (a ≤ b)))
  | .gtr => some (True, .bool (decide (b < a)))
  | .geq => some (True, .bool (decide (b ≤ a)))
  | _ => none
def shop (op : BinOp) (k : IntKind) (a b : Int) : Option (Prop × V) :=
  match op with
  | .shl => some (0 ≤ b, .int k (k.wrap (a * 2 ^ (min b.toNat k.bits))))
  | .shr => some (0 ≤ b, .int k (a.fdiv (2 ^ (min b.toNat k.bits))))
  | _ => none
def sop (op : BinOp) (a b : List UInt8) : Option (Prop × V) :=
  match op with
  | .add => some (a.length + b.length ≤ 9223372036854775807, .str (a ++ b))
  | .eql => some (True, .bool (a == b))
  | .neq => some (True, .bool (!(a == b)))
  | .lss => some (True, .bool (Op.bytesLess a b))
  | .leq => some (True, .bool (Op.bytesLess a b || a == b))
  | .gtr => some (True, .bool (!(Op.bytesLess a b || a == b)))
  | .geq => some (True, .bool (!Op.bytesLess a b))
  | _ => none
def isShift : BinOp → Bool
  | .shl => true
  | .shr => true
  | _ => false
def vbin (op : BinOp) : V → V → Option (Prop × V)
  | .int k a, .int k' b => if isShift op then shop op k a b else if k = k' then iop op k a b else none
  | .str a, .str b => sop op a b
  | _, _ => none

/-- Two scalars of a plain kind: 0: integers, 1: texts, 2: bools. -/
def veq : Nat → V → V → Option Bool
  | 0, .int k a, .int k' b => if k = k' then some (a == b) else none
  | 1, .str a, .str b => some (a == b)
  | 2, .bool a, .bool b => some (a == b)
  | _, _, _ => none
def veqs : List Nat → List V → List V → Option Bool
  | [], [], [] => some true
  | k :: ks, x :: xs, y :: ys => match veq k x y, veqs ks xs ys with
    | some b, some c => some (b && c)
    | _, _ => none
  | _, _, _ => none

/-- Nil: of an interface type (0), a pointer's (1), a function's (2). -/
def isNil : Nat → V → Option Bool
  | 0, .raw .nilIface => some true
  | 0, .iface _ _ => some false
  | 1, .raw (.pointer none) => some true
  | 1, .ptr _ _ => some false
  | 1, .cp _ _ => some false
  | 2, .raw .nilFunc => some true
  | 2, .fn _ _ _ => some false
  | 3, .raw (.slice none 0 0) => some true
  | 3, .sl _ _ (_ :: _) => some false
  | _, _ => none

def mfind (kd : Nat) (k : V) : List (Nat × V × V) → Option (Option V)
  | [] => some none
  | (_, k', v) :: es => match veq kd k k' with
    | some true => some (some v)
    | some false => mfind kd k es
    | none => none
/-- A map behind a store: a new entry bears the clock's stamp (the second part: whether there was one). -/
def mput (kd : Nat) (k v : V) (clock : Nat) : List (Nat × V × V) → Option (List (Nat × V × V) × Bool)
  | [] => some ([(clock, k, v)], false)
  | (n, k', v') :: es => match veq kd k k' with
    | some true => some ((n, k, v) :: es, true)
    | some false => match mput kd k v clock es with
      | some (es', b) => some ((n, k', v') :: es', b)
      | none => none
    | none => none
/-- What an iterator may give next: the one thing, if there is one alone. -/
def mnext (since : Nat) (seen : List Nat) (es : List (Nat × V × V)) : Option (Option (Nat × V × V)) :=
  let left := es.filter fun e => !seen.contains e.1
  let old := left.filter fun e => decide (e.1 < since)
  let new := left.filter fun e => decide (e.1 ≥ since)
  match old, new with
  | [], [] => some none
  | [e], [] => some (some e)
  | _, _ => none
def mres (ok : Bool) (z : V) (r : Option V) : V := if ok then .tuple [r.getD z, .bool r.isSome] else r.getD z
def isKeyV : Nat → V → Bool
  | 0, .int _ _ => true
  | 1, .str _ => true
  | 2, .bool _ => true
  | _, _ => false
def putParts : List V → List (Nat × Nat) → List V → Option (List V)
  | cells, [], [] => some cells
  | cells, (off, size) :: ps, x :: xs =>
    if x.cells.length = size ∧ off + size ≤ cells.length then putParts (splice cells off x.cells) ps xs else none
  | _, _, _ => none

def elemNt : V → Bool
  | .tuple _ => false
  | _ => true

def nilSlice : V := .raw (.slice none 0 0)

def AOp.act (d : Nat) : AOp → List V → Option (Prop × Eff)
  | .mv, [x] => some (True, .ret x)
  | .cstr, [.str s] => some (True, .ret (.str s))
  | .mkmap, [] => some (True, .newm d)
  | .rangem, [.mp o] => some (True, .newit d o)
  | .ranges, [.str l] => some (True, .newsit d l)
  | .nexts, [.ptr o 0] => some (True, .snxt o)
  | .ibs, [.str l, .int .u8 c] => some (True, .ret (.int .i64 (Lib.indexByte l c.toNat.toUInt8)))
  | .nextm, [.ptr o 0] => some (True, .nxt o)
  | .entrym, [.ptr o 0] => some (True, .ent o)
  | .sarr n, [.cp cs off, .int _ l, .int _ h] => if ((cs.drop off).take n).all oneV then some (0 ≤ l ∧ l ≤ h ∧ h ≤ n ∧ off + n ≤ cs.length, .ret (.sl none 1 ((((cs.drop off).take n).take h.toNat).drop l.toNat))) else none
  | .sarr n, [.ptr o off, .int _ l, .int _ h] => some (0 ≤ l ∧ l ≤ h ∧ h ≤ n ∧ l < n, .ret (.ls o (off + l.toNat) 1 (h.toNat - l.toNat)))
  | .litp z n, xs => (putParts (List.replicate n z) ((List.range' 0 n).map fun j => (j, 1)) xs).map fun cs => (xs.all elemNt = true, .newsl d cs n)
  | .len, [.ls _ _ _ n] => some (True, .ret (.int .i64 n))
  | .idxa k, [.ls o off k' n, .int _ i] => if k' = k then some (0 ≤ i ∧ i < n, .ret (.ptr o (off + i.toNat * k))) else none
  | .mget kd ok z, [.mp o, k] => some (isKeyV kd k = true, .mrd o kd k ok z)
  | .mput kd, [.mp o, k, v] => some (isKeyV kd k = true, .mwr o kd k v)
  | .s2b, [.str l] => some (True, .sealed 1 (l.map encB))
  | .b2s, [.sl _ k xs] => if k = 1 then (toB xs).map fun l => (True, .ret (.str l)) else none
  | .b2s, [.raw (.slice none 0 0)] => some (True, .ret (.str []))
  | .pick, [.bool c, x, y] => some (True, .ret (if c then x else y))
  | .box, [x] => some (elemOk x = true, .new d x.cells)
  | .boxs, [x] => some (elemOk x = true ∧ x.idf = true, .sealb x.cells)
  | .nilck, [.ptr o off] => some (True, .ret (.ptr o off))
  | .nilck, [.cp cs off] => some (True, .ret (.cp cs off))
  | .slen, [.str s] => some (True, .ret (.int .i64 s.length))
  | .len, [.sl _ _ xs] => some (True, .ret (.int .i64 xs.length))
  | .len, [.raw (.slice none 0 0)] => some (True, .ret (.int .i64 0))
  | .idxs, [.str s, .int _ i] => some (0 ≤ i ∧ i < s.length, .ret (.int .u8 ((s.getD i.toNat 0).toNat : Int)))
  | .load n ag, [.ptr o off] => some (True, .rd o off n ag)
  | .load n ag, [.cp cs off] => some (off + n ≤ cs.length, .ret (pack ag ((cs.drop off).take n)))
  | .store n, [.ptr o off, x] => some (x.cells.length = n ∧ elemOk x = true, .wr o off x.cells)
  | .bin op, [x, y] => (vbin op x y).map fun p => (p.1, .ret p.2)
  | .beq neg, [.bool a, .bool b] => some (True, .ret (.bool (if neg then a != b else a == b)))
  | .nileq kd neg, [x] => (isNil kd x).map fun b => (True, .ret (.bool (if neg then !b else b)))
  | .seq neg ks, [.agg xs, .agg ys] => (veqs ks xs ys).map fun b => (True, .ret (.bool (if neg then !b else b)))
  | .un .not, [.bool b] => some (True, .ret (.bool (!b)))
  | .un .neg, [.int k n] => some (True, .ret (.int k (k.wrap (0 - n))))
  | .conv k, [.int _ n] => some (True, .ret (.int k (k.wrap n)))
  | .mkif t, [x] => some (True, .ret (.iface t x))
  | .mkfn f nf, xs => some (True, .ret (.fn f (xs.take nf) (xs.drop nf)))
  | .sstr true true, [.str s, .int _ l, .int _ h] => some (0 ≤ l ∧ l ≤ h ∧ h ≤ s.length, .ret (.str ((s.take h.toNat).drop l.toNat)))
  | .sstr true false, [.str s, .int _ l] => some (0 ≤ l ∧ l ≤ s.length, .ret (.str (s.drop l.toNat)))
  | .sstr false true, [.str s, .int _ h] => some (0 ≤ h ∧ h ≤ s.length, .ret (.str (s.take h.toNat)))
  | .ssl k true true, [.sl _ k' xs, .int _ l, .int _ h] => if k' = k then some (0 ≤ l ∧ l ≤ h ∧ h ≤ xs.length, .ret (.sl none k ((xs.take h.toNat).drop l.toNat))) else none
  | .ssl k true false, [.sl _ k' xs, .int _ l] => if k' = k then some (0 ≤ l ∧ l ≤ xs.length, .ret (.sl none k (xs.drop l.toNat))) else none
  | .ssl k false true, [.sl _ k' xs, .int _ h] => if k' = k then some (0 ≤ h ∧ h ≤ xs.length, .ret (.sl none k (xs.take h.toNat))) else none
  | .faddr f, [.ptr o off] => some (True, .ret (.ptr o (off + f)))
  | .faddr f, [.cp cs off] => some (True, .ret (.cp cs (off + f)))
  | .fld off n ag, [.agg cs] => some (off + n ≤ cs.length, .ret (pack ag ((cs.drop off).take n)))
  | .idxa k, [.sl _ k' xs, .int _ i] => if k' = k then some (0 ≤ i ∧ i < xs.length, .ret (.cp (xs.getD i.toNat (.raw .nilFunc)).cells 0)) else none
  | .idxarr n k, [.ptr o off, .int _ i] => some (0 ≤ i ∧ i < n, .ret (.ptr o (off + i.toNat * k)))
  | .idxarr n k, [.cp cs off, .int _ i] => some (0 ≤ i ∧ i < n, .ret (.cp cs (off + i.toNat * k)))
  | .ext i, [.tuple vs] => some (i < vs.length, .ret (vs.getD i (.raw .nilFunc)))
  | .bld zero ps, xs => (putParts zero ps xs).map fun cs => (True ∧ xs.all elemNt = true, .ret (.agg cs))
  | .lit e k, xs => some ((xs.map V.strip).all (fun x => x.cells.length = k && elemOk x && x.idf) = true, .lit d e k (xs.map V.strip))
  | .app e k bytes, [.sl (some n) k' xs, .sl _ k'' ys] =>
    if k' = k ∧ k'' = k then some (ys.all elemOk = true ∧ xs.length + ys.length ≤ 1099511627776 ∧ (xs.length + ys.length) * bytes ≤ 140737488355328, .app n e k xs.length (xs ++ ys)) else none
  | .app e k bytes, [.raw (.slice none 0 0), .sl _ k'' ys] =>
    if k'' = k then some (ys.all elemOk = true ∧ ys.length ≤ 1099511627776 ∧ ys.length * bytes ≤ 140737488355328, .appnil d e k ys) else none
  | .apps e bytes, [.sl (some n) k' xs, .str l] =>
    if k' = 1 then some (xs.length + l.length ≤ 1099511627776 ∧ (xs.length + l.length) * bytes ≤ 140737488355328, .app n e 1 xs.length (xs ++ l.map encB)) else none
  | .apps e bytes, [.raw (.slice none 0 0), .str l] => some (l.length ≤ 1099511627776 ∧ l.length * bytes ≤ 140737488355328, .appnil d e 1 (l.map encB))
  | .mm mx, [.int k a, .int k' b] => if k = k' then some (True, .ret (.int k (if mx then (if a < b then b else a) else (if b < a then b else a)))) else none
  | _, _ => none

def St.fresh (s : St) (o : Nat) : Bool := decide (s.nx ≤ o) && decide (o < s.nx + s.sz) && !s.ids.contains o
theorem St.fresh_not {s : St} {o : Nat} (h : s.fresh o = true) : ¬ s.knows o ∧ o < s.nx + s.sz ∧ s.nx ≤ o := by
  simp only [St.fresh, Bool.and_eq_true, decide_eq_true_eq, Bool.not_eq_true', List.contains_eq_mem, decide_eq_false_iff_not] at h
  exact ⟨fun h1 => h.2 (h1.2 h.1.1 h.1.2), h.1.2, h.1.1⟩

/-- The state behind an effect. -/
def Eff.st : Eff → Option Nat → St → Option St
  | .ret v, d, s => some (s.put d v)
  | .rd o off n ag, d, s =>
    match lk s.hp o with
    | some (.cells cs) => if off + n ≤ cs.length then some (s.put d (pack ag ((cs.drop off).take n))) else none
    | _ => none
  | .wr o off vs, d, s =>
    match lk s.hp o with
    | some (.cells cs) => if off + vs.length ≤ cs.length ∧ vs.all oneV then some { (s.put d (.tuple [])) with hp := (o, .cells (splice cs off vs)) :: s.hp } else none
    | _ => none
  | .new o cs, d, s => if s.fresh o then some { (s.put d (.ptr o 0)) with hp := (o, .cells cs) :: s.hp, ids := o :: s.ids } else none
  | .lit n e k xs, d, s => if s.fresh n then some { (s.put d (.sl (some n) k xs)) with hp := (n, .tok e k xs.length) :: s.hp, ids := n :: s.ids } else none
  | .appnil n e k xs, d, s => if s.fresh n then some { (s.put d (.sl (some n) k xs)) with hp := (n, .tok e k xs.length) :: s.hp, ids := n :: s.ids } else none
  | .app n e k l xs, d, s =>
    match lk s.hp n with
    | some (.tok e' k' l') => if e' = e ∧ k' = k ∧ l' = l then some { (s.put d (.sl (some n) k xs)) with hp := (n, .tok e k xs.length) :: s.hp } else none
    | _ => none
  | .newsl o cs n, d, s => if s.fresh o then some { (s.put d (.ls o 0 1 n)) with hp := (o, .cells cs) :: s.hp, ids := o :: s.ids } else none
  | .newit o m, d, s => if s.fresh o then match lk s.hp m with
    | some (.map clock _) => some { (s.put d (.ptr o 0)) with hp := (o, .iter m clock [] clock) :: s.hp, ids := o :: s.ids }
    | _ => none
    else none
  | .nxt o, d, s => match lk s.hp o with
    | some (.iter m since seen last) => match lk s.hp m with
      | some (.map clock es) => if !seen.isEmpty && !es.isEmpty && es.all (fun e => decide (e.1 ≥ last)) then none else match mnext since seen es with
        | some none => some (s.put d (.tuple [.bool false]))
        | some (some (n, k, v)) => some { (s.put d (.tuple [.bool true, k, v])) with hp := (o, .iter m since (seen ++ [n]) clock) :: s.hp }
        | none => none
      | _ => none
    | _ => none
  | .ent o, d, s => match lk s.hp o with
    | some (.iter m _ seen last) => match lk s.hp m with
      | some (.map clock es) => if clock = last then match seen.getLast? with
        | some n => match es.find? (fun e => e.1 == n) with
          | some (_, k, v) => some (s.put d (.tuple [k, v]))
          | none => none
        | none => none
        else none
      | _ => none
    | _ => none
  | .newm o, d, s => if s.fresh o then some { (s.put d (.mp o)) with hp := (o, .map 0 []) :: s.hp, ids := o :: s.ids } else none
  | .mrd o kd k ok z, d, s =>
    match lk s.hp o with
    | some (.map _ es) => match mfind kd k es with
      | some r => some (s.put d (mres ok z r))
      | none => none
    | _ => none
  | .mwr o kd k v, d, s =>
    match lk s.hp o with
    | some (.map clock es) => match Abs.mput kd k v clock es with
      | some (es', b) => some { (s.put d (.tuple [])) with hp := (o, .map (if b then clock else clock + 1) es') :: s.hp }
      | none => none
    | _ => none
  | .sealed k xs, d, s => some (s.put d (.sl none k xs))
  | .sealb cs, d, s => some (s.put d (.cp cs 0))
  | .newsit o l, d, s => if s.fresh o then some { (s.put d (.ptr o 0)) with hp := (o, .sit l 0) :: s.hp, ids := o :: s.ids } else none
  | .snxt o, d, s => match lk s.hp o with
    | some (.sit l pos) => if pos < l.length then some { (s.put d (.tuple [.bool true, .int .i64 pos, .int .i32 (Utf8.decode ⟨l.toArray⟩ pos).1])) with hp := (o, .sit l (pos + (Utf8.decode ⟨l.toArray⟩ pos).2)) :: s.hp }
      else some (s.put d (.tuple [.bool false]))
    | _ => none
end Go.Abs

namespace Go.Abs
open Go

inductive VRl (S : Seal) (g : Locs) : List V → List Value → Prop
  | nil : VRl S g [] []
  | cons {x : V} {v : Value} {xs : List V} {vs : List Value} : VR S g x v → VRl S g xs vs → VRl S g (x :: xs) (v :: vs)

theorem VRl.len {S : Seal} {g : Locs} {xs : List V} {vs : List Value} (h : VRl S g xs vs) : xs.length = vs.length := by
  induction h <;> simp_all
theorem VRl.vrs {S : Seal} {g : Locs} {xs : List V} {vs : List Value} (h : VRl S g xs vs) : VRs S g xs vs := by
  induction h with
  | nil => trivial
  | cons h1 _ ih => exact ⟨_, _, rfl, h1, ih⟩

/-- What a run of an operation gives, for an effect. -/
def Ran (C : Cx) (B : Base) (g : Locs) (s : St) (a : Act) (_w : World) (d : Option Nat) (r : Result Next) (e : Eff) : Prop :=
  ∀ s', e.st d s = some s' → ∃ v w' S' g', (r = .ok (.value v) w' ∨ (r = .ok .skip w' ∧ v = undef)) ∧ (∀ i, g i ≠ none → gle g g' i) ∧ SR C B S' g' s' (a.put d v) w'

section
variable {C : Cx} {B : Base} {S : Seal} {g : Locs} {s : St} {a : Act} {w : World} {d : Option Nat} {r : Result Next}

theorem VR.unit (S : Seal) (g : Locs) : VR S g (.tuple []) undef := ⟨#[], rfl, rfl, trivial⟩

theorem SR.free (h : SR C B S g s a w) {o : Nat} (hf : s.fresh o = true) : g o = none ∧ o < s.cn ∧ s.nx ≤ o := by
  refine ⟨?_, Nat.lt_of_lt_of_le (St.fresh_not hf).2.1 h.rm, (St.fresh_not hf).2.2⟩
  cases hg : g o with
  | none => rfl
  | some x => exact absurd (h.dom o (by rw [hg]; simp)) (St.fresh_not hf).1

theorem Ran.ret (h : SR C B S g s a w) (hd : dstOk B.nt d = true) {v : V} {v' : Value} (hr : r = .ok (.value v') w) (hv : VR S g v v') : Ran C B g s a w d r (.ret v) := by
  intro s' hs
  simp only [Eff.st, Option.some.injEq] at hs
  subst hs
  exact ⟨v', w, S, g, .inl hr, fun _ _ => .inl rfl, h.put hd hv⟩

def isAggD : TypeDesc → Bool
  | .struct _ => true
  | .array _ _ => true
  | _ => false

theorem run_isAgg {P : Program} {t : TypeId} {dd : TypeDesc} (h : P.underlying t = some dd) (w : World) : (isAgg t).run P w = .ok (isAggD dd) w := by
  cases dd <;> simp [isAgg, run_underlying h, isAggD]

theorem run_sizeOf' {P : Program} {t : TypeId} {i : TypeInfo} (h : P.info? t = some i) (w : World) : (sizeOf t).run P w = .ok i.size w := by
  simp [sizeOf, typeInfo, h]

theorem addr_add0 (b off n : Nat) : (⟨b, off, none⟩ : Addr).add n = ⟨b, off + n, none⟩ := by unfold Addr.add; split <;> simp_all

/-- Cells that lie one behind the other are loaded. -/
theorem run_loadVar {P : Program} {t : TypeId} {i : TypeInfo} {dd : TypeDesc} (hi : P.info? t = some i) (hd : P.underlying t = some dd) {b off : Nat} {us : List Value}
    (hl : us.length = i.size) (hc : ∀ (j : Nat) (u : Value), us[j]? = some u → w.cell? ⟨b, off + j, none⟩ = some u) (h1 : isAggD dd = false → i.size = 1) :
    (loadVar t ⟨b, off, none⟩).run P w = .ok (if isAggD dd then .agg us.toArray else us.headD undef) w := by
  unfold loadVar
  rw [Sem.run_bind, run_isAgg hd]
  simp only [Result.andThen_ok]
  cases hag : isAggD dd with
  | true =>
    simp only [if_true, Sem.run_bind, run_sizeOf' hi, Result.andThen_ok, Sem.run_pure]
    have := run_loadCells_list (P := P) w ⟨b, off, none⟩ us (fun j u hu => by rw [addr_add0]; exact hc j u hu)
    rw [hl] at this
    rw [this]
    rfl
  | false =>
    simp only [Bool.false_eq_true, if_false, run_load]
    have h2 := h1 hag
    match us, hl with
    | [u], _ =>
      have := hc 0 u rfl
      simp only [Nat.add_zero] at this
      simp [this]
    | [], hl => simp at hl; omega
    | _ :: _ :: _, hl => simp at hl; omega

theorem VRs.agg {cs : List V} {us : List Value} (h : VRs S g cs us) (hl : us.length = cs.length) : VR S g (.agg cs) (.agg us.toArray) :=
  ⟨_, rfl, by simpa using hl, by simpa using h⟩

theorem VRs.pack {cs : List V} {us : List Value} {ag : Bool} (h : VRs S g cs us) (hl : us.length = cs.length) (h1 : ag = false → cs.length = 1) :
    VR S g (pack ag cs) (if ag then .agg us.toArray else us.headD undef) := by
  cases ag with
  | true => exact h.agg hl
  | false =>
    match cs, us, h1 rfl with
    | [c], us, _ =>
      obtain ⟨v, r, rfl, hv, _⟩ := h
      simpa [Abs.pack] using hv

theorem Ran.rd (h : SR C B S g s a w) (hd : dstOk B.nt d = true) {o off n : Nat} {ag : Bool} {ρ : Operand → Value} {t : TypeId} {i : TypeInfo} {dd : TypeDesc} {x : Operand}
    (hi : C.P.info? t = some i) (hu : C.P.underlying t = some dd) (hn : i.size = n) (hag : isAggD dd = ag) (h1 : ag = false → n = 1)
    {v : Value} (hx : ρ x = v) (hv : VR S g (.ptr o off) v) (hr : r = (Instr.loadAt t v >>= fun u => pure (.value u)).run C.P w) : Ran C B g s a w d r (.rd o off n ag) := by
  intro s' hs
  simp only [Eff.st] at hs
  split at hs
  · rename_i cs ho
    split at hs
    · rename_i hle
      cases hs
      obtain ⟨b, hb, rfl⟩ := hv
      obtain ⟨b', c, E, h2, h3, h4, h5, h6⟩ := h.hp.1 o _ ho
      rw [hb] at h2
      cases h2
      have hus : ((c.toList.drop off).take n).length = n := by simp; omega
      have hcell : ∀ (j : Nat) (u : Value), ((c.toList.drop off).take n)[j]? = some u → w.cell? ⟨b, off + j, none⟩ = some u := fun j u hj => by
        simp only [List.getElem?_take, List.getElem?_drop] at hj
        split at hj
        · simp only [World.cell?, h3, Option.isSome_none, Bool.false_eq_true, if_false]; simpa using hj
        · cases hj
      have hl := run_loadVar (P := C.P) (w := w) hi hu (b := b) (off := off) (us := (c.toList.drop off).take n) (by rw [hus, hn]) hcell (fun e => by rw [hn]; exact h1 (by rw [← hag]; exact e))
      refine ⟨_, w, S, g, .inl ?_, fun _ _ => .inl rfl, h.put hd (VRs.pack ((h6.drop off).take n) (by rw [hus]; simp; omega) (fun e => by simp; have := h1 e; omega))⟩
      rw [hr]
      simp only [Instr.loadAt, Instr.sureAddr, Sem.run_bind, Sem.run_pure, Result.andThen_ok, hl, hag]
    · cases hs
  · cases hs

theorem VR.cells_vrs {x : V} {v : Value} (h : VR S g x v) (ht : ∀ vs, x ≠ .tuple vs) : VRs S g x.cells v.cells.toList ∧ v.cells.toList.length = x.cells.length := by
  cases x with
  | agg cs => obtain ⟨ws, rfl, hs, hr⟩ := h; exact ⟨hr, by simpa [Value.cells, V.cells] using hs⟩
  | tuple vs => exact absurd rfl (ht vs)
  | _ =>
    have h1 := VR.oneCell h (by rfl)
    have : v.cells = #[v] := by cases v <;> simp_all [Value.cells, Value.oneCell']
    rw [this]
    exact ⟨⟨v, [], rfl, h, trivial⟩, rfl⟩

theorem Ran.wr (h : SR C B S g s a w) (hd : dstOk B.nt d = true) {o off : Nat} {t : TypeId} {i : TypeInfo} {x : V} {u v : Value}
    (hi : C.P.info? t = some i) (hn : i.size = v.cells.size) (hv : VR S g (.ptr o off) u) (hx : VR S g x v) (ht : ∀ vs, x ≠ .tuple vs)
    (hr : r = (Instr.storeAt t u v >>= fun _ => pure .skip).run C.P w) : Ran C B g s a w d r (.wr o off x.cells) := by
  intro s' hs
  simp only [Eff.st] at hs
  split at hs
  · rename_i cs ho
    split at hs
    · rename_i hle
      cases hs
      obtain ⟨hle, hone⟩ := hle
      obtain ⟨b, hb, rfl⟩ := hv
      obtain ⟨hcv, hcl⟩ := hx.cells_vrs ht
      obtain ⟨b', c, E, h2, h3, h4, h5⟩ := h.wr ho hle hcl hcv
      rw [hb] at h2
      cases h2
      have hst := run_storeCells_at C.P b off E v.cells.toList 0 c w h3 (by simpa using h4) (hx.cells_one ht hone)
      simp only [Nat.add_zero] at hst
      refine ⟨undef, w.setRow b (c.toList.take off ++ v.cells.toList ++ c.toList.drop (off + v.cells.toList.length)).toArray, S, g, .inr ⟨?_, rfl⟩, fun _ _ => .inl rfl, ?_⟩
      · rw [hr]
        simp only [Instr.storeAt, Instr.sureAddr, storeVar, Sem.run_bind, Sem.run_pure, Result.andThen_ok, run_sizeOf' hi, hn, ne_eq, not_true_eq_false, if_false, hst]
      · have := h5.put (d := d) hd (VR.unit S g)
        cases d <;> exact this
    · cases hs
  · cases hs

theorem Ran.new (h : SR C B S g s a w) (hd : dstOk B.nt d = true) {o : Nat} {t : TypeId} {x : V} {v : Value}
    (hx : VR S g x v) (ht : ∀ vs, x ≠ .tuple vs) (hr : r = (newVar t v >>= fun u => pure (.value (.pointer (some u)))).run C.P w) : Ran C B g s a w d r (.new o x.cells) := by
  intro s' hs
  simp only [Eff.st] at hs
  split at hs
  · rename_i hf
    cases hs
    obtain ⟨hf, hoc⟩ := h.free hf
    obtain ⟨hcv, hcl⟩ := hx.cells_vrs ht
    obtain ⟨h1, h2⟩ := h.new' (E := t) hf hoc hcl hcv
    have h3 := h1.put hd h2
    refine ⟨.pointer (some ⟨w.heap.size, 0, none⟩), w.alloc (.cells v.cells.toList.toArray t), S, upd g o (.obj w.heap.size), .inl ?_, gle_upd hf, ?_⟩
    · rw [hr]
      simp only [newVar, newRow, Sem.run_bind, run_newObj, Result.andThen_ok, Sem.run_pure]
      rfl
    · cases d <;> exact h3
  · cases hs
end
end Go.Abs

namespace Go.Abs
open Go

def cS : Value → Option V
  | .int k n => some (.int k n)
  | .bool b => some (.bool b)
  | .string s => some (.str s.data.toList)
  | .pointer none => some (.raw (.pointer none))
  | .nilIface => some (.raw .nilIface)
  | .nilFunc => some (.raw .nilFunc)
  | .slice none 0 0 => some (.raw (.slice none 0 0))
  | .map none => some (.raw (.map none))
  | _ => none
def cSs : List Value → Option (List V)
  | [] => some []
  | v :: vs => match cS v, cSs vs with
    | some x, some xs => some (x :: xs)
    | _, _ => none
def cV : Value → Option V
  | .agg cs => (cSs cs.toList).map .agg
  | v => cS v

theorem cS_ok {v : Value} {x : V} (h : cS v = some x) (S : Seal) (g : Locs) : VR S g x v := by
  unfold cS at h
  split at h <;> first | (cases h; done) | (cases h; first | rfl | exact ⟨rfl, trivial⟩)
theorem cSs_ok : ∀ {vs : List Value} {xs : List V}, cSs vs = some xs → ∀ (S : Seal) (g : Locs), VRs S g xs vs ∧ vs.length = xs.length
  | [], xs, h, S, g => by simp [cSs] at h; subst h; exact ⟨trivial, rfl⟩
  | v :: vs, xs, h, S, g => by
    simp only [cSs] at h
    split at h
    · rename_i x ys h1 h2
      cases h
      have := cSs_ok h2 S g
      exact ⟨⟨v, vs, rfl, cS_ok h1 S g, this.1⟩, by simp [this.2]⟩
    · cases h
theorem cV_ok {v : Value} {x : V} (h : cV v = some x) (S : Seal) (g : Locs) : VR S g x v := by
  unfold cV at h
  split at h
  · rename_i cs
    simp only [Option.map_eq_some_iff] at h
    obtain ⟨xs, hxs, rfl⟩ := h
    have := cSs_ok hxs S g
    exact ⟨cs, rfl, by simpa using this.2, this.1⟩
  · exact cS_ok h S g

def compX : Operand → Option AX
  | .tmp t => some (.t t)
  | .const v => (cV v).map .c
  | .global n => some (.g n)
  | .func f => some (.c (.fn (.func f) [] []))
def aev (C : Cx) (s : St) : AX → Option V
  | .t n => lk s.fr n
  | .c v => some v
  | .g n => (C.glob n).map fun cs => .cp cs 0

section
variable {C : Cx} {B : Base} {S : Seal} {g : Locs} {s : St} {a : Act} {w : World} {d : Option Nat} {r : Result Next}

theorem compX_ok (h : SR C B S g s a w) {o : Operand} {x : AX} {v : V} (hx : compX o = some x) (hv : aev C s x = some v) : VR S g v (a.eval o) := by
  cases o with
  | tmp t =>
    simp only [compX, Option.some.injEq] at hx
    subst hx
    exact h.fr t v hv
  | const u =>
    simp only [compX, Option.map_eq_some_iff] at hx
    obtain ⟨y, hy, rfl⟩ := hx
    simp only [aev, Option.some.injEq] at hv
    subst hv
    exact cV_ok hy S g
  | global n =>
    simp only [compX, Option.some.injEq] at hx
    subst hx
    simp only [aev, Option.map_eq_some_iff] at hv
    obtain ⟨cs, hc, rfl⟩ := hv
    obtain ⟨p, hp, hr⟩ := h.good.2 n cs hc
    exact ⟨n, 0, p, hp, rfl, by simpa using hr⟩
  | func f =>
    simp only [compX, Option.some.injEq] at hx
    subst hx
    simp only [aev, Option.some.injEq] at hv
    subst hv
    exact ⟨#[], #[], rfl, rfl, rfl, trivial, trivial⟩

theorem getLast_lt (l : List UInt8) (_i : Nat) : (⟨l.toArray⟩ : ByteArray).size = l.length := rfl

theorem ba_get (l : List UInt8) (i : Nat) : (⟨l.toArray⟩ : ByteArray)[i]? = l[i]? := by
  by_cases h : i < l.length
  · rw [getElem?_pos (⟨l.toArray⟩ : ByteArray) i h, List.getElem?_eq_getElem h]; rfl
  · rw [getElem?_neg (⟨l.toArray⟩ : ByteArray) i h, List.getElem?_eq_none (Nat.le_of_not_lt h)]

theorem ba_ext (l : List UInt8) (i j : Nat) : (⟨l.toArray⟩ : ByteArray).extract i j = ⟨((l.take j).drop i).toArray⟩ := by
  apply ByteArray.ext
  rw [ByteArray.data_extract]
  apply Array.ext'
  simp [List.extract_eq_take_drop, List.drop_take]

theorem ok_bin {op : BinOp} {t _t2 : TypeId} {x y : V} {u v : Value} {xo yo : Operand} {p : Prop} {z : V} (hx : VR S g x u) (hy : VR S g y v) (hb : vbin op x y = some (p, z)) (hp : p) :
    ∃ z', (do eqGuard op t xo yo u v; binOp op t u v : Sem Value).run C.P w = .ok z' w ∧ VR S g z z' := by
  unfold vbin at hb
  split at hb
  · rename_i k m k' n
    subst hx hy
    have heq : ∀ (k k' : IntKind) (m n : Int), (eqGuard op t xo yo (.int k m) (.int k' n)).run C.P w = .ok () w := fun k k' m n => by
      unfold eqGuard; cases op <;> rfl
    split at hb
    · rename_i hs
      cases op <;> simp [isShift] at hs <;> simp only [shop, Option.some.injEq, Prod.mk.injEq] at hb <;> obtain ⟨rfl, rfl⟩ := hb <;>
        simp [heq, binOp, Op.shift, Int.not_lt.2 hp, VR]
    · split at hb
      · rename_i hs hk
        subst hk
        cases op <;> simp [isShift] at hs <;> simp only [iop, Option.some.injEq, Prod.mk.injEq, reduceCtorEq] at hb <;> first
          | (obtain ⟨rfl, rfl⟩ := hb
             simp [Sem.run_bind, heq, binOp, Op.intArith, Op.intDiv, Op.intBits, Op.intCmp, VR]; done)
          | (obtain ⟨rfl, rfl⟩ := hb
             simp [heq, binOp, Op.intDiv, hp, VR]; done)
          | skip
      · cases hb
  · rename_i m n
    subst hx hy
    have heq : (eqGuard op t xo yo (.string ⟨m.toArray⟩) (.string ⟨n.toArray⟩)).run C.P w = .ok () w := by
      unfold eqGuard; cases op <;> rfl
    cases op <;> simp only [sop, Option.some.injEq, Prod.mk.injEq, reduceCtorEq] at hb <;> first
      | (obtain ⟨rfl, rfl⟩ := hb
         simp [Sem.run_bind, heq, binOp, Op.stringOp, VR]; done)
      | skip
    obtain ⟨rfl, rfl⟩ := hb
    have hsz : ¬ (((⟨m.toArray⟩ : ByteArray).size + (⟨n.toArray⟩ : ByteArray).size : Nat) : Int) > IntKind.i64.max := by
      have e1 : (⟨m.toArray⟩ : ByteArray).size = m.length := rfl
      have e2 : (⟨n.toArray⟩ : ByteArray).size = n.length := rfl
      have e3 : IntKind.i64.max = 9223372036854775807 := by decide
      rw [e1, e2, e3]; omega
    refine ⟨.string (⟨m.toArray⟩ ++ ⟨n.toArray⟩), ?_, ?_⟩
    · simp only [Sem.run_bind, heq, Result.andThen_ok, binOp, Op.stringOp, hsz, if_false, Sem.run_pure]
    · show Value.string _ = Value.string _
      have e : (⟨m.toArray⟩ ++ ⟨n.toArray⟩ : ByteArray) = ⟨(m ++ n).toArray⟩ := by
        apply ByteArray.ext
        rw [ByteArray.data_append]
        exact (List.append_toArray m n)
      rw [e]
  · cases hb
end
end Go.Abs

namespace Go.Abs
open Go
section
variable {C : Cx} {B : Base} {S : Seal} {g : Locs} {s : St} {a : Act} {w : World} {d : Option Nat} {r : Result Next}

/-- Sealed cells are loaded. -/
theorem ok_loadcp (hG : Good C S w) {t : TypeId} {i : TypeInfo} {dd : TypeDesc} {cs : List V} {off n : Nat} {u : Value} {ag : Bool}
    (hi : C.P.info? t = some i) (hu : C.P.underlying t = some dd) (hn : i.size = n) (hag : isAggD dd = ag) (h1 : ag = false → n = 1)
    (hx : VR S g (.cp cs off) u) (hle : off + n ≤ cs.length) :
    ∃ v, (Instr.loadAt t u).run C.P w = .ok v w ∧ VR S g (pack ag ((cs.drop off).take n)) v := by
  obtain ⟨b, j, p, hp, rfl, hr⟩ := hx
  obtain ⟨c, E, fr, hh, hpre⟩ := hG.1 b p hp
  have hlen := (hr g).len
  have hus : (((p.drop j).drop off).take n).length = n := by
    simp only [List.length_take, List.length_drop] at hlen ⊢; omega
  have hcell : ∀ (m : Nat) (u : Value), (((p.drop j).drop off).take n)[m]? = some u → w.cell? ⟨b, j + off + m, none⟩ = some u := fun m u hm => by
    rw [List.getElem?_take] at hm
    split at hm
    · rw [List.getElem?_drop, List.getElem?_drop] at hm
      simp only [World.cell?, hh, Option.isSome_none, Bool.false_eq_true, if_false]
      obtain ⟨q, hq⟩ := hpre
      have hlt : j + (off + m) < p.length := (List.getElem?_eq_some_iff.1 hm).1
      have : c.toList[j + (off + m)]? = some u := by rw [← hq, List.getElem?_append_left hlt]; exact hm
      rw [← Nat.add_assoc] at this
      simpa using this
    · cases hm
  have hl := run_loadVar (P := C.P) (w := w) hi hu (b := b) (off := j + off) (us := ((p.drop j).drop off).take n) (by rw [hus, hn]) hcell (fun e => by rw [hn]; exact h1 (by rw [← hag]; exact e))
  refine ⟨if ag then .agg (((p.drop j).drop off).take n).toArray else (((p.drop j).drop off).take n).headD undef, ?_, ?_⟩
  · simp only [Instr.loadAt, Instr.sureAddr, Sem.run_bind, Sem.run_pure, Result.andThen_ok, hl, hag]
  · have h2 : VRs S g ((cs.drop off).take n) (((p.drop j).drop off).take n) := ((hr g).drop off).take n
    exact VRs.pack (ag := ag) h2 (by rw [hus]; simp; omega) (fun e => by simp; have := h1 e; omega)

theorem ok_faddr {st : TypeId} {fs : Array Field} {f : Nat} {fd : Field} {i : TypeInfo} {x z : V} {u : Value} (hs : C.P.underlying st = some (.struct fs)) (hf : fs[f]? = some fd)
    (hi : C.P.info? fd.type = some i) (hn : i.size ≠ 0) (hx : VR S g x u) (hz : (∃ o off, x = .ptr o off ∧ z = .ptr o (off + fd.offset)) ∨ ∃ cs off, x = .cp cs off ∧ z = .cp cs (off + fd.offset)) :
    ∃ v, (Instr.fieldAt st u f).run C.P w = .ok v w ∧ VR S g z v := by
  rcases hz with ⟨o, off, rfl, rfl⟩ | ⟨cs, off, rfl, rfl⟩
  · obtain ⟨b, hb, rfl⟩ := hx
    refine ⟨.pointer (some ⟨b, off + fd.offset, none⟩), ?_, ⟨b, hb, rfl⟩⟩
    simp [Instr.fieldAt, run_underlying hs, hf, Instr.sureAddr, fieldPlace, run_sizeOf' hi, hn, addr_add0]
  · obtain ⟨b, j, p, hp, rfl, hr⟩ := hx
    refine ⟨.pointer (some ⟨b, j + (off + fd.offset), none⟩), ?_, ⟨b, j, p, hp, rfl, hr⟩⟩
    simp [Instr.fieldAt, run_underlying hs, hf, Instr.sureAddr, fieldPlace, run_sizeOf' hi, hn, addr_add0, Nat.add_assoc]

theorem run_part {P : Program} {t : TypeId} {i : TypeInfo} {dd : TypeDesc} (hi : P.info? t = some i) (hu : P.underlying t = some dd) (ws : Array Value) (off : Nat) (h1 : isAggD dd = false → i.size = 1) (hle : off + i.size ≤ ws.size) (w : World) :
    (part t ws off).run P w = .ok (if isAggD dd then .agg ((ws.toList.drop off).take i.size).toArray else ((ws.toList.drop off).take i.size).headD undef) w := by
  unfold part
  rw [Sem.run_bind, run_isAgg hu]
  simp only [Result.andThen_ok]
  cases hag : isAggD dd with
  | true =>
    simp only [if_true, Sem.run_bind, run_sizeOf' hi, Result.andThen_ok, Sem.run_pure]
    congr 2
    apply Array.ext'
    simp [List.extract_eq_take_drop]
  | false =>
    have := h1 hag
    have hlt : off < ws.size := by omega
    simp only [Bool.false_eq_true, if_false, this]
    rw [Array.getElem?_eq_getElem hlt]
    simp only [Sem.run_pure]
    congr 1
    have e : ws.toList.drop off = ws[off] :: ws.toList.drop (off + 1) := by
      rw [List.drop_eq_getElem_cons (by simpa using hlt)]; simp
    rw [e]; rfl

theorem ok_fld {st : TypeId} {fs : Array Field} {f n : Nat} {fd : Field} {i : TypeInfo} {dd : TypeDesc} {cs : List V} {u : Value} {ag : Bool} (hs : C.P.underlying st = some (.struct fs)) (hf : fs[f]? = some fd)
    (hi : C.P.info? fd.type = some i) (hu : C.P.underlying fd.type = some dd) (hn : i.size = n) (hag : isAggD dd = ag) (h1 : ag = false → n = 1) (hx : VR S g (.agg cs) u) (hle : fd.offset + n ≤ cs.length) :
    ∃ v, (Instr.field st u f).run C.P w = .ok v w ∧ VR S g (pack ag ((cs.drop fd.offset).take n)) v := by
  obtain ⟨ws, rfl, hsz, hr⟩ := hx
  refine ⟨_, ?_, VRs.pack (ag := ag) ((hr.drop fd.offset).take n) (by simp [hsz]) (fun e => by simp; have := h1 e; omega)⟩
  simp only [Instr.field, Sem.run_bind, run_underlying hs, Result.andThen_ok, hf, asAgg, Sem.run_pure]
  rw [run_part hi hu ws fd.offset (fun e => by rw [hn]; exact h1 (by rw [← hag]; exact e)) (by rw [hsz, hn]; exact hle)]
  rw [hn, hag]

theorem run_ok_pure {α : Type} {P : Program} (v : α) (w : World) : (pure v : Sem α).run P w = .ok v w := rfl

theorem ok_idxa {t e : TypeId} {i : TypeInfo} {k k' : Nat} {tk : Option Nat} {xs : List V} {ik : IntKind} {n : Int} {u : Value} (ht : C.P.underlying t = some (.slice e)) (hi : C.P.info? e = some i) (hk : i.size = k)
    (hkk : k' = k) (hx : VR S g (.sl tk k' xs) u) (h0 : 0 ≤ n) (h1 : n < xs.length) :
    ∃ v, (Instr.indexAt t u (.int ik n)).run C.P w = .ok v w ∧ VR S g (.cp (xs.getD n.toNat (.raw .nilFunc)).cells 0) v := by
  subst hkk
  obtain ⟨ad, len, cap, rfl, hl, hc, hx', _⟩ := hx
  have hlt : n.toNat < xs.length := by omega
  rcases hx' with rfl | ⟨b, j, p, rfl, hp, hr⟩
  · simp at hlt
  · obtain ⟨v, hv, hvs, hpre⟩ := hr.get n.toNat xs[n.toNat] (List.getElem?_eq_getElem hlt)
    have hg : xs.getD n.toNat (.raw .nilFunc) = xs[n.toNat] := by simp [List.getD, List.getElem?_eq_getElem hlt]
    have ht' : ∀ vs, xs[n.toNat] ≠ .tuple vs ∨ ∃ vs, xs[n.toNat] = .tuple vs := fun vs => Classical.em _ |>.elim (fun h => .inr h) fun h => .inl fun e => h ⟨vs, e⟩
    refine ⟨.pointer (some ⟨b, j + n.toNat * k', none⟩), ?_, ?_⟩
    · simp [Instr.indexAt, asIntOf, run_underlying ht, run_sizeOf' hi, hk, h0, addr_add0, hl, h1]
    · rw [hg]
      refine ⟨b, j + n.toNat * k', p, hp, rfl, fun g' => ?_⟩
      rw [← List.drop_drop]
      by_cases htu : ∃ vs, xs[n.toNat] = .tuple vs
      · obtain ⟨vs, e⟩ := htu
        rw [e] at hv ⊢
        obtain ⟨ws, rfl, hsz, _⟩ := hv g'
        have hc1 : (Value.tuple ws).cells.toList = [.tuple ws] := rfl
        rw [hc1] at hpre
        obtain ⟨q, hq⟩ := hpre
        rw [← hq]
        exact ⟨_, q, rfl, hv g', trivial⟩
      · exact VRs.mono (SLe.refl S) _ hpre (fun _ _ => .inl rfl) ((hv g').cells_vrs fun vs e => htu ⟨vs, e⟩).1

theorem ok_len {t : TypeId} {e : TypeId} {tk : Option Nat} {k : Nat} {xs : List V} {u : Value} {ty : TypeId} (ht : C.P.underlying t = some (.slice e)) (hx : VR S g (.sl tk k xs) u) :
    (Builtin.len_ #[t] ty #[u]).run C.P w = .ok (.int .i64 xs.length) w := by
  obtain ⟨ad, len, cap, rfl, rfl, _⟩ := hx
  simp [Builtin.len_, run_underlying ht, goInt]

theorem ok_ssl {t e : TypeId} {i : TypeInfo} {k : Nat} {tk : Option Nat} {xs : List V} {u : Value} {lo hi : Option Value} {l h : Nat} (ht : C.P.underlying t = some (.slice e)) (hi' : C.P.info? e = some i) (hk : i.size = k)
    (hx : VR S g (.sl tk k xs) u) (hl : (lo = none ∧ l = 0) ∨ ∃ kk, lo = some (.int kk l)) (hh : (hi = none ∧ h = xs.length) ∨ ∃ kk, hi = some (.int kk h)) (h0 : l ≤ h) (h1 : h ≤ xs.length) :
    ∃ v, (Instr.sliceAt t u lo hi none).run C.P w = .ok v w ∧ VR S g (.sl none k ((xs.take h).drop l)) v := by
  obtain ⟨ad, len, cap, rfl, hln, hc, hx', _⟩ := hx
  have hhc : h ≤ cap := by omega
  have hb : (Instr.sliceBounds true len cap lo hi none).run C.P w = .ok (l, h, cap) w := by
    unfold Instr.sliceBounds
    rcases hh with ⟨rfl, rfl⟩ | ⟨kk, rfl⟩ <;> rcases hl with ⟨rfl, rfl⟩ | ⟨kk', rfl⟩ <;>
      simp [Instr.sliceBound, asIntOf, hln, h0, hhc] <;> omega
  refine ⟨.slice (if cap = l then ad else ad.map (·.add (l * k))) (h - l) (cap - l), ?_, ?_⟩
  · unfold Instr.sliceAt
    simp only [Sem.run_bind, run_underlying ht, Result.andThen_ok, Instr.slice, hb, run_sizeOf' hi', hk, Sem.run_pure]
  · refine ⟨_, _, _, rfl, by simp; omega, by omega, ?_, fun n hn => by cases hn⟩
    by_cases hne : (xs.take h).drop l = []
    · exact .inl hne
    · right
      have hlh : l < h := by
        rcases Nat.lt_or_ge l h with hlt | hge
        · exact hlt
        · exact absurd (List.drop_eq_nil_of_le (by simp; omega)) hne
      have hcl : ¬ cap = l := by omega
      rcases hx' with rfl | ⟨b, j, p, rfl, hp, hr⟩
      · simp at h1; omega
      · refine ⟨b, j + l * k, p, by simp [hcl, addr_add0], hp, ?_⟩
        rw [← List.drop_drop]
        exact VRe.slice hr l h
end
end Go.Abs

namespace Go.Abs
open Go

theorem foldl_set (off : Nat) : ∀ (l : List Value) (n : Nat) (cells : Array Value), off + n + l.length ≤ cells.size →
    ((l.zipIdx n).foldl (fun cs p => cs.setIfInBounds (off + p.2) p.1) cells).toList = cells.toList.take (off + n) ++ l ++ cells.toList.drop (off + n + l.length)
  | [], n, cells, _ => by simp
  | v :: rest, n, cells, h => by
    simp only [List.zipIdx_cons, List.foldl_cons]
    simp only [List.length_cons] at h
    rw [foldl_set off rest (n + 1) _ (by simp; omega), Array.toList_setIfInBounds]
    have e := list_seg_step cells.toList (off + n) v rest (by simp; omega)
    rw [List.length_cons]
    rw [← Nat.add_assoc]
    exact e

theorem fill_cons (place : Nat → Option (Nat × Nat)) (cells : Array Value) (i : Nat) (v : Value) (rest : List (Nat × Value)) (off size : Nat) (hp : place i = some (off, size)) (hs : v.cells.size = size) (hl : off + size ≤ cells.size) :
    ∃ cells', Instr.fill place cells ((i, v) :: rest) = Instr.fill place cells' rest ∧ cells'.toList = cells.toList.take off ++ v.cells.toList ++ cells.toList.drop (off + size) := by
  refine ⟨v.cells.zipIdx.foldl (fun cs (c, j) => cs.setIfInBounds (off + j) c) cells, ?_, ?_⟩
  · have h1 : ¬ (v.cells.size ≠ size) := by simp [hs]
    have h2 : ¬ (off + v.cells.size > cells.size) := by rw [hs]; omega
    simp only [Instr.fill, hp]
    simp [hs, Nat.not_lt.2 hl]
  · have := foldl_set off v.cells.toList 0 cells (by simp [hs]; omega)
    rw [← Array.foldl_toList]
    simp only [Array.toList_zipIdx]
    simpa [hs] using this

section
variable {C : Cx} {B : Base} {S : Seal} {g : Locs} {s : St} {a : Act} {w : World} {d : Option Nat} {r : Result Next}

theorem fill_put {place : Nat → Option (Nat × Nat)} : ∀ {ps : List (Nat × Nat)} {xs : List V} {zs zs' : List V} {idx : List Nat} {vs : List Value} {cells : Array Value}, putParts zs ps xs = some zs' →
    idx.map place = ps.map some → VRl S g xs vs → (∀ x ∈ xs, ∀ us, x ≠ .tuple us) → VRs S g zs cells.toList → cells.size = zs.length →
    ∃ cells', Instr.fill place cells (idx.zip vs) = some cells' ∧ VRs S g zs' cells'.toList ∧ cells'.size = zs'.length
  | [], [], zs, zs', idx, vs, cells, h, hi, hx, _, hz, hl => by
    simp only [putParts, Option.some.injEq] at h
    subst h
    cases hx
    exact ⟨cells, by simp [Instr.fill], hz, hl⟩
  | [], x :: xs, zs, zs', idx, vs, cells, h, _, _, _, _, _ => by simp [putParts] at h
  | (off, size) :: ps, [], zs, zs', idx, vs, cells, h, _, _, _, _, _ => by simp [putParts] at h
  | (off, size) :: ps, x :: xs, zs, zs', idx, vs, cells, h, hi, hx, ht, hz, hl => by
    simp only [putParts] at h
    split at h
    · rename_i hc
      cases hx with
      | cons hx1 hx2 =>
        rename_i v vs
        cases idx with
        | nil => simp at hi
        | cons i idx =>
          simp only [List.map_cons, List.cons.injEq] at hi
          have htx := ht x (by simp)
          obtain ⟨hcv, hcl⟩ := hx1.cells_vrs htx
          have hvs : v.cells.size = size := by rw [← Array.length_toList, hcl]; exact hc.1
          obtain ⟨c', h1, h2⟩ := fill_cons place cells i v (idx.zip vs) off size hi.1 hvs (by rw [hl]; exact hc.2)
          have hz' : VRs S g (splice zs off x.cells) c'.toList := by
            rw [h2]
            simp only [splice, hc.1]
            have hl2 := Array.length_toList (xs := v.cells)
            exact ((hz.take off).append hcv (by simp [hl])).append (hz.drop _) (by simp [hl, hcl])
          have hl' : c'.size = (splice zs off x.cells).length := by
            rw [← Array.length_toList, h2]
            simp only [splice, List.length_append, List.length_take, List.length_drop, Array.length_toList, hl, hvs, hc.1]
          obtain ⟨c'', h3, h4, h5⟩ := fill_put h hi.2 hx2 (fun y hy => ht y (by simp [hy])) hz' hl'
          exact ⟨c'', by rw [List.zip_cons_cons, h1]; exact h3, h4, h5⟩
    · cases h

theorem fill_dense {k : Nat} : ∀ {xs : List V} {vs : List Value} (j : Nat) {cells : Array Value}, VRl S g xs vs → (∀ x ∈ xs, x.idf = true) → (∀ v ∈ vs, v.cells.size = k) → (j + xs.length) * k = cells.size →
    ∃ cells', Instr.fill (fun i => some (i * k, k)) cells ((List.range' j xs.length).zip vs) = some cells' ∧ cells'.size = cells.size ∧ cells'.toList.take (j * k) = cells.toList.take (j * k) ∧ VRe S k xs (cells'.toList.drop (j * k))
  | [], vs, j, cells, hx, _, _, _ => by cases hx; exact ⟨cells, by simp [Instr.fill], rfl, rfl, trivial⟩
  | x :: xs, vs, j, cells, hx, hf, hk, hl => by
    cases hx with
    | cons hx1 hx2 =>
      rename_i v vs
      have hvk := hk v (by simp)
      have hle : j * k + k ≤ cells.size := by
        rw [← hl, List.length_cons]
        have : (j + (xs.length + 1)) * k = j * k + k + xs.length * k := by simp only [Nat.add_mul, Nat.one_mul]; omega
        omega
      obtain ⟨c', h1, h2⟩ := fill_cons (fun i => some (i * k, k)) cells j v ((List.range' (j + 1) xs.length).zip vs) (j * k) k rfl hvk hle
      have hsz : c'.size = cells.size := by
        rw [← Array.length_toList, h2]; simp only [List.length_append, List.length_take, List.length_drop, Array.length_toList, hvk]; omega
      obtain ⟨c'', h3, h4, h5, h6⟩ := fill_dense (k := k) (xs := xs) (vs := vs) (j + 1) (cells := c') hx2 (fun y hy => hf y (by simp [hy])) (fun u hu => hk u (by simp [hu])) (by rw [hsz, ← hl, List.length_cons]; congr 1; omega)
      have hjk : (j + 1) * k = j * k + k := by rw [Nat.add_mul, Nat.one_mul]
      have hpre : c''.toList.take (j * k + k) = cells.toList.take (j * k) ++ v.cells.toList := by
        rw [hjk] at h5
        rw [h5, h2]
        have : (cells.toList.take (j * k) ++ v.cells.toList).length = j * k + k := by simp [hvk]; omega
        rw [← this, List.take_left]
      refine ⟨c'', ?_, by rw [h4, hsz], ?_, ?_⟩
      · rw [List.length_cons, List.range'_succ, List.zip_cons_cons, h1]; exact h3
      · have := congrArg (List.take (j * k)) hpre
        rw [List.take_take, Nat.min_eq_left (by omega)] at this
        rw [this, List.take_append_of_le_length (by simp; omega), List.take_take, Nat.min_self]
      · rw [hjk] at h6
        refine ⟨v, c''.toList.drop (j * k + k), ?_, hvk, fun g' => VR.idf x (hf x (by simp)) hx1, h6⟩
        · have e := List.take_append_drop (j * k + k) c''.toList
          rw [hpre, List.append_assoc] at e
          have hl0 : (cells.toList.take (j * k)).length = j * k := by simp; omega
          have e2 := congrArg (List.drop (j * k)) e
          rw [List.drop_append_of_le_length (by omega), List.drop_eq_nil_of_le (by omega), List.nil_append] at e2
          exact e2.symm

/-- Scalar types: 0: integers, 1: texts, 2: bools. -/
def flatK (P : Program) (t : TypeId) : Option Nat :=
  match P.underlying t with
  | some (.int _) => some 0
  | some .string => some 1
  | some .bool => some 2
  | _ => none
def flatFs (P : Program) : Nat → List Field → Option (List Nat)
  | _, [] => some []
  | n, f :: fs => if f.offset = n ∧ f.name ≠ "_" then (match flatK P f.type, flatFs P (n + 1) fs with
    | some k, some ks => some (k :: ks)
    | _, _ => none) else none

theorem run_part_scalar {P : Program} {t : TypeId} {dd : TypeDesc} (hu : P.underlying t = some dd) (ha : isAggD dd = false) (ws : Array Value) (off : Nat) (h : off < ws.size) (w : World) :
    (part t ws off).run P w = .ok ws[off] w := by
  simp [part, run_isAgg hu, ha, h]

theorem veq_ok {P : Program} {t k n d : Nat} {x y : V} {b : Bool} {us vs : Array Value} (hk : flatK P t = some k) (hb : veq k x y = some b) (hu : n < us.size) (hv : n < vs.size) (hx : VR S g x us[n]) (hy : VR S g y vs[n]) (w : World) :
    (part t us n).run P w = .ok us[n] w ∧ (part t vs n).run P w = .ok vs[n] w ∧ (Op.equalIn (d + 1) t us[n] vs[n]).run P w = .ok b w := by
  unfold flatK at hk
  split at hk
  · rename_i kk hh
    cases hk
    refine ⟨run_part_scalar hh rfl us n hu w, run_part_scalar hh rfl vs n hv w, ?_⟩
    unfold veq at hb
    split at hb
    · split at hb
      · cases hb
        rename_i e; subst e
        rw [show us[n] = _ from hx, show vs[n] = _ from hy]
        exact run_equalIn_int w d t _ kk _ _ hh
      · cases hb
    · omega
    · omega
    · cases hb
  · rename_i hh
    cases hk
    refine ⟨run_part_scalar hh rfl us n hu w, run_part_scalar hh rfl vs n hv w, ?_⟩
    unfold veq at hb
    split at hb
    · omega
    · cases hb
      rw [show us[n] = _ from hx, show vs[n] = _ from hy, run_equalIn_string w d t _ _ hh]
      simp
    · omega
    · cases hb
  · rename_i hh
    cases hk
    refine ⟨run_part_scalar hh rfl us n hu w, run_part_scalar hh rfl vs n hv w, ?_⟩
    unfold veq at hb
    split at hb
    · omega
    · omega
    · cases hb
      rw [show us[n] = _ from hx, show vs[n] = _ from hy]
      exact run_equalIn_bool' w d t _ _ hh
    · cases hb
  · cases hk

theorem veqs_ok {P : Program} : ∀ (fs : List Field) (ks : List Nat) (n : Nat) (xs ys : List V) (b : Bool) (us vs : Array Value), flatFs P n fs = some ks → veqs ks xs ys = some b →
    us.size = n + xs.length → vs.size = n + ys.length → VRs S g xs (us.toList.drop n) → VRs S g ys (vs.toList.drop n) → ∀ w, (Op.eqFields 9999 us vs fs).run P w = .ok b w
  | [], ks, n, xs, ys, b, us, vs, hf, hb, _, _, _, _, w => by
    simp only [flatFs, Option.some.injEq] at hf
    subst hf
    cases xs <;> cases ys <;> simp only [veqs, reduceCtorEq, Option.some.injEq] at hb
    subst hb; rfl
  | f :: fs, ks, n, xs, ys, b, us, vs, hf, hb, hu, hv, hx, hy, w => by
    simp only [flatFs] at hf
    split at hf
    · rename_i hfn
      split at hf
      · rename_i k ks' hk hks
        cases hf
        match xs, ys, hb with
        | x :: xs, y :: ys, hb =>
          simp only [veqs] at hb
          split at hb
          · rename_i b1 b2 hb1 hb2
            cases hb
            simp only [List.length_cons] at hu hv
            have hnu : n < us.size := by omega
            have hnv : n < vs.size := by omega
            rw [List.drop_eq_getElem_cons (by simpa using hnu)] at hx
            rw [List.drop_eq_getElem_cons (by simpa using hnv)] at hy
            obtain ⟨u, r1, e1, hxu, hx2⟩ := hx
            obtain ⟨v, r2, e2, hyv, hy2⟩ := hy
            simp only [Array.getElem_toList, List.cons.injEq] at e1 e2
            obtain ⟨rfl, rfl⟩ := e1
            obtain ⟨rfl, rfl⟩ := e2
            have ih := veqs_ok fs ks' (n + 1) xs ys b2 us vs hks hb2 (by omega) (by omega) hx2 hy2 w
            obtain ⟨h1, h2, h3⟩ := veq_ok (d := 9998) hk hb1 hnu hnv hxu hyv w
            simp only [Op.eqFields, hfn.1, hfn.2, ne_eq, not_false_eq_true, if_true, Sem.run_bind, h1, h2, h3, Result.andThen_ok, Sem.run_ite]
            cases b1
            · simp
            · simpa using ih
          · cases hb
        | [], ys, hb => simp [veqs] at hb
        | x :: xs, [], hb => simp [veqs] at hb
      · cases hf
    · cases hf

theorem ok_sstr {t : TypeId} {l : List UInt8} {u : Value} {lo hi : Option Value} {x y : Nat} (ht : C.P.underlying t = some .string)
    (hx : VR S g (.str l) u) (hl : (lo = none ∧ x = 0) ∨ ∃ kk, lo = some (.int kk x)) (hh : (hi = none ∧ y = l.length) ∨ ∃ kk, hi = some (.int kk y)) (h0 : x ≤ y) (h1 : y ≤ l.length) :
    ∃ v, (Instr.sliceAt t u lo hi none).run C.P w = .ok v w ∧ VR S g (.str ((l.take y).drop x)) v := by
  rw [show u = .string ⟨l.toArray⟩ from hx]
  have hsz : (⟨l.toArray⟩ : ByteArray).size = l.length := rfl
  have hb : (Instr.sliceBounds false (⟨l.toArray⟩ : ByteArray).size (⟨l.toArray⟩ : ByteArray).size lo hi none).run C.P w = .ok (x, y, l.length) w := by
    rw [hsz]
    unfold Instr.sliceBounds
    rcases hh with ⟨rfl, rfl⟩ | ⟨kk, rfl⟩ <;> rcases hl with ⟨rfl, rfl⟩ | ⟨kk', rfl⟩ <;>
      simp [Instr.sliceBound, asIntOf, h0, h1] <;> omega
  refine ⟨.string ⟨((l.take y).drop x).toArray⟩, ?_, rfl⟩
  unfold Instr.sliceAt
  simp only [Sem.run_bind, run_underlying ht, Result.andThen_ok, Instr.slice, Option.isSome_none, Bool.false_eq_true, if_false, Sem.run_pure, hb]
  rw [ba_ext]

theorem Ran.lit (h : SR C B S g s a w) (hd : dstOk B.nt d = true) {n e k : Nat} {xs : List V} {us : List Value} (hv : VRe S k xs us) (hu : us.length = xs.length * k) (hm : xs.length ≤ maxLen)
    (hr : r = .ok (.value (.slice (some ⟨w.heap.size, 0, none⟩) xs.length xs.length)) (w.alloc (.cells us.toArray e))) : Ran C B g s a w d r (.lit n e k xs) := by
  intro s' hs
  simp only [Eff.st] at hs
  split at hs
  · rename_i hf
    cases hs
    obtain ⟨hf, hoc⟩ := h.free hf
    obtain ⟨h1, h2⟩ := h.lit (e := e) hf hoc hv hu hm
    have h3 := h1.put hd h2
    refine ⟨_, _, Abs.upd S w.heap.size us, Abs.upd g n (.arr (some ⟨w.heap.size, 0, none⟩) xs.length xs.length), .inl hr, gle_upd hf, ?_⟩
    cases d <;> exact h3
  · cases hs

/-- A new block, sealed at once, that no id names. -/
theorem SR.sealUp (h : SR C B S g s a w) {us : List Value} {c : Array Value} {E : TypeId} {fz : Nat × Nat} (hp : us <+: c.toList) : SR C B (Abs.upd S w.heap.size us) g s a (w.alloc (.cells c E fz)) := by
  have hS : SLe S (Abs.upd S w.heap.size us) := SLe.upd h.good.none_size
  have lt := fun i o b (hi : lk s.hp i = some o) (hb : blk g i = some b) => (h.hp.1 i o hi).blk_lt hb
  refine ⟨h.dfr, h.nt, h.good.keep hS fun b p hb => ?_, fun t x hx => VR.mono hS x (fun _ _ => .inl rfl) (h.fr t x hx), ⟨fun i o hi => ?_, h.hp.2⟩, ?_, h.new, h.gl, h.dom, h.gk, h.hk, h.lo, h.low, h.rm⟩
  · simp only [Abs.upd] at hb
    split at hb
    · rename_i e; subst e; cases hb
      exact .inr ⟨_, E, _, heap_alloc_size w _, hp⟩
    · obtain ⟨c', E', fr, hh, _⟩ := h.good.1 b p hb
      exact .inl ⟨hb, heap_alloc_lt w _ b (Array.getElem?_eq_some_iff.1 hh).1⟩
  · refine (h.hp.1 i o hi).mono hS rfl (fun _ _ => .inl rfl) fun b hb => ?_
    have := lt i o b hi hb
    exact ⟨heap_alloc_lt w _ b this, by simp [Abs.upd, Nat.ne_of_lt this]⟩
  · refine h.grow.trans (own' := fun _ => False) ⟨by simp, hS, fun b hb _ => ⟨heap_alloc_lt w _ b hb, by simp [Abs.upd, Nat.ne_of_lt hb]⟩, rfl, rfl⟩ (fun _ h => h.elim)

theorem VRe_bytes (S : Seal) : ∀ (l : List UInt8), VRe S 1 (l.map encB) (l.map fun b => Value.int .u8 (b.toNat : Int))
  | [] => trivial
  | b :: l => ⟨.int .u8 (b.toNat : Int), l.map fun b => Value.int .u8 (b.toNat : Int), rfl, rfl, fun _ => rfl, VRe_bytes S l⟩

theorem Ran.s2b (h : SR C B S g s a w) (hd : dstOk B.nt d = true) {l : List UInt8} {src dst e : TypeId} (hs : C.P.underlying src = some .string) (hdd : C.P.underlying dst = some (.slice e)) (he : C.P.underlying e = some (.int .u8))
    (hr : r = (convert src dst (.string ⟨l.toArray⟩) >>= fun u => pure (.value u) : Sem Next).run C.P w) : Ran C B g s a w d r (.sealed 1 (l.map encB)) := by
  intro s' hst
  simp only [Eff.st, Option.some.injEq] at hst
  subst hst
  have hrun := run_bytes_of_string (P := C.P) w src dst e ⟨l.toArray⟩ hs hdd he
  have hsz : (⟨l.toArray⟩ : ByteArray).size = l.length := rfl
  have hlist : (bytesRow ⟨l.toArray⟩ (grownCap w (⟨l.toArray⟩ : ByteArray).size 0 e)).toList = (l.map fun b => Value.int .u8 (b.toNat : Int)) ++ List.replicate (grownCap w l.length 0 e - l.length) (.int .u8 0) := by
    simp [bytesRow, hsz]
  have hp : (l.map fun b => Value.int .u8 (b.toNat : Int)) <+: (bytesRow ⟨l.toArray⟩ (grownCap w (⟨l.toArray⟩ : ByteArray).size 0 e)).toList := by rw [hlist]; exact List.prefix_append _ _
  have h1 := (h.drew).sealUp (E := e) (fz := ((bytesRow ⟨l.toArray⟩ (grownCap w (⟨l.toArray⟩ : ByteArray).size 0 e)).size, (bytesRow ⟨l.toArray⟩ (grownCap w (⟨l.toArray⟩ : ByteArray).size 0 e)).size + 1)) hp
  refine ⟨_, _, _, g, .inl ?_, fun _ _ => .inl rfl, h1.put hd (v := .slice (some ⟨w.heap.size, 0, none⟩) l.length (grownCap w l.length 0 e)) ?_⟩
  · rw [hr, Sem.run_bind, hrun]; rfl
  · refine ⟨_, _, _, rfl, by simp, grownCap_ge w _ 0 e, .inr ⟨_, 0, _, rfl, by simp [Abs.upd]; rfl, by simpa using VRe_bytes _ l⟩, fun n hn => by cases hn⟩

theorem Ran.b2s (h : SR C B S g s a w) (hd : dstOk B.nt d = true) {tk : Option Nat} {l : List UInt8} {v : Value} {src dst e : TypeId} (hs : C.P.underlying src = some (.slice e)) (hdd : C.P.underlying dst = some .string) (he : C.P.underlying e = some (.int .u8))
    (hv : VR S g (.sl tk 1 (l.map encB)) v)
    (hr : r = (convert src dst v >>= fun u => pure (.value u) : Sem Next).run C.P w) : Ran C B g s a w d r (.ret (.str l)) := by
  obtain ⟨ad, m, c, rfl, hm, hmc, hx, _⟩ := id hv
  by_cases hl : l = []
  · subst hl
    have hm0 : m = 0 := by simpa using hm
    subst hm0
    refine Ran.ret h hd (v' := .string ⟨#[]⟩) ?_ rfl
    cases ad with
    | none => rw [hr, Sem.run_bind, run_convert_bytes_nil w src e hs he 0 c dst hdd]; rfl
    | some ad =>
      have := run_convert_bytes_back (P := C.P) w src dst e ad c [] hs he hdd (fun j hj => by simp at hj)
      rw [hr, Sem.run_bind]
      simp only [List.length_nil] at this
      rw [this]; rfl
  · obtain ⟨b, i, p, rfl, hp, hpe, rfl, hc⟩ := sl_cells h.good hv (by simpa using hl)
    refine Ran.ret h hd (v' := .string ⟨l.toArray⟩) ?_ rfl
    have hcells : ∀ j (hj : j < l.length), w.cell? ((⟨b, i, none⟩ : Addr).add j) = some (.int .u8 (l[j].toNat : Int)) := fun j hj => by
      apply hc
      obtain ⟨u, h1, h2, h3⟩ := hpe.get j (encB l[j]) (by simp [List.getElem?_eq_getElem hj])
      have hu : u = .int .u8 (l[j].toNat : Int) := h1 (fun _ => none)
      subst hu
      simp only [Value.cells] at h3
      obtain ⟨q, hq⟩ := h3
      have : (p.drop i)[j]? = some (Value.int .u8 (l[j].toNat : Int)) := by
        have h5 := congrArg (fun l : List Value => l[0]?) hq
        simpa using h5.symm
      rw [List.getElem?_take, if_pos (by simpa using hj)]
      exact this
    have := run_convert_bytes_back (P := C.P) w src dst e ⟨b, i, none⟩ c l hs he hdd hcells
    rw [hr, Sem.run_bind]
    simp only [List.length_map]
    rw [this]; rfl

theorem Ran.app (h : SR C B S g s a w) (hd : dstOk B.nt d = true) {n e k : Nat} {xs ys : List V} {tk : Option Nat} {v y : Value}
    (hv : VR S g (.sl (some n) k xs) v) (hy : VR S g (.sl tk k ys) y) (ho : ys.all elemOk = true)
    (t ty : TypeId) (i : TypeInfo) (z : Value) (bytes : Nat) (ht : C.P.underlying t = some (.slice e)) (hi : C.P.info? e = some i) (hz : i.zero = some z)
    (hsize : i.size = k) (hby : i.bytes = bytes) (hzs : z.cells.size = k) (h63 : xs.length + ys.length ≤ maxLen) (hbytes : (xs.length + ys.length) * bytes ≤ 140737488355328)
    (hr : r = (Builtin.append_ #[t, t] ty #[v, y] >>= fun u => pure (.value u) : Sem Next).run C.P w) : Ran C B g s a w d r (.app n e k xs.length (xs ++ ys)) := by
  intro s' hs
  simp only [Eff.st] at hs
  split at hs
  · rename_i e' k' l' hn
    split at hs
    · rename_i hcond
      obtain ⟨rfl, rfl, rfl⟩ := hcond
      cases hs
      obtain ⟨ad, m, c, rfl, _⟩ := id hy
      obtain ⟨v', w', S', g', h1, h2, h3, _, h5⟩ := h.app hn hv hy ho t ty i z bytes ht hi hz hsize hby hzs h63 hbytes
      have h4 := h2.put hd h3
      refine ⟨v', w', S', g', .inl ?_, fun i _ => h5 i, ?_⟩
      · rw [hr, Sem.run_bind, h1]; rfl
      · cases d <;> exact h4
    · cases hs
  · cases hs

theorem Ran.appnil (h : SR C B S g s a w) (hd : dstOk B.nt d = true) {n e k : Nat} {ys : List V} {tk : Option Nat} {y : Value}
    (hy : VR S g (.sl tk k ys) y) (ho : ys.all elemOk = true)
    (t ty : TypeId) (i : TypeInfo) (z : Value) (bytes : Nat) (ht : C.P.underlying t = some (.slice e)) (hi : C.P.info? e = some i) (hz : i.zero = some z)
    (hsize : i.size = k) (hby : i.bytes = bytes) (hzs : z.cells.size = k) (h63 : ys.length ≤ maxLen) (hbytes : ys.length * bytes ≤ 140737488355328)
    (hr : r = (Builtin.append_ #[t, t] ty #[.slice none 0 0, y] >>= fun u => pure (.value u) : Sem Next).run C.P w) : Ran C B g s a w d r (.appnil n e k ys) := by
  intro s' hs
  simp only [Eff.st] at hs
  split at hs
  · rename_i hf
    cases hs
    obtain ⟨hf, hoc⟩ := h.free hf
    obtain ⟨h0, hv0⟩ := h.adopt (e := e) (k := k) hf hoc
    have hle : ∀ i, g i ≠ none → gle g (Abs.upd g n (.arr none 0 0)) i := gle_upd hf
    obtain ⟨ad, m, c, rfl, _⟩ := id hy
    have hy' := VR.mono (SLe.refl S) _ hle hy
    obtain ⟨v', w', S', g', h1, h2, h3, _, h5⟩ := h0.app (xs := []) (by simp [lk]) hv0 hy' ho t ty i z bytes ht hi hz hsize hby hzs (by simpa using h63) (by simpa using hbytes)
    have h4 := h2.put hd h3
    refine ⟨v', w', S', g', .inl ?_, fun i hi => (hle i hi).trans (h5 i), ?_⟩
    · rw [hr, Sem.run_bind, h1]; rfl
    · have h6 : SR C B S' g' { (s.put d (.sl (some n) k ys)) with hp := (n, .tok e k ys.length) :: (n, .tok e k 0) :: s.hp, ids := n :: s.ids } (a.put d v') w' := by
        cases d <;> exact h4
      refine h6.le ⟨fun t x hx => ⟨x, hx, VLe.refl x⟩, fun i o' hi => .inl ?_, fun _ h => h⟩ ⟨h6.lo, h6.rm⟩
      simp only [lk] at hi ⊢
      by_cases hni : n = i
      · simpa [hni] using hi
      · simpa [hni] using hi
  · cases hs
/-- A box that is never written to. -/
theorem Ran.sealb (h : SR C B S g s a w) (hd : dstOk B.nt d = true) {t : TypeId} {x : V} {v : Value}
    (hx : VR S g x v) (ht : ∀ vs, x ≠ .tuple vs) (hi : x.idf = true) (hr : r = (newVar t v >>= fun u => pure (.value (.pointer (some u)))).run C.P w) : Ran C B g s a w d r (.sealb x.cells) := by
  intro s' hst
  simp only [Eff.st, Option.some.injEq] at hst
  subst hst
  obtain ⟨hcv, hcl⟩ := hx.cells_vrs ht
  have h1 := h.sealUp (us := v.cells.toList) (c := v.cells.toList.toArray) (E := t) (fz := (0, 0)) (by simp)
  refine ⟨.pointer (some ⟨w.heap.size, 0, none⟩), _, _, g, .inl ?_, fun _ _ => .inl rfl, h1.put hd (v := .pointer (some ⟨w.heap.size, 0, none⟩)) ?_⟩
  · rw [hr]
    simp only [newVar, newRow, Sem.run_bind, run_newObj, Result.andThen_ok, Sem.run_pure]
    rfl
  · refine ⟨w.heap.size, 0, v.cells.toList, by simp [Abs.upd], rfl, fun g0 => ?_⟩
    have hci : idfL x.cells = true := by
      cases x with
      | agg cs => exact hi
      | tuple vs => exact absurd rfl (ht _)
      | _ => exact (show (V.idf _ && true) = true by rw [hi]; rfl)
    exact VRs.idf x.cells hci (VRs.mono (SLe.upd h.good.none_size) x.cells List.prefix_rfl (fun _ _ => .inl rfl) hcv)
end
end Go.Abs

namespace Go.Abs
open Go
/-! Append: what is appended may be a text. -/
structure Src (P : Program) (t2 : TypeId) (y : Value) (m size : Nat) (news : List Value) (w : World) : Prop where
  ty : P.underlying t2 = some .string
  len : ∀ w', (Builtin.lenOf y).run P w' = .ok m w'
  cells : (Builtin.firstCells size m y).run P w = .ok news.toArray w
  cells' : (Builtin.firstCells size m y).run P w.drew = .ok news.toArray w.drew
section
variable {P : Program} (w : World)
theorem run_append_empty_src (t t2 ty e : TypeId) (ht : P.underlying t = some (.slice e)) (i : TypeInfo) (hi : P.info? e = some i) (a : Option Addr) (n cap : Nat) (hc : n ≤ cap) {y : Value} (h : Src P t2 y 0 i.size [] w) :
    (Builtin.append_ #[t, t2] ty #[.slice a n cap, y]).run P w = .ok (.slice a n cap) w := by
  obtain ⟨hd, h2, h3, _⟩ := h
  (cases a <;> simp [Builtin.append_, run_underlying ht, run_underlying hd, sizeOf, typeInfo, hi, h2, hc, h3, storeCells])
theorem run_append_room_src (t t2 ty e : TypeId) (i : TypeInfo) (ht : P.underlying t = some (.slice e)) (hi : P.info? e = some i)
    (g sLen sCap : Nat) (cur : Array Value) (hg : w.heap[g]? = some (.cells cur e (0, 0)))
    (m : Nat) (news : List Value) {y : Value} (h : Src P t2 y m i.size news w) (h1 : ∀ u ∈ news, u.oneCell' = true)
    (hroom : sLen + m ≤ sCap) (hfit : sLen * i.size + news.length ≤ cur.size) :
    (Builtin.append_ #[t, t2] ty #[.slice (some ⟨g, 0, none⟩) sLen sCap, y]).run P w =
      .ok (.slice (some ⟨g, 0, none⟩) (sLen + m) sCap) (w.setRow g (cur.toList.take (sLen * i.size) ++ news ++ cur.toList.drop (sLen * i.size + news.length)).toArray) := by
  obtain ⟨hd, h2, h3, _⟩ := h
  have hst := run_storeCells_at P g (sLen * i.size) e news 0 cur w hg (by simpa using hfit) h1
  simp only [Nat.add_zero] at hst
  simp [Builtin.append_, run_underlying ht, run_underlying hd, sizeOf, typeInfo, hi, h2, hroom, h3, Addr.add_lit, hst]
theorem run_append_nil_src (t t2 ty e : TypeId) (i : TypeInfo) (z : Value) (ht : P.underlying t = some (.slice e)) (hi : P.info? e = some i) (hz : i.zero = some z)
    (n : Nat) (news : List Value) {y : Value} (h : Src P t2 y n i.size news w)
    (h0 : 0 < n) (h63 : (n : Int) ≤ 9223372036854775807) (h48 : n * i.bytes ≤ 281474976710656) :
    (Builtin.append_ #[t, t2] ty #[.slice none 0 0, y]).run P w =
      .ok (.slice (some ⟨w.heap.size, 0, none⟩) n (grownCap w n 0 e)) (w.drew.alloc (.cells (news.toArray ++ Builtin.zeroCells z.cells (grownCap w n 0 e - n)) e)) := by
  obtain ⟨hd, h2, _, h3⟩ := h
  have hn : n ≠ 0 := by omega
  have h63' : ¬ (9223372036854775807 < (n : Int)) := by omega
  have h48' : ¬ (281474976710656 < Builtin.nextslicecap n 0 * i.bytes) := by rw [nextslicecap_zero h0]; omega
  simp [Builtin.append_, run_underlying ht, run_underlying hd, sizeOf, typeInfo, zeroValue, hi, hz, h2, hn, h63', h48', Question.forced, run_firstCells_none, h3, newRow, grownCap]
theorem run_append_grow_src (t t2 ty e : TypeId) (i : TypeInfo) (z : Value) (ht : P.underlying t = some (.slice e)) (hi : P.info? e = some i) (hz : i.zero = some z)
    (b : Addr) (sLen sCap : Nat) (olds : List Value) (hlo : olds.length = sLen * i.size) (holds : ∀ j v, olds[j]? = some v → w.cell? (b.add j) = some v)
    (n : Nat) (news : List Value) {y : Value} (h : Src P t2 y n i.size news w)
    (hg : sCap < sLen + n) (h63 : ((sLen + n : Nat) : Int) ≤ 9223372036854775807) (hfit : Builtin.nextslicecap (sLen + n) sCap * i.bytes ≤ 281474976710656) :
    (Builtin.append_ #[t, t2] ty #[.slice (some b) sLen sCap, y]).run P w =
      .ok (.slice (some ⟨w.heap.size, 0, none⟩) (sLen + n) (grownCap w (sLen + n) sCap e))
        (w.drew.alloc (.cells (olds.toArray ++ news.toArray ++ Builtin.zeroCells z.cells (grownCap w (sLen + n) sCap e - (sLen + n))) e)) := by
  obtain ⟨hd, h2, _, h3⟩ := h
  have hn : ¬ (sLen + n ≤ sCap) := by omega
  have h63' : ¬ (9223372036854775807 < ((sLen : Int) + (n : Int))) := by omega
  have h48' : ¬ (281474976710656 < Builtin.nextslicecap (sLen + n) sCap * i.bytes) := by omega
  have hfo := run_firstCells_some (P := P) w.drew i.size sLen b sLen sCap olds hlo (by simpa using holds)
  have key : ((olds.toArray ++ news.toArray) ++ Builtin.zeroCells z.cells (grownCap w (sLen + n) sCap e - (sLen + n))) = olds.toArray ++ (news.toArray ++ Builtin.zeroCells z.cells (grownCap w (sLen + n) sCap e - (sLen + n))) := by apply Array.ext'; simp
  (simp [Builtin.append_, run_underlying ht, run_underlying hd, sizeOf, typeInfo, zeroValue, hi, hz, h2, hn, h63', h48', Question.forced, h3, hfo, newRow, grownCap]; first | done | (congr 2; apply Array.ext'; simp))
theorem Src.text {t2 : TypeId} (ht : P.underlying t2 = some .string) (l : List UInt8) : Src P t2 (.string ⟨l.toArray⟩) l.length 1 (l.map fun b => Value.int .u8 (b.toNat : Int)) w := by
  have hc : ∀ w', (Builtin.firstCells 1 l.length (.string ⟨l.toArray⟩)).run P w' = .ok (l.map fun b => Value.int .u8 (b.toNat : Int)).toArray w' := fun w' => by
    have : (ByteArray.extract ⟨l.toArray⟩ 0 l.length) = ⟨l.toArray⟩ := by rw [ba_ext]; simp
    simp [Builtin.firstCells, this]
  exact ⟨ht, fun w' => by simp [Builtin.lenOf]; rfl, hc w, hc w.drew⟩
end
section
variable {C : Cx} {B : Base} {S : Seal} {g : Locs} {s : St} {a : Act} {w : World} {d : Option Nat} {r : Result Next}
theorem SR.appG (h : SR C B S g s a w) {n e k : Nat} {xs ys : List V} {v y : Value} {t2 : TypeId} {news : List Value}
    (hn : lk s.hp n = some (.tok e k xs.length)) (hv : VR S g (.sl (some n) k xs) v) (hsrc : Src C.P t2 y ys.length k news w) (hye' : VRe S k ys news) (hylen : news.length = ys.length * k) (hyone : ∀ u ∈ news, u.oneCell' = true)
    (t ty : TypeId) (i : TypeInfo) (z : Value) (bytes : Nat) (ht : C.P.underlying t = some (.slice e)) (hi : C.P.info? e = some i) (hz : i.zero = some z)
    (hsize : i.size = k) (hby : i.bytes = bytes) (hzs : z.cells.size = k) 
    (h63 : xs.length + ys.length ≤ maxLen) (hbytes : (xs.length + ys.length) * bytes ≤ 140737488355328) :
    ∃ v' w' S' g', (Builtin.append_ #[t, t2] ty #[v, y]).run C.P w = .ok v' w' ∧
      SR C B S' g' { s with hp := (n, .tok e k (xs ++ ys).length) :: s.hp } a w' ∧ VR S' g' (.sl (some n) k (xs ++ ys)) v' ∧
      SLe S S' ∧ (∀ j, gle g g' j) := by
  obtain ⟨ad0, cap0, cells, hg0, hrow, hseal⟩ := h.hp.1 n _ hn
  obtain ⟨va, vl, vc, rfl, hvl, hvc, hvx, hvt⟩ := id hv
  obtain ⟨_, _, _, hg1, _, hvt2⟩ := hvt n rfl
  rw [hg0] at hg1
  cases hg1
  obtain ⟨rfl, rfl⟩ := hvt2 hvl
  subst hvl
  by_cases hys : ys = []
  · subst hys
    have hn0 : news = [] := List.eq_nil_of_length_eq_zero (by simpa using hylen)
    subst hn0
    have hsrc' : Src C.P t2 y 0 i.size [] w := by rw [hsize]; exact hsrc
    refine ⟨_, w, S, g, run_append_empty_src w t t2 ty e ht i hi va xs.length vc hvc hsrc', ?_, ?_, SLe.refl S, fun _ => .inl rfl⟩
    · simpa using h.sameHp hn
    · simpa using hv
  · have hsrc' : Src C.P t2 y ys.length i.size news w := by rw [hsize]; exact hsrc
    have hyn : 0 < ys.length := List.length_pos_iff.2 hys
    have h63' : xs.length + ys.length ≤ 9223372036854775807 := by simp only [maxLen] at h63; omega
    have hzlen : ∀ q : Nat, (Builtin.zeroCells z.cells q).toList.length = q * k := fun q => by rw [Array.length_toList, size_zeroCells, hzs]
    have hge := fun w : World => fun old => grownCap_ge w (xs.length + ys.length) old e
    have hcm := fun w : World => fun old => grownCap_le_maxLen w (xs.length + ys.length) old e h63
    have hxl : cells.length = xs.length * k := hrow.1
    -- the elder cells
    have hxe : VRe S k xs cells := by
      rcases hvx with rfl | ⟨b, i', p, rfl, hp, hr⟩
      · trivial
      · have hpc := hseal _ rfl
        rw [hp] at hpc
        cases hpc
        rcases hrow.2 with ⟨he, _⟩ | ⟨b', cap', cur', he, _⟩
        · cases he
        · cases he; simpa using hr
    have hall : VRe S k (xs ++ ys) (cells ++ news) := hxe.append hye' hxl
    have hal : (cells ++ news).length = (xs.length + ys.length) * k := by rw [List.length_append, hxl, hylen, Nat.add_mul]
    have hfull : ∀ w : World, ∀ old, ((cells ++ news) ++ (Builtin.zeroCells z.cells (grownCap w (xs.length + ys.length) old e - (xs.length + ys.length))).toList).length = grownCap w (xs.length + ys.length) old e * k := fun w old => by
      rw [List.length_append, hal, hzlen, ← Nat.add_mul]
      congr 1
      have := hge w old
      omega
    have harr : ∀ (l : List Value) (z : Array Value), l.toArray ++ z = (l ++ z.toList).toArray := fun l z => by apply Array.ext'; simp
    have hgr : ∀ old, ∀ W : World, W = w.drew.alloc (.cells ((cells ++ news) ++ (Builtin.zeroCells z.cells (grownCap w (xs.length + ys.length) old e - (xs.length + ys.length))).toList).toArray e) → ∃ S' g',
        SR C B S' g' { s with hp := (n, .tok e k (xs ++ ys).length) :: s.hp } a W ∧
        VR S' g' (.sl (some n) k (xs ++ ys)) (.slice (some ⟨w.heap.size, 0, none⟩) (xs.length + ys.length) (grownCap w (xs.length + ys.length) old e)) ∧ SLe S S' ∧ (∀ j, gle g g' j) := fun old W hW => by
      have hd : SR C B S g s a w.drew := h.drew
      obtain ⟨h1, h2, h3⟩ := hd.appNew (total := xs.length + ys.length) (e := e) hn hg0 (by omega) hal (hge w old) (hcm w old) (hfull w old) hall (by simp)
      refine ⟨_, _, ?_, h2, h3, gle_arr hg0 (by omega)⟩
      rw [hW, List.length_append]
      exact h1
    rcases hrow.2 with ⟨he, hx0⟩ | ⟨b, cap, cur, he, _, hb, hncap, hcmax, hcsz, htake⟩
    · -- nil
      have hx : xs = [] := List.eq_nil_of_length_eq_zero hx0
      subst hx
      simp only [Value.slice.injEq] at he
      obtain ⟨rfl, _, rfl⟩ := he
      have hc0 : cells = [] := List.eq_nil_of_length_eq_zero (by simpa using hxl)
      subst hc0
      have hr := run_append_nil_src (P := C.P) w t t2 ty e i z ht hi hz ys.length news hsrc' hyn (by omega)
        (by rw [hby]; have := hbytes; simp only [List.length_nil, Nat.zero_add] at this; omega)
      obtain ⟨S', g', h1, h2, h3, h4⟩ := hgr 0 _ (congrArg (fun x => w.drew.alloc (.cells x e)) (harr _ _))
      refine ⟨_, _, S', g', hr, ?_, ?_, h3, h4⟩
      · simpa using h1
      · simpa using h2
    · cases he
      by_cases hroom : xs.length + ys.length ≤ vc
      · -- room
        have hfit : xs.length * k + news.length ≤ cur.size := by rw [hylen, hcsz, ← Nat.add_mul]; exact Nat.mul_le_mul_right _ hroom
        have hr := run_append_room_src (P := C.P) w t t2 ty e i ht hi b xs.length vc cur hb ys.length news hsrc' hyone hroom (by rw [hsize]; exact hfit)
        rw [hsize, htake] at hr
        have hSb : S b = some cells := hseal _ rfl
        have hS : SLe S (Abs.upd S b (cells ++ news)) := SLe.updp hSb (List.prefix_append _ _)
        refine ⟨_, _, Abs.upd S b (cells ++ news), Abs.upd g n (.arr (some ⟨b, 0, none⟩) (xs.length + ys.length) vc), hr, ?_, ?_, hS, gle_arr hg0 (by omega)⟩
        · refine h.step (x := n) (xb := some b) hS (h.good.keep hS fun b' p hp => ?_) (by rw [setRow_size]; exact Nat.le_refl _) (fun i _ => gle_arr hg0 (by omega) i) (fun i hi => by simp [Abs.upd, hi])
            (fun b' hb' => ⟨_, hn, by cases hb'; simp [blk, hg0]⟩) (fun b' _ hne => ?_) ?_ (fun b' hb' => .inl (by simp [blk, Abs.upd] at hb'; simp [hb'])) (fun _ h => h) (upd_old hg0) (.inl ⟨_, hn⟩)
          · simp only [Abs.upd] at hp
            split at hp
            · rename_i e'; subst e'; cases hp
              exact .inr ⟨_, e, _, setRow_heap w _ cur _ e _ hb, by simp [List.append_assoc]⟩
            · rename_i e'
              exact .inl ⟨hp, setRow_other w b b' _ e'⟩
          · have : b' ≠ b := fun e' => hne (by rw [e'])
            exact ⟨setRow_other w b b' _ this, by simp [Abs.upd, this]⟩
          · refine ⟨some ⟨b, 0, none⟩, vc, cells ++ news, by simp [Abs.upd], ⟨by rw [hal, List.length_append], .inr ⟨b, vc, _, by simp, Nat.zero_le _, setRow_heap w b cur _ e _ hb, by simpa using hroom, hcmax, ?_, ?_⟩⟩, fun ad ha => ?_⟩
            · simp only [List.size_toArray, List.length_append, List.length_drop, Array.length_toList, hxl, hcsz]
              rw [hcsz] at hfit
              omega
            · rw [List.length_append, ← hal]
              exact List.take_left
            · cases ha; simp [Abs.upd]
        · refine ⟨_, _, _, rfl, by simp, hroom, .inr ⟨b, 0, cells ++ news, rfl, by simp [Abs.upd], by simpa using VRe.mono hS k _ List.prefix_rfl hall⟩, fun m hm => ?_⟩
          cases hm
          exact ⟨_, _, _, by simp [Abs.upd], Nat.le_refl _, fun _ => ⟨rfl, rfl⟩⟩
      · -- it moves
        have holds : ∀ j u, cells[j]? = some u → w.cell? ((⟨b, 0, none⟩ : Addr).add j) = some u := hrow.cells (g := b) rfl
        have hr := run_append_grow_src (P := C.P) w t t2 ty e i z ht hi hz ⟨b, 0, none⟩ xs.length vc cells (by rw [hsize]; exact hxl) holds ys.length news hsrc' (by omega) (by omega)
          (by rw [hby]; exact growslice_fits (by omega) hbytes)
        obtain ⟨S', g', h1, h2, h3, h4⟩ := hgr vc _ (congrArg (fun x => w.drew.alloc (.cells x e)) (harr _ _))
        refine ⟨_, _, S', g', hr, ?_, h2, h3, h4⟩
        simpa using h1

theorem oneU8 (l : List UInt8) : ∀ u ∈ l.map (fun b => Value.int .u8 (b.toNat : Int)), u.oneCell' = true := by
  intro u hu
  simp only [List.mem_map] at hu
  obtain ⟨b, _, rfl⟩ := hu
  rfl
theorem Ran.apps (h : SR C B S g s a w) (hd : dstOk B.nt d = true) {n e : Nat} {xs : List V} {l : List UInt8} {v : Value}
    (hv : VR S g (.sl (some n) 1 xs) v)
    (t t2 ty : TypeId) (i : TypeInfo) (z : Value) (bytes : Nat) (ht : C.P.underlying t = some (.slice e)) (ht2 : C.P.underlying t2 = some .string) (hi : C.P.info? e = some i) (hz : i.zero = some z)
    (hsize : i.size = 1) (hby : i.bytes = bytes) (hzs : z.cells.size = 1) (h63 : xs.length + l.length ≤ maxLen) (hbytes : (xs.length + l.length) * bytes ≤ 140737488355328)
    (hr : r = (Builtin.append_ #[t, t2] ty #[v, .string ⟨l.toArray⟩] >>= fun u => pure (.value u) : Sem Next).run C.P w) : Ran C B g s a w d r (.app n e 1 xs.length (xs ++ l.map encB)) := by
  intro s' hs
  simp only [Eff.st] at hs
  split at hs
  · rename_i e' k' l' hn
    split at hs
    · rename_i hcond
      obtain ⟨rfl, rfl, rfl⟩ := hcond
      cases hs
      obtain ⟨v', w', S', g', h1, h2, h3, _, h5⟩ := h.appG (ys := l.map encB) hn hv (by simpa using Src.text w ht2 l) (VRe_bytes S l) (by simp) (oneU8 l) t ty i z bytes ht hi hz hsize hby hzs (by simpa using h63) (by simpa using hbytes)
      have h4 := h2.put hd h3
      refine ⟨v', w', S', g', .inl ?_, fun i _ => h5 i, ?_⟩
      · rw [hr, Sem.run_bind, h1]; rfl
      · cases d <;> exact h4
    · cases hs
  · cases hs
theorem Ran.appnils (h : SR C B S g s a w) (hd : dstOk B.nt d = true) {n e : Nat} {l : List UInt8}
    (t t2 ty : TypeId) (i : TypeInfo) (z : Value) (bytes : Nat) (ht : C.P.underlying t = some (.slice e)) (ht2 : C.P.underlying t2 = some .string) (hi : C.P.info? e = some i) (hz : i.zero = some z)
    (hsize : i.size = 1) (hby : i.bytes = bytes) (hzs : z.cells.size = 1) (h63 : l.length ≤ maxLen) (hbytes : l.length * bytes ≤ 140737488355328)
    (hr : r = (Builtin.append_ #[t, t2] ty #[.slice none 0 0, .string ⟨l.toArray⟩] >>= fun u => pure (.value u) : Sem Next).run C.P w) : Ran C B g s a w d r (.appnil n e 1 (l.map encB)) := by
  intro s' hs
  simp only [Eff.st] at hs
  split at hs
  · rename_i hf
    cases hs
    obtain ⟨hf, hoc⟩ := h.free hf
    obtain ⟨h0, hv0⟩ := h.adopt (e := e) (k := 1) hf hoc
    have hle : ∀ i, g i ≠ none → gle g (Abs.upd g n (.arr none 0 0)) i := gle_upd hf
    obtain ⟨v', w', S', g', h1, h2, h3, _, h5⟩ := h0.appG (xs := []) (ys := l.map encB) (by simp [lk]) hv0 (by simpa using Src.text w ht2 l) (VRe_bytes S l) (by simp) (oneU8 l) t ty i z bytes ht hi hz hsize hby hzs (by simpa using h63) (by simpa using hbytes)
    have h4 := h2.put hd h3
    refine ⟨v', w', S', g', .inl ?_, fun i hi => (hle i hi).trans (h5 i), ?_⟩
    · rw [hr, Sem.run_bind, h1]; rfl
    · have h6 : SR C B S' g' { (s.put d (.sl (some n) 1 (l.map encB))) with hp := (n, .tok e 1 (l.map encB).length) :: (n, .tok e 1 0) :: s.hp, ids := n :: s.ids } (a.put d v') w' := by
        cases d <;> exact h4
      refine h6.le ⟨fun t x hx => ⟨x, hx, VLe.refl x⟩, fun i o' hi => .inl ?_, fun _ h => h⟩ ⟨h6.lo, h6.rm⟩
      simp only [lk] at hi ⊢
      by_cases hni : n = i
      · simpa [hni] using hi
      · simpa [hni] using hi
  · cases hs
end
end Go.Abs

namespace Go.Abs
open Go

def kdOf : TypeDesc → Option Nat
  | .int _ => some 0
  | .string => some 1
  | .bool => some 2
  | _ => none

section
variable {C : Cx} {B : Base} {S : Seal} {g : Locs} {s : St} {a : Act} {w : World} {d : Option Nat} {r : Result Next}

theorem ba_beq (x y : ByteArray) : (x == y) = true ↔ x = y := by
  obtain ⟨a⟩ := x
  obtain ⟨b⟩ := y
  constructor
  · intro h
    have e : a = b := by simpa using (show (a == b) = true from h)
    rw [e]
  · intro h
    cases h
    show (a == a) = true
    simp

theorem same_ok {td : TypeDesc} {kd : Nat} (hd : kdOf td = some kd) {k k' : V} {u u' : Value} {b : Bool} (hk : VR S g k u) (hk' : VR S g k' u') (h : veq kd k k' = some b) :
    Instr.sameNow td u u' = some b ∧ (b = true → u' = u) := by
  unfold veq at h
  split at h
  · rename_i ki m ki' n
    split at h
    · rename_i e; subst e
      cases h
      cases td <;> simp only [kdOf, reduceCtorEq, Option.some.injEq] at hd <;> try omega
      rw [show u = _ from hk, show u' = _ from hk']
      refine ⟨by simp [Instr.sameNow], fun e => ?_⟩
      have : m = n := by simpa using e
      rw [this]
    · cases h
  · rename_i m n
    cases h
    cases td <;> simp only [kdOf, reduceCtorEq, Option.some.injEq] at hd <;> try omega
    rw [show u = _ from hk, show u' = _ from hk']
    refine ⟨?_, fun e => ?_⟩
    · simp only [Instr.sameNow, Option.some.injEq]
      rw [Bool.eq_iff_iff, ba_beq]
      simp
    · have : m = n := by simpa using e
      rw [this]
  · rename_i m n
    cases h
    cases td <;> simp only [kdOf, reduceCtorEq, Option.some.injEq] at hd <;> try omega
    rw [show u = _ from hk, show u' = _ from hk']
    refine ⟨by simp [Instr.sameNow], fun e => ?_⟩
    have : m = n := by simpa using e
    rw [this]
  · cases h

theorem run_checkKey' {P : Program} {kt : TypeId} {td : TypeDesc} {kd : Nat} (hu : P.underlying kt = some td) (hd : kdOf td = some kd) (u : Value) (e : Bool) (n : Nat) (w : World) : (Instr.checkKey e (n + 1) kt u).run P w = .ok () w := by
  unfold Instr.checkKey
  simp only [Sem.run_bind, run_underlying hu, Result.andThen]
  cases td <;> simp only [kdOf, reduceCtorEq] at hd <;> simp
theorem run_stays {P : Program} {kd : Nat} {k : V} {u : Value} (hk : VR S g k u) (h : isKeyV kd k = true) (w : World) : (Instr.keyThatStays u u).run P w = .ok u w := by
  have : Instr.sameBits 10000 u u = true := by
    unfold isKeyV at h
    split at h <;> first | (cases h; done) | (rw [show u = _ from hk]; simp [Instr.sameBits, ba_beq])
  simp [Instr.keyThatStays, this]

theorem mfind_ok {td : TypeDesc} {kd : Nat} (hd : kdOf td = some kd) {k : V} {u : Value} (hk : VR S g k u) : ∀ {es : List (Nat × V × V)} {l : List MapEntry} {r : Option V} (i : Nat), MR S g es l → mfind kd k es = some r →
    (r = none ∧ Instr.findNow td u l i = some none) ∨ ∃ v j x, r = some v ∧ Instr.findNow td u l i = some (some (j, x)) ∧ VR S g v x
  | [], l, r, i, hm, h => by
    simp only [mfind, Option.some.injEq] at h
    subst h
    have : l = [] := hm
    subst this
    exact .inl ⟨rfl, rfl⟩
  | (n, k', v) :: es, l, r, i, hm, h => by
    obtain ⟨e, l', rfl, h0, h1, h2, h3⟩ := hm
    simp only [mfind] at h
    split at h
    · rename_i hq
      cases h
      have := (same_ok hd hk h1 hq).1
      exact .inr ⟨v, i, e.val, rfl, by simp [Instr.findNow, this], h2⟩
    · rename_i hq
      have := (same_ok hd hk h1 hq).1
      simp only [Instr.findNow, this]
      exact mfind_ok hd hk (i + 1) h3 h
    · cases h

theorem mput_ok {td : TypeDesc} {kd clock : Nat} (hd : kdOf td = some kd) {k v : V} {u x : Value} (hk : VR S g k u) (hv : VR S g v x) : ∀ {es es' : List (Nat × V × V)} {bb : Bool} {l : List MapEntry} (i : Nat), MR S g es l → mput kd k v clock es = some (es', bb) →
    (bb = false ∧ Instr.findNow td u l i = some none ∧ MR S g es' (l ++ [{ key := u, val := x, born := clock }])) ∨
    ∃ j y e, bb = true ∧ Instr.findNow td u l i = some (some (i + j, y)) ∧ l[j]? = some e ∧ e.key = u ∧ MR S g es' (l.modify j fun e => { e with key := u, val := x })
  | [], es', bb, l, i, hm, h => by
    simp only [mput, Option.some.injEq, Prod.mk.injEq] at h
    obtain ⟨rfl, rfl⟩ := h
    have : l = [] := hm
    subst this
    exact .inl ⟨rfl, rfl, ⟨_, [], rfl, rfl, hk, hv, rfl⟩⟩
  | (n, k', v') :: es, es', bb, l, i, hm, h => by
    obtain ⟨e, l', rfl, h0, h1, h2, h3⟩ := hm
    simp only [mput] at h
    split at h
    · rename_i hq
      cases h
      have := same_ok hd hk h1 hq
      exact .inr ⟨0, e.val, e, rfl, by simp [Instr.findNow, this.1], rfl, this.2 rfl, ⟨{ e with key := u, val := x }, l', by simp, h0, hk, hv, h3⟩⟩
    · rename_i hq
      have := (same_ok hd hk h1 hq).1
      split at h
      · rename_i es2 b2 h4
        cases h
        rcases mput_ok hd hk hv (i + 1) h3 h4 with ⟨h7, h5, h6⟩ | ⟨j, y, e2, h9, h5, h6, h7, h8⟩
        · exact .inl ⟨h7, by simp [Instr.findNow, this, h5], ⟨e, _, rfl, h0, h1, h2, h6⟩⟩
        · exact .inr ⟨j + 1, y, e2, h9, by simp [Instr.findNow, this, h5]; omega, by simpa using h6, h7, ⟨e, _, by simp, h0, h1, h2, h8⟩⟩
      · cases h
    · cases h

theorem Ran.newm (h : SR C B S g s a w) (hd : dstOk B.nt d = true) {o : Nat} {t : TypeId} (hr : r = (Instr.makeMap t none >>= fun u => pure (.value u) : Sem Next).run C.P w) : Ran C B g s a w d r (.newm o) := by
  intro s' hs
  simp only [Eff.st] at hs
  split at hs
  · rename_i hf
    cases hs
    obtain ⟨hf, hoc⟩ := h.free hf
    have hno := h.good.none_size
    have h1 : SR C B S (Abs.upd g o (.obj w.heap.size)) { s with hp := (o, .map 0 []) :: s.hp, ids := o :: s.ids } a (w.alloc (.map #[] 0)) := by
      refine h.step (x := o) (o' := .map 0 []) (xb := none) (SLe.refl S) (h.good.keep (SLe.refl S) fun b p hp => .inl ⟨hp, ?_⟩) (by simp) (gle_upd hf) (fun i hi => by simp [Abs.upd, hi])
        (fun _ hb => by cases hb) (fun b hb _ => ⟨heap_alloc_lt w _ b hb, rfl⟩) (show HOok _ _ _ _ (.map 0 []) from ⟨w.heap.size, #[], by simp [Abs.upd], heap_alloc_size w _, hno, rfl⟩) (fun b hb => .inr (by simp [blk, Abs.upd] at hb; omega)) (fun _ h => List.mem_cons_of_mem _ h) (upd_new hoc) (.inr hf)
      obtain ⟨c, E', fr, hh, _⟩ := h.good.1 b p hp
      exact heap_alloc_lt w _ b (Array.getElem?_eq_some_iff.1 hh).1
    have h3 := h1.put (d := d) (x := .mp o) (v := .map (some w.heap.size)) hd ⟨_, by simp [Abs.upd], rfl⟩
    refine ⟨.map (some w.heap.size), w.alloc (.map #[] 0), S, Abs.upd g o (.obj w.heap.size), .inl ?_, gle_upd hf, ?_⟩
    · rw [hr]; simp [Instr.makeMap]
    · cases d <;> exact h3
  · cases hs

theorem Ran.mrd (h : SR C B S g s a w) (hd : dstOk B.nt d = true) {o kd : Nat} {k z : V} {ok : Bool} {mt kt et : TypeId} {td : TypeDesc} {i : TypeInfo} {zv u v : Value}
    (hm : C.P.underlying mt = some (.map kt et)) (hk : C.P.underlying kt = some td) (hkd : kdOf td = some kd) (hi : C.P.info? et = some i) (hz : i.zero = some zv) (hzv : VR S g z zv)
    (hv : VR S g (.mp o) v) (hu : VR S g k u)
    (hr : r = (Instr.lookup mt v u ok >>= fun u => pure (.value u) : Sem Next).run C.P w) : Ran C B g s a w d r (.mrd o kd k ok z) := by
  intro s' hs
  simp only [Eff.st] at hs
  split at hs <;> try (cases hs; done)
  rename_i clock0 es ho
  split at hs <;> try (cases hs; done)
  rename_i rr hf
  cases hs
  obtain ⟨b, hb, rfl⟩ := hv
  obtain ⟨b', arr, h1, h2, h3, h4⟩ := h.hp.1 o _ ho
  rw [hb] at h1
  cases h1
  have hzr : (zeroValue et).run C.P w = .ok zv w := by simp [zeroValue, typeInfo, hi, hz]
  rcases mfind_ok hkd hu 0 h4 hf with ⟨rfl, hn⟩ | ⟨v, j, x, rfl, hn, hx⟩
  · have hrun : (Instr.lookup mt (.map (some b)) u ok).run C.P w = .ok (if ok then .tuple #[zv, .bool false] else zv) w := by
      cases ok <;> simp [Instr.lookup, run_underlying hm, MapKept.run_getObj_map h2, run_checkKey' hk hkd, MapKept.run_findKey hk hn, hzr]
    refine ⟨_, w, S, g, .inl (by rw [hr, Sem.run_bind, hrun]; rfl), fun _ _ => .inl rfl, h.put hd ?_⟩
    cases ok
    · exact hzv
    · exact ⟨_, rfl, rfl, ⟨zv, _, rfl, hzv, ⟨.bool false, _, rfl, rfl, trivial⟩⟩⟩
  · have hrun : (Instr.lookup mt (.map (some b)) u ok).run C.P w = .ok (if ok then .tuple #[x, .bool true] else x) w := by
      cases ok <;> simp [Instr.lookup, run_underlying hm, MapKept.run_getObj_map h2, run_checkKey' hk hkd, MapKept.run_findKey hk hn]
    refine ⟨_, w, S, g, .inl (by rw [hr, Sem.run_bind, hrun]; rfl), fun _ _ => .inl rfl, h.put hd ?_⟩
    cases ok
    · exact hx
    · exact ⟨_, rfl, rfl, ⟨x, _, rfl, hx, ⟨.bool true, _, rfl, rfl, trivial⟩⟩⟩

theorem Ran.mwr (h : SR C B S g s a w) (hd : dstOk B.nt d = true) {o kd : Nat} {k x : V} {mt kt et : TypeId} {td : TypeDesc} {u v y : Value}
    (hm : C.P.underlying mt = some (.map kt et)) (hk : C.P.underlying kt = some td) (hkd : kdOf td = some kd) (hkk : isKeyV kd k = true)
    (hv : VR S g (.mp o) v) (hu : VR S g k u) (hy : VR S g x y)
    (hr : r = (Instr.mapUpdate mt v u y >>= fun _ => pure .skip : Sem Next).run C.P w) : Ran C B g s a w d r (.mwr o kd k x) := by
  intro s' hs
  simp only [Eff.st] at hs
  split at hs <;> try (cases hs; done)
  rename_i clock0 es ho
  split at hs <;> try (cases hs; done)
  rename_i es' bb hf
  cases hs
  obtain ⟨b, hb, rfl⟩ := hv
  obtain ⟨b', arr, h1, h2, h3, h4⟩ := h.hp.1 o _ ho
  rw [hb] at h1
  cases h1
  have hbo : blk g o = some b := by simp [blk, hb]
  have key : ∀ (arr' : Array MapEntry) (clock' : Nat), clock' = (if bb then clock0 else clock0 + 1) → MR S g es' arr'.toList → (Instr.mapUpdate mt (.map (some b)) u y).run C.P w = .ok () { w with heap := w.heap.setIfInBounds b (.map arr' clock') } →
      ∃ v w' S' g', (r = .ok (.value v) w' ∨ (r = .ok .skip w' ∧ v = undef)) ∧ (∀ i, g i ≠ none → gle g g' i) ∧ SR C B S' g' { (s.put d (.tuple [])) with hp := (o, .map (if bb then clock0 else clock0 + 1) es') :: s.hp } (a.put d v) w' := by
    intro arr' clock' hck hmr hrun
    rw [← hck]
    refine ⟨undef, { w with heap := w.heap.setIfInBounds b (.map arr' clock') }, S, g, .inr ⟨by rw [hr, Sem.run_bind, hrun]; rfl, rfl⟩, fun _ _ => .inl rfl, ?_⟩
    have hset := MapKept.heap_set (w := w) (o' := .map arr' clock') h2
    have h5 : SR C B S g { s with hp := (o, .map clock' es') :: s.hp } a { w with heap := w.heap.setIfInBounds b (.map arr' clock') } := by
      refine h.step (x := o) (o' := .map clock' es') (xb := some b) (is := s.ids) (SLe.refl S) (h.good.keep (SLe.refl S) fun b' p hp => .inl ⟨hp, ?_⟩) (by simp) (fun _ _ => .inl rfl) (fun _ _ => rfl)
        (fun b' hb' => ⟨_, ho, by cases hb'; exact hbo⟩) (fun b' _ hne => ⟨?_, rfl⟩) (show HOok _ _ _ _ (.map clock' es') from ⟨b, arr', hb, hset.1, h3, hmr⟩) (fun b' hb' => .inl (by rw [hbo] at hb'; exact hb')) (fun _ h => h) (fun _ h1 h2 => absurd h1 h2) (.inl ⟨_, ho⟩)
      · exact hset.2 b' (fun e => by subst e; rw [h3] at hp; cases hp)
      · exact hset.2 b' (fun e => hne (by rw [e]))
    have h6 := h5.put (d := d) hd (VR.unit S g)
    cases d <;> exact h6
  rcases mput_ok hkd hu hy 0 h4 hf with ⟨rfl, hn, hmr⟩ | ⟨j, yy, e, rfl, hn, he, hek, hmr⟩
  · refine key (arr.push { key := u, val := y, born := clock0 }) (clock0 + 1) rfl (by simpa using hmr) ?_
    simp [Instr.mapUpdate, run_underlying hm, MapKept.run_getObj_map h2, run_checkKey' hk hkd, MapKept.run_findKey hk hn, MapKept.run_setObj_map _ h2]
  · have he' : arr[j]? = some e := by simpa using he
    refine key (arr.modify j fun e => { e with key := u, val := y }) clock0 rfl (by simpa using hmr) ?_
    simp only [Nat.zero_add] at hn
    simp [Instr.mapUpdate, run_underlying hm, MapKept.run_getObj_map h2, run_checkKey' hk hkd, MapKept.run_findKey hk hn, he', hek, run_stays hu hkk, MapKept.run_setObj_map _ h2]

theorem Ran.newsl (h : SR C B S g s a w) (hd : dstOk B.nt d = true) {o n : Nat} {cs : List V} {us : List Value} {E : TypeId} (hv : VRs S g cs us) (hu : us.length = cs.length)
    (hr : r = .ok (.value (.slice (some ⟨w.heap.size, 0, none⟩) n n)) (w.alloc (.cells us.toArray E))) : Ran C B g s a w d r (.newsl o cs n) := by
  intro s' hs
  simp only [Eff.st] at hs
  split at hs
  · rename_i hf
    cases hs
    obtain ⟨hf, hoc⟩ := h.free hf
    obtain ⟨h1, h2⟩ := h.new' (E := E) hf hoc hu hv
    have h3 := h1.put (d := d) (x := .ls o 0 1 n) (v := .slice (some ⟨w.heap.size, 0, none⟩) n n) hd ⟨w.heap.size, n, by simp [Abs.upd], rfl, Nat.le_refl _⟩
    refine ⟨_, _, S, Abs.upd g o (.obj w.heap.size), .inl hr, gle_upd hf, ?_⟩
    cases d <;> exact h3
  · cases hs

theorem ok_lens {t e ty : TypeId} {o off k n : Nat} {u : Value} (ht : C.P.underlying t = some (.slice e)) (hx : VR S g (.ls o off k n) u) : (Builtin.len_ #[t] ty #[u]).run C.P w = .ok (.int .i64 n) w := by
  obtain ⟨b, cap, _, rfl, _⟩ := hx
  simp [Builtin.len_, run_underlying ht, goInt]
theorem ok_idxs {t e : TypeId} {i : TypeInfo} {o off k k' n : Nat} {ik : IntKind} {m : Int} {u : Value} (ht : C.P.underlying t = some (.slice e)) (hi : C.P.info? e = some i) (hk : i.size = k) (hkk : k' = k)
    (hx : VR S g (.ls o off k' n) u) (h0 : 0 ≤ m) (h1 : m < n) : ∃ v, (Instr.indexAt t u (.int ik m)).run C.P w = .ok v w ∧ VR S g (.ptr o (off + m.toNat * k)) v := by
  subst hkk
  obtain ⟨b, cap, hb, rfl, hn⟩ := hx
  refine ⟨.pointer (some ⟨b, off + m.toNat * k', none⟩), ?_, ⟨b, hb, rfl⟩⟩
  simp [Instr.indexAt, asIntOf, run_underlying ht, run_sizeOf' hi, hk, h0, addr_add0, h1]
end
end Go.Abs

namespace Go.Abs
open Go
section
variable {C : Cx} {B : Base} {S : Seal} {g : Locs} {s : St} {a : Act} {w : World} {d : Option Nat} {r : Result Next}

theorem MR.filter {p : Nat → Bool} : ∀ {es : List (Nat × V × V)} {l : List MapEntry}, MR S g es l → MR S g (es.filter fun e => p e.1) (l.filter fun e => p e.born)
  | [], l, h => by have : l = [] := h; subst this; rfl
  | (n, k, v) :: es, l, h => by
    obtain ⟨e, r, rfl, h0, h1, h2, h3⟩ := h
    have ih := MR.filter (p := p) h3
    cases hp : p n with
    | true => rw [List.filter_cons_of_pos (by simpa using hp), List.filter_cons_of_pos (by rw [h0]; exact hp)]; exact ⟨e, _, rfl, h0, h1, h2, ih⟩
    | false => rw [List.filter_cons_of_neg (by simp [hp]), List.filter_cons_of_neg (by rw [h0]; simp [hp])]; exact ih
theorem MR.all {p : Nat → Bool} : ∀ {es : List (Nat × V × V)} {l : List MapEntry}, MR S g es l → (l.all fun e => p e.born) = (es.all fun e => p e.1) ∧ l.isEmpty = es.isEmpty
  | [], l, h => by have : l = [] := h; subst this; exact ⟨rfl, rfl⟩
  | (n, k, v) :: es, l, h => by
    obtain ⟨e, r, rfl, h0, h1, h2, h3⟩ := h
    have ih := MR.all (p := p) h3
    simp [h0, ih.1]

theorem Ran.newit (h : SR C B S g s a w) (hd : dstOk B.nt d = true) {o m : Nat} {mt kt et : TypeId} {v : Value} (hm : C.P.underlying mt = some (.map kt et)) (hv : VR S g (.mp m) v)
    (hr : r = (Instr.range mt v >>= fun u => pure (.value u) : Sem Next).run C.P w) : Ran C B g s a w d r (.newit o m) := by
  intro s' hs
  simp only [Eff.st] at hs
  split at hs
  · rename_i hf
    split at hs <;> try (cases hs; done)
    rename_i clock es hmo
    cases hs
    obtain ⟨hf, hoc⟩ := h.free hf
    have hno := h.good.none_size
    obtain ⟨bm, hbm, rfl⟩ := hv
    obtain ⟨b', arr, h1, h2, h3, h4⟩ := h.hp.1 m _ hmo
    rw [hbm] at h1
    cases h1
    have hne : m ≠ o := fun e => by subst e; rw [hf] at hbm; cases hbm
    have h5 : SR C B S (Abs.upd g o (.obj w.heap.size)) { s with hp := (o, .iter m clock [] clock) :: s.hp, ids := o :: s.ids } a (w.alloc (.mapIter (some bm) clock #[] clock)) := by
      refine h.step (x := o) (o' := .iter m clock [] clock) (xb := none) (SLe.refl S) (h.good.keep (SLe.refl S) fun b p hp => .inl ⟨hp, ?_⟩) (by simp) (gle_upd hf) (fun i hi => by simp [Abs.upd, hi])
        (fun _ hb => by cases hb) (fun b hb _ => ⟨heap_alloc_lt w _ b hb, rfl⟩) (show HOok _ _ _ _ (.iter m clock [] clock) from ⟨w.heap.size, bm, by simp [Abs.upd], heap_alloc_size w _, hno, by simp [Abs.upd, hne, hbm]⟩) (fun b hb => .inr (by simp [blk, Abs.upd] at hb; omega)) (fun _ h => List.mem_cons_of_mem _ h) (upd_new hoc) (.inr hf)
      obtain ⟨c, E', fr, hh, _⟩ := h.good.1 b p hp
      exact heap_alloc_lt w _ b (Array.getElem?_eq_some_iff.1 hh).1
    have h6 := h5.put (d := d) (x := .ptr o 0) (v := .pointer (some ⟨w.heap.size, 0, none⟩)) hd ⟨_, by simp [Abs.upd], rfl⟩
    refine ⟨.pointer (some ⟨w.heap.size, 0, none⟩), w.alloc (.mapIter (some bm) clock #[] clock), S, Abs.upd g o (.obj w.heap.size), .inl ?_, gle_upd hf, ?_⟩
    · rw [hr]; simp [Instr.range, run_underlying hm, MapKept.run_getObj_map h2]
    · cases d <;> exact h6
  · cases hs

theorem Ran.nxt (h : SR C B S g s a w) (hd : dstOk B.nt d = true) {o : Nat} {v : Value} {ty : TypeId} (hv : VR S g (.ptr o 0) v)
    (hr : r = (Instr.next v false ty >>= fun u => pure (.value u) : Sem Next).run C.P w) : Ran C B g s a w d r (.nxt o) := by
  intro s' hs
  simp only [Eff.st] at hs
  split at hs <;> try (cases hs; done)
  rename_i m since seen last ho
  split at hs <;> try (cases hs; done)
  rename_i clock es hmo
  split at hs <;> try (cases hs; done)
  rename_i hgone
  obtain ⟨b, hb, rfl⟩ := hv
  obtain ⟨b', bm, h1, h2, h3, h4⟩ := h.hp.1 o _ ho
  rw [hb] at h1
  cases h1
  obtain ⟨b2, arr, h5, h6, h7, h8⟩ := h.hp.1 m _ hmo
  rw [h4] at h5
  cases h5
  have hget : (getObj b).run C.P w = .ok (.mapIter (some bm) since seen.toArray last) w := by simp [getObj, Sem.run, h2]
  have hg1 : (!seen.toArray.isEmpty && !arr.isEmpty && arr.all fun e => decide (e.born ≥ last)) = false := by
    have := MR.all (p := fun n => decide (n ≥ last)) h8
    rw [← Array.all_toList, this.1]
    have he : arr.isEmpty = es.isEmpty := by rw [← this.2]; cases arr with | mk l => cases l <;> rfl
    rw [he]
    have hse : seen.toArray.isEmpty = seen.isEmpty := by cases seen <;> rfl
    rw [hse]
    simpa using hgone
  have hleft := MR.filter (p := fun n => !seen.contains n) h8
  have hold := MR.filter (p := fun n => decide (n < since)) hleft
  have hnew := MR.filter (p := fun n => decide (n ≥ since)) hleft
  have hsc : ∀ n, seen.toArray.contains n = seen.contains n := fun n => by simp
  have eo : ((arr.filter fun e => !seen.toArray.contains e.born).filter fun e => decide (e.born < since)).toList = (arr.toList.filter fun e => !seen.contains e.born).filter fun e => decide (e.born < since) := by simp
  have en : ((arr.filter fun e => !seen.toArray.contains e.born).filter fun e => decide (e.born ≥ since)).toList = (arr.toList.filter fun e => !seen.contains e.born).filter fun e => decide (e.born ≥ since) := by simp
  rw [← eo] at hold
  rw [← en] at hnew
  generalize hO : ((arr.filter fun e => !seen.toArray.contains e.born).filter fun e => decide (e.born < since)) = O at hold eo
  generalize hN : ((arr.filter fun e => !seen.toArray.contains e.born).filter fun e => decide (e.born ≥ since)) = N at hnew en
  have hm : (mnext since seen es = some none ∧ O = #[] ∧ N = #[]) ∨ (∃ n k v e, mnext since seen es = some (some (n, k, v)) ∧ O = #[e] ∧ N = #[] ∧ e.born = n ∧ VR S g k e.key ∧ VR S g v e.val) ∨ mnext since seen es = none := by
    unfold mnext
    simp only
    revert hold hnew
    generalize (es.filter fun e => !seen.contains e.1).filter (fun e => decide (e.1 < since)) = LO
    generalize (es.filter fun e => !seen.contains e.1).filter (fun e => decide (e.1 ≥ since)) = LN
    intro hold hnew
    match LO, LN, hold, hnew with
    | [], [], hold, hnew => exact .inl ⟨rfl, by apply Array.ext'; exact hold, by apply Array.ext'; exact hnew⟩
    | [(n, k, v)], [], hold, hnew =>
      obtain ⟨e, r, he, h10, h11, h12, h13⟩ := hold
      have hr0 : r = [] := h13
      subst hr0
      exact .inr (.inl ⟨n, k, v, e, rfl, by apply Array.ext'; exact he, by apply Array.ext'; exact hnew, h10, h11, h12⟩)
    | [], _ :: _, _, _ => exact .inr (.inr rfl)
    | [_], _ :: _, _, _ => exact .inr (.inr rfl)
    | _ :: _ :: _, _, _, _ => exact .inr (.inr rfl)
  rcases hm with ⟨hmn, rfl, rfl⟩ | ⟨n, k, x, e, hmn, rfl, rfl, he, hk, hx⟩ | hmn
  · rw [hmn] at hs
    cases hs
    have hrun : (Instr.next (.pointer (some ⟨b, 0, none⟩)) false ty).run C.P w = .ok (.tuple #[.bool false]) w := by
      simp only [Instr.next, Sem.run_bind, hget, Result.andThen_ok, MapKept.run_getObj_map h6, hg1, Bool.false_eq_true, if_false, hO, hN]
      simp [Question.forced]
    exact ⟨_, w, S, g, .inl (by rw [hr, Sem.run_bind, hrun]; rfl), fun _ _ => .inl rfl, h.put hd ⟨_, rfl, rfl, ⟨.bool false, _, rfl, rfl, trivial⟩⟩⟩
  · rw [hmn] at hs
    cases hs
    have hset : (setObj b (.mapIter (some bm) since (seen ++ [e.born]).toArray clock)).run C.P w = .ok () { w with heap := w.heap.setIfInBounds b (.mapIter (some bm) since (seen ++ [e.born]).toArray clock) } := by
      simp [setObj, Sem.run, h2]
    have hrun : (Instr.next (.pointer (some ⟨b, 0, none⟩)) false ty).run C.P w = .ok (.tuple #[.bool true, e.key, e.val]) { w with heap := w.heap.setIfInBounds b (.mapIter (some bm) since (seen ++ [e.born]).toArray clock) } := by
      simp only [Instr.next, Sem.run_bind, hget, Result.andThen_ok, MapKept.run_getObj_map h6, hg1, Bool.false_eq_true, if_false, hO, hN]
      simp [Question.forced, hset]
    have hbo : blk g o = some b := by simp [blk, hb]
    have hs2 := MapKept.heap_set (w := w) (o' := .mapIter (some bm) since (seen ++ [e.born]).toArray clock) h2
    have h9 : SR C B S g { s with hp := (o, .iter m since (seen ++ [n]) clock) :: s.hp } a { w with heap := w.heap.setIfInBounds b (.mapIter (some bm) since (seen ++ [e.born]).toArray clock) } := by
      refine h.step (x := o) (o' := .iter m since (seen ++ [n]) clock) (xb := some b) (is := s.ids) (SLe.refl S) (h.good.keep (SLe.refl S) fun b' p hp => .inl ⟨hp, ?_⟩) (by simp) (fun _ _ => .inl rfl) (fun _ _ => rfl)
        (fun b' hb' => ⟨_, ho, by cases hb'; exact hbo⟩) (fun b' _ hne => ⟨?_, rfl⟩) (show HOok _ _ _ _ (.iter m since (seen ++ [n]) clock) from ⟨b, bm, hb, by rw [← he]; simpa using hs2.1, h3, h4⟩) (fun b' hb' => .inl (by rw [hbo] at hb'; exact hb')) (fun _ h => h) (fun _ h1 h2 => absurd h1 h2) (.inl ⟨_, ho⟩)
      · exact hs2.2 b' (fun e => by subst e; rw [h3] at hp; cases hp)
      · exact hs2.2 b' (fun e => hne (by rw [e]))
    have h10 := h9.put (d := d) (x := .tuple [.bool true, k, x]) (v := .tuple #[.bool true, e.key, e.val]) hd ⟨_, rfl, rfl, ⟨.bool true, _, rfl, rfl, ⟨e.key, _, rfl, hk, ⟨e.val, _, rfl, hx, trivial⟩⟩⟩⟩
    refine ⟨_, _, S, g, .inl (by rw [hr, Sem.run_bind, hrun]; rfl), fun _ _ => .inl rfl, ?_⟩
    cases d <;> exact h10
  · rw [hmn] at hs; cases hs

theorem Ran.newsit (h : SR C B S g s a w) (hd : dstOk B.nt d = true) {o : Nat} {t : TypeId} {l : List UInt8} (ht : C.P.underlying t = some .string)
    (hr : r = (Instr.range t (.string ⟨l.toArray⟩) >>= fun u => pure (.value u) : Sem Next).run C.P w) : Ran C B g s a w d r (.newsit o l) := by
  intro s' hs
  simp only [Eff.st] at hs
  split at hs
  · rename_i hf
    cases hs
    obtain ⟨hf, hoc⟩ := h.free hf
    have hno := h.good.none_size
    have h5 : SR C B S (Abs.upd g o (.obj w.heap.size)) { s with hp := (o, .sit l 0) :: s.hp, ids := o :: s.ids } a (w.alloc (.stringIter ⟨l.toArray⟩ 0)) := by
      refine h.step (x := o) (o' := .sit l 0) (xb := none) (SLe.refl S) (h.good.keep (SLe.refl S) fun b p hp => .inl ⟨hp, ?_⟩) (by simp) (gle_upd hf) (fun i hi => by simp [Abs.upd, hi])
        (fun _ hb => by cases hb) (fun b hb _ => ⟨heap_alloc_lt w _ b hb, rfl⟩) (show HOok _ _ _ _ (.sit l 0) from ⟨w.heap.size, by simp [Abs.upd], heap_alloc_size w _, hno⟩) (fun b hb => .inr (by simp [blk, Abs.upd] at hb; omega)) (fun _ h => List.mem_cons_of_mem _ h) (upd_new hoc) (.inr hf)
      obtain ⟨c, E', fr, hh, _⟩ := h.good.1 b p hp
      exact heap_alloc_lt w _ b (Array.getElem?_eq_some_iff.1 hh).1
    have h6 := h5.put (d := d) (x := .ptr o 0) (v := .pointer (some ⟨w.heap.size, 0, none⟩)) hd ⟨_, by simp [Abs.upd], rfl⟩
    refine ⟨.pointer (some ⟨w.heap.size, 0, none⟩), w.alloc (.stringIter ⟨l.toArray⟩ 0), S, Abs.upd g o (.obj w.heap.size), .inl ?_, gle_upd hf, ?_⟩
    · rw [hr]; simp [Instr.range, run_underlying ht]
    · cases d <;> exact h6
  · cases hs
theorem Ran.snxt (h : SR C B S g s a w) (hd : dstOk B.nt d = true) {o : Nat} {v : Value} {ty : TypeId} (hv : VR S g (.ptr o 0) v)
    (hr : r = (Instr.next v true ty >>= fun u => pure (.value u) : Sem Next).run C.P w) : Ran C B g s a w d r (.snxt o) := by
  intro s' hs
  simp only [Eff.st] at hs
  split at hs <;> try (cases hs; done)
  rename_i l pos ho
  obtain ⟨b, hb, rfl⟩ := hv
  obtain ⟨b', h1, h2, h3⟩ := h.hp.1 o _ ho
  rw [hb] at h1
  cases h1
  have hget : (getObj b).run C.P w = .ok (.stringIter ⟨l.toArray⟩ pos) w := by simp [getObj, Sem.run, h2]
  have hsz : (⟨l.toArray⟩ : ByteArray).size = l.length := rfl
  by_cases hp : pos < l.length
  · simp only [hp, if_true, Option.some.injEq] at hs
    subst hs
    generalize hD : Utf8.decode ⟨l.toArray⟩ pos = D
    obtain ⟨c, wd⟩ := D
    have hset : (setObj b (.stringIter ⟨l.toArray⟩ (pos + wd))).run C.P w = .ok () { w with heap := w.heap.setIfInBounds b (.stringIter ⟨l.toArray⟩ (pos + wd)) } := by
      simp [setObj, Sem.run, h2]
    have hrun : (Instr.next (.pointer (some ⟨b, 0, none⟩)) true ty).run C.P w = .ok (.tuple #[.bool true, .int .i64 pos, .int .i32 c]) { w with heap := w.heap.setIfInBounds b (.stringIter ⟨l.toArray⟩ (pos + wd)) } := by
      simp [Instr.next, Sem.run_bind, hget, hsz, hp, hD, hset, goInt]
    have hbo : blk g o = some b := by simp [blk, hb]
    have hs2 := MapKept.heap_set (w := w) (o' := .stringIter ⟨l.toArray⟩ (pos + wd)) h2
    have h9 : SR C B S g { s with hp := (o, .sit l (pos + wd)) :: s.hp } a { w with heap := w.heap.setIfInBounds b (.stringIter ⟨l.toArray⟩ (pos + wd)) } := by
      refine h.step (x := o) (o' := .sit l (pos + wd)) (xb := some b) (is := s.ids) (SLe.refl S) (h.good.keep (SLe.refl S) fun b' p hp => .inl ⟨hp, ?_⟩) (by simp) (fun _ _ => .inl rfl) (fun _ _ => rfl)
        (fun b' hb' => ⟨_, ho, by cases hb'; exact hbo⟩) (fun b' _ hne => ⟨?_, rfl⟩) (show HOok _ _ _ _ (.sit l (pos + wd)) from ⟨b, hb, hs2.1, h3⟩) (fun b' hb' => .inl (by rw [hbo] at hb'; exact hb')) (fun _ h => h) (fun _ h1 h2 => absurd h1 h2) (.inl ⟨_, ho⟩)
      · exact hs2.2 b' (fun e => by subst e; rw [h3] at hp; cases hp)
      · exact hs2.2 b' (fun e => hne (by rw [e]))
    have h10 := h9.put (d := d) (x := .tuple [.bool true, .int .i64 pos, .int .i32 c]) (v := .tuple #[.bool true, .int .i64 pos, .int .i32 c]) hd ⟨_, rfl, rfl, ⟨.bool true, _, rfl, rfl, ⟨_, _, rfl, rfl, ⟨_, _, rfl, rfl, trivial⟩⟩⟩⟩
    refine ⟨_, _, S, g, .inl (by rw [hr, Sem.run_bind, hrun]; rfl), fun _ _ => .inl rfl, ?_⟩
    cases d <;> exact h10
  · simp only [hp, if_false, Option.some.injEq] at hs
    subst hs
    have hrun : (Instr.next (.pointer (some ⟨b, 0, none⟩)) true ty).run C.P w = .ok (.tuple #[.bool false]) w := by
      simp [Instr.next, Sem.run_bind, hget, hsz, hp]
    exact ⟨_, w, S, g, .inl (by rw [hr, Sem.run_bind, hrun]; rfl), fun _ _ => .inl rfl, h.put hd ⟨_, rfl, rfl, ⟨.bool false, _, rfl, rfl, trivial⟩⟩⟩

theorem MR.find {n : Nat} : ∀ {es : List (Nat × V × V)} {l : List MapEntry} {x : Nat × V × V}, MR S g es l → es.find? (fun e => e.1 == n) = some x → ∃ e, l.find? (fun e => e.born == n) = some e ∧ VR S g x.2.1 e.key ∧ VR S g x.2.2 e.val
  | [], l, x, h, hx => by simp at hx
  | (m, k, v) :: es, l, x, h, hx => by
    obtain ⟨e, r, rfl, h0, h1, h2, h3⟩ := h
    by_cases hm : m = n
    · have hb : (m == n) = true := by simpa using hm
      rw [List.find?_cons_of_pos (by simpa using hm)] at hx
      cases hx
      exact ⟨e, List.find?_cons_of_pos (by rw [h0]; simpa using hm), h1, h2⟩
    · rw [List.find?_cons_of_neg (by simpa using hm)] at hx
      obtain ⟨e', h4, h5⟩ := MR.find h3 hx
      exact ⟨e', by rw [List.find?_cons_of_neg (by rw [h0]; simpa using hm)]; exact h4, h5⟩

theorem Ran.ent (h : SR C B S g s a w) (hd : dstOk B.nt d = true) {o : Nat} {v : Value} (hv : VR S g (.ptr o 0) v)
    (hr : r = (Instr.entry v >>= fun u => pure (.value u) : Sem Next).run C.P w) : Ran C B g s a w d r (.ent o) := by
  intro s' hs
  simp only [Eff.st] at hs
  split at hs <;> try (cases hs; done)
  rename_i m since seen last ho
  split at hs <;> try (cases hs; done)
  rename_i clock es hmo
  split at hs <;> try (cases hs; done)
  rename_i hcl
  split at hs <;> try (cases hs; done)
  rename_i n hn
  split at hs <;> try (cases hs; done)
  rename_i n' k x hf
  cases hs
  subst hcl
  obtain ⟨b, hb, rfl⟩ := hv
  obtain ⟨b', bm, h1, h2, h3, h4⟩ := h.hp.1 o _ ho
  rw [hb] at h1
  cases h1
  obtain ⟨b2, arr, h5, h6, h7, h8⟩ := h.hp.1 m _ hmo
  rw [h4] at h5
  cases h5
  have hget : (getObj b).run C.P w = .ok (.mapIter (some bm) since seen.toArray clock) w := by simp [getObj, Sem.run, h2]
  obtain ⟨e, he, hk, hx⟩ := h8.find hf
  have hback : seen.toArray.back? = some n := by simpa [Array.back?, List.getLast?_eq_getElem?] using hn
  have hfind : arr.find? (fun e => e.born == n) = some e := by rw [← Array.find?_toList]; exact he
  have hrun : (Instr.entry (.pointer (some ⟨b, 0, none⟩))).run C.P w = .ok (.tuple #[e.key, e.val]) w := by
    simp only [Instr.entry, Sem.run_bind, hget, Result.andThen_ok, hback, MapKept.run_getObj_map h6, bne_self_eq_false, Bool.false_eq_true, if_false, hfind, Sem.run_pure]
  exact ⟨_, w, S, g, .inl (by rw [hr, Sem.run_bind, hrun]; rfl), fun _ _ => .inl rfl, h.put hd ⟨_, rfl, rfl, ⟨e.key, _, rfl, hk, ⟨e.val, _, rfl, hx, trivial⟩⟩⟩⟩
end
end Go.Abs

