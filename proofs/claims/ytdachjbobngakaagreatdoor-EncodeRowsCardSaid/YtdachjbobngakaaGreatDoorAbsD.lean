/-
  A machine for calls on given values, proved sound; contracts with objects; loops; plain laws of numbers and bytes. No program. No conditions beyond those in the statements.
-/
import Derived.Test.YtdachjbobngakaaGreatDoorAbsC
namespace Go.Abs
open Go
/-! A machine that runs compiled code on abstract states: for calls on given values. -/

def binOk : BinOp → V → V → Bool
  | .quo, .int _ _, .int _ b => !(b == 0)
  | .rem, .int _ _, .int _ b => !(b == 0)
  | .shl, .int _ _, .int _ b => decide (0 ≤ b)
  | .shr, .int _ _, .int _ b => decide (0 ≤ b)
  | .add, .str a, .str b => decide (a.length + b.length ≤ 9223372036854775807)
  | _, _, _ => true

theorem vbin_ok {op : BinOp} {x y z : V} {p : Prop} (h : vbin op x y = some (p, z)) (hok : binOk op x y = true) : p := by
  unfold vbin at h
  split at h
  · split at h
    · cases op <;> simp only [shop, Option.some.injEq, Prod.mk.injEq, reduceCtorEq] at h <;> obtain ⟨rfl, _⟩ := h <;> simpa [binOk] using hok
    · split at h
      · cases op <;> simp only [iop, Option.some.injEq, Prod.mk.injEq, reduceCtorEq] at h <;> obtain ⟨rfl, _⟩ := h <;> first | trivial | simpa [binOk] using hok
      · cases h
  · cases op <;> simp only [sop, Option.some.injEq, Prod.mk.injEq, reduceCtorEq] at h <;> obtain ⟨rfl, _⟩ := h <;> first | trivial | simpa [binOk] using hok
  · cases h

def AOp.ok : AOp → List V → Bool
  | .box, [x] => elemOk x
  | .boxs, [x] => elemOk x && x.idf
  | .apps _ bytes, [.sl _ _ xs, .str l] => decide (xs.length + l.length ≤ 1099511627776) && decide ((xs.length + l.length) * bytes ≤ 140737488355328)
  | .apps _ bytes, [.raw _, .str l] => decide (l.length ≤ 1099511627776) && decide (l.length * bytes ≤ 140737488355328)
  | .mget kd _ _, [_, k] => isKeyV kd k
  | .litp _ _, xs => xs.all elemNt
  | .sarr n, [.cp cs off, .int _ l, .int _ h] => decide (0 ≤ l) && decide (l ≤ h) && decide (h ≤ n) && decide (off + n ≤ cs.length)
  | .sarr n, [.ptr _ _, .int _ l, .int _ h] => decide (0 ≤ l) && decide (l ≤ h) && decide (h ≤ n) && decide (l < n)
  | .mput kd, [_, k, _] => isKeyV kd k
  | .idxs, [.str s, .int _ i] => decide (0 ≤ i) && decide (i < s.length)
  | .load n _, [.cp cs off] => decide (off + n ≤ cs.length)
  | .store n, [.ptr _ _, x] => decide (x.cells.length = n) && elemOk x
  | .bin op, [x, y] => binOk op x y
  | .sstr true true, [.str s, .int _ l, .int _ h] => decide (0 ≤ l) && decide (l ≤ h) && decide (h ≤ s.length)
  | .sstr true false, [.str s, .int _ l] => decide (0 ≤ l) && decide (l ≤ s.length)
  | .sstr false true, [.str s, .int _ h] => decide (0 ≤ h) && decide (h ≤ s.length)
  | .ssl _ true true, [.sl _ _ xs, .int _ l, .int _ h] => decide (0 ≤ l) && decide (l ≤ h) && decide (h ≤ xs.length)
  | .ssl _ true false, [.sl _ _ xs, .int _ l] => decide (0 ≤ l) && decide (l ≤ xs.length)
  | .ssl _ false true, [.sl _ _ xs, .int _ h] => decide (0 ≤ h) && decide (h ≤ xs.length)
  | .fld off n _, [.agg cs] => decide (off + n ≤ cs.length)
  | .idxa _, [.sl _ _ xs, .int _ i] => decide (0 ≤ i) && decide (i < xs.length)
  | .idxa _, [.ls _ _ _ n, .int _ i] => decide (0 ≤ i) && decide (i < n)
  | .idxarr n _, [_, .int _ i] => decide (0 ≤ i) && decide (i < n)
  | .ext i, [.tuple vs] => decide (i < vs.length)
  | .bld _ _, xs => xs.all elemNt
  | .lit _ k, xs => (xs.map V.strip).all (fun x => x.cells.length = k && elemOk x && x.idf)
  | .app _ _ bytes, [.sl _ _ xs, .sl _ _ ys] => ys.all elemOk && decide (xs.length + ys.length ≤ 1099511627776) && decide ((xs.length + ys.length) * bytes ≤ 140737488355328)
  | .app _ _ bytes, [.raw _, .sl _ _ ys] => ys.all elemOk && decide (ys.length ≤ 1099511627776) && decide (ys.length * bytes ≤ 140737488355328)
  | _, _ => true

set_option maxHeartbeats 1000000 in
theorem AOp.ok_sound {d : Nat} {o : AOp} {vs : List V} {p : Prop} {e : Eff} (ha : o.act d vs = some (p, e)) (hok : o.ok vs = true) : p := by
  unfold AOp.act at ha
  split at ha <;> (try (cases ha; done)) <;> (try split at ha) <;> (try (cases ha; done)) <;> simp only [Option.some.injEq, Prod.mk.injEq, Option.map_eq_some_iff] at ha <;> first
    | (obtain ⟨rfl, rfl⟩ := ha; first | trivial | simpa [AOp.ok, and_assoc] using hok)
    | (obtain ⟨_, _, rfl, rfl⟩ := ha; first | trivial | (exact ⟨trivial, by simpa [AOp.ok] using hok⟩))
    | skip
  all_goals (obtain ⟨q, hq, rfl, rfl⟩ := ha; exact vbin_ok (z := q.2) (p := q.1) (by simpa using hq) (by simpa [AOp.ok] using hok))
end Go.Abs

namespace Go.Abs
open Go

abbrev CallF := FuncId → List V → List (Nat × HO) → Nat → Option (V × List (Nat × HO) × Nat)

/-- The newest entry hides the elder ones: those go. -/
def nrmL {α : Type} : List (Nat × α) → List (Nat × α)
  | [] => []
  | (k, v) :: r => (k, v) :: rm r k
def nrm (s : St) : St := { s with fr := nrmL s.fr, hp := nrmL s.hp }

def evG (s : St) : Option (Nat × Bool) → Option Bool
  | none => some true
  | some (t, w) => match lk s.fr t with
    | some (.bool b) => some (b == w)
    | some (.tuple []) => some false
    | _ => none

def evOp (C : Cx) (dd : Nat) (s : St) (dst : Option Nat) (o : AOp) (xs : List AX) : Option St :=
  match aevs C s xs with
  | some vs => match o.act dd vs with
    | some (_, e) => if o.ok vs then e.st dst s else none
    | none => none
  | none => none

def evCall (call : CallF) (s : St) (dst : Option Nat) (f : FuncId) (vs : List V) : Option St :=
  match call f vs s.hp s.cn with
  | some (r, hp', cn') => if s.nx + s.sz ≤ s.cn then some { (s.put dst r) with hp := hp', cn := cn' } else none
  | none => none

def evItem (C : Cx) (call : CallF) (dd : Nat) (s : St) : AI → Option St
  | .op dst _ o xs => evOp C dd s dst o xs
  | .call dst _ f xs => match aevs C s xs with
    | some vs => evCall call s dst f vs
    | none => none
  | .dyn dst _ x xs => match aev C s x, aevs C s xs with
    | some (.fn (.func f) fs cs), some vs => if isFn C.P f then evCall call s dst f (fs ++ vs ++ cs) else none
    | _, _ => none
  | .bad _ _ => none

def evOne (C : Cx) (call : CallF) (dd : Nat) (s : St) (it : AI) : Option St :=
  match evG s it.gd with
  | some true => evItem C call dd s it
  | some false => some (s.put it.dst (.tuple []))
  | none => none

def evR (C : Cx) (call : CallF) : Nat → List AI → St → Option St
  | _, [], s => some s
  | j, it :: is, s => match evOne C call (s.nx + j) s it with
    | some s' => evR C call (j + 1) is (nrm s')
    | none => none

/-- What a call must do. -/
def CallOK (C : Cx) (f : FuncId) (vs : List V) (hp : List (Nat × HO)) (cn : Nat) (r : V) (hp' : List (Nat × HO)) (cn' : Nat) : Prop :=
  CallC C f vs hp cn cn' fun r' hp'' => r' = r ∧ hp'' = hp'
def CallFOK (C : Cx) (call : CallF) : Prop := ∀ f vs hp cn r hp' cn', call f vs hp cn = some (r, hp', cn') → CallOK C f vs hp cn r hp' cn'

theorem lk_nrmL {α : Type} (l : List (Nat × α)) (i : Nat) : lk (nrmL l) i = lk l i := by
  cases l with
  | nil => rfl
  | cons p r =>
    obtain ⟨k, v⟩ := p
    simp only [nrmL, lk, lk_rm]
    by_cases h : k = i <;> simp [h]
theorem nrm_eqv (s : St) : Eqv s (nrm s) := ⟨fun t => lk_nrmL _ t, fun i => lk_nrmL _ i, rfl, rfl, rfl, fun _ => .rfl⟩

section
variable {C : Cx} {B : Base} {S : Seal} {g : Locs} {s s' : St} {a : Act} {w : World} {call : CallF}

theorem SR.eqv (h : SR C B S g s a w) (hq : Eqv s s') : SR C B S g s' a w := h.le hq.le ⟨by rw [hq.nx, hq.cn]; exact h.lo, by rw [hq.nx, hq.sz, hq.cn]; exact h.rm⟩

theorem owned_congr {hp hp' : List (Nat × HO)} (h : ∀ i, lk hp i = lk hp' i) (g : Locs) : owned g hp = owned g hp' := by
  funext b; simp only [owned, h]
theorem Out.congr {hp hp' : List (Nat × HO)} {N : Nat → Prop} {Q : V → List (Nat × HO) → Prop} {v : Value} {w' : World} (h : ∀ i, lk hp i = lk hp' i) (ho : Out C S g w hp N Q v w') : Out C S g w hp' N Q v w' := by
  obtain ⟨r, h1, S', g', a1, a2, a3, a4, a5, a6, a7, a8, a9, a10⟩ := ho
  have he := owned_congr h g
  refine ⟨r, h1, S', g', a1, a2, a3, a4, by rw [← he]; exact a5, a6, fun i hi hn => a7 i hi (by rw [h i]; exact hn), fun i o ho => ?_, a9, fun i o b h1 h2 => by rw [← he]; exact a10 i o b h1 h2⟩
  have := a8 i o ho
  rwa [h i] at this

def keys (hp : List (Nat × HO)) : List Nat := hp.map (·.1)
theorem lk_keys {hp : List (Nat × HO)} {i : Nat} (h : i ∉ keys hp) : lk hp i = none := lk_none_of h
theorem lk_sub_keys (hp : List (Nat × HO)) (i : Nat) : lk (sub hp (keys hp)) i = lk hp i := by
  have key : ∀ (ks : List Nat), i ∈ ks → lk (sub hp ks) i = lk hp i := by
    intro ks
    induction ks with
    | nil => intro h; cases h
    | cons k ks ih =>
      intro hi
      simp only [sub]
      by_cases hk : k = i
      · subst hk
        split
        · rename_i o ho; simp [lk, ho]
        · rename_i ho
          by_cases hi2 : k ∈ ks
          · exact ih hi2
          · cases hl : lk (sub hp ks) k with
            | none => exact ho.symm
            | some o => exact absurd (lk_sub hl).2 hi2
      · have hi2 : i ∈ ks := by rcases List.mem_cons.1 hi with e | h; exact absurd e.symm hk; exact h
        split
        · simp only [lk, hk, if_false]; exact ih hi2
        · exact ih hi2
  by_cases hi : i ∈ keys hp
  · exact key _ hi
  · rw [lk_keys hi]
    cases hl : lk (sub hp (keys hp)) i with
    | none => rfl
    | some o => exact absurd (lk_sub hl).2 hi

theorem evCall_wp {K : St → Prop} {Q : Exit → Act → World → Prop} (hcall : CallFOK C call) {o : Oper} {f : FuncId} {vs : List V} {args : List Value} (h : SR C B S g s a w) (hd : dstOk B.nt o.dst = true) (hv : VRl S g vs args)
    (hr : (execOp a.eval o).run C.P w = .ok (.enter f args.toArray) w) (hev : evCall call s o.dst f vs = some s') (hK : K s') : o.wp C.P a w (lift1 C B K) Q := by
  unfold evCall at hev
  split at hev
  · rename_i r hp' cn' hc
    split at hev
    case isFalse => cases hev
    rename_i hsz
    cases hev
    obtain ⟨hcn, hA⟩ := hcall _ _ _ _ _ _ _ hc
    unfold Oper.wp
    rw [hr]
    simp only [Oper.upon]
    refine Calls.mono (hA S g w args h.good hv h.hp (fun i hi => (h.dom i hi).1)) ?_
    rintro e w' ⟨v, rfl, ho⟩
    have ho' := ho.congr (hp' := sub s.hp (keys s.hp)) (fun i => (lk_sub_keys s.hp i).symm)
    obtain ⟨r', hp'', S', g', ⟨rfl, rfl⟩, h1⟩ := h.call hd ho' (is := s.ids) (c := cn') (fun _ h => h) hcn (fun i hi => by have := hi.1; omega) (fun i hi => ⟨hi.2, fun _ h2 => by have := hi.1; omega⟩)
      (fun i hi => by
        cases hg : g i with
        | none => rfl
        | some x => have := (h.dom i (by rw [hg]; simp)).1; have := hi.1; omega)
    refine ⟨_, hK, S', g', h1.eqv ?_⟩
    refine ⟨fun _ => rfl, fun i => ?_, rfl, rfl, rfl, fun _ => by cases o.dst <;> exact .rfl⟩
    show lk hp'' i = lk (hp'' ++ del s.hp (keys s.hp)) i
    rw [lk_append]
    have : lk (del s.hp (keys s.hp)) i = none := by
      rw [lk_del']
      split
      · rfl
      · rename_i hi; exact lk_keys hi
    rw [this]
    cases lk hp'' i <;> rfl
  · cases hev

theorem evG_gdo {gd : Option (Nat × Bool)} {dst : Option Nat} {A : Prop} {K : St → Prop} {b : Bool} (h : evG s gd = some b) (h1 : b = true → A) (h2 : b = false → K (s.put dst (.tuple []))) : gdo s gd dst A K := by
  cases gd with
  | none => simp only [evG, Option.some.injEq] at h; exact h1 h.symm
  | some p =>
    obtain ⟨t, w⟩ := p
    simp only [evG] at h
    simp only [gdo]
    split at h
    · rename_i b' hb
      simp only [Option.some.injEq] at h
      rw [hb]
      refine ⟨fun e => h1 (by rw [← h, e]; simp), fun e => h2 (by rw [← h, e]; cases w <;> rfl)⟩
    · rename_i hb
      simp only [Option.some.injEq] at h
      rw [hb]
      exact h2 h.symm
    · cases h

theorem evOne_wp {ops : Array Oper} {K : St → Prop} {Q : Exit → Act → World → Prop} (hcall : CallFOK C call) {i : Nat} {o : Oper} {it : AI} {dd : Nat} (ho : ops[i]? = some o) (hc : compItem C.P ops o = some it) (h : SR C B S g s a w) (hd : dstOk B.nt o.dst = true)
    (hev : evOne C call dd s it = some s') (hK : K s') : wpOp C.P ops Q i (lift1 C B K) a w := by
  unfold evOne at hev
  split at hev
  case h_2 hg =>
    cases hev
    have hst : AStep C dd s K it := by cases it <;> exact evG_gdo hg (fun e => by cases e) (fun _ => hK)
    exact step_wp ho hc h hd hst
  case h_3 => cases hev
  case h_1 hg =>
    unfold compItem at hc
    split at hc
    · cases hc
    · rename_i gd hgd
      split at hc
      · rename_i f args ats hop
        split at hc
        · rename_i hf
          simp only [Option.map_eq_some_iff] at hc
          obtain ⟨xs, hxs, rfl⟩ := hc
          simp only [evItem] at hev
          split at hev
          · rename_i vs hvs
            refine gdo_wp (A := True) ho hgd h hd (evG_gdo hg (fun _ => trivial) (fun e => by cases e)) fun _ => ?_
            refine evCall_wp hcall h hd (compXs_ok h hxs hvs) ?_ hev hK
            have : (execOp a.eval o).run C.P w = (callFunc f (args.map a.eval)).run C.P w := by
              obtain ⟨dst, op, ty, pos, after, guard⟩ := o
              simp only at hop
              subst hop
              simp [execOp, resolve, Act.eval, Deferred.ofValue, invoke]
            rw [this, run_enter hf, arr_map]
          · cases hev
        · split at hc
          · rename_i ao os hop'
            simp only [Option.map_eq_some_iff] at hc
            obtain ⟨xs, hxs, rfl⟩ := hc
            simp only [evItem, evOp] at hev
            split at hev
            · rename_i vs hvs
              split at hev
              · rename_i p e hact
                split at hev
                · rename_i hok
                  refine gdo_wp ho hgd h hd (evG_gdo (A := actP C dd s K o.dst ao xs) hg (fun _ => ?_) (fun e => by cases e)) fun hA => op_wp hop' hxs h hd hA
                  simp only [actP, hvs, hact, hev]
                  exact ⟨AOp.ok_sound hact hok, hK⟩
                · cases hev
              · cases hev
            · cases hev
          · cases hc
            cases hev
      · rename_i y args ats _ hop
        split at hc
        · rename_i x xs hx hxs
          cases hc
          simp only [evItem] at hev
          split at hev
          · rename_i f fs cs vs hv hvs
            split at hev
            · rename_i hf
              refine gdo_wp (A := True) ho hgd h hd (evG_gdo hg (fun _ => trivial) (fun e => by cases e)) fun _ => ?_
              obtain ⟨ws, us, hy, h1, h2, h3, h4⟩ := compX_ok h hx hv
              refine evCall_wp hcall h hd (((VRl.of_vrs h3 (by simpa using h1)).append (compXs_ok h hxs hvs)).append (VRl.of_vrs h4 (by simpa using h2))) ?_ hev hK
              have : (execOp a.eval o).run C.P w = (callFunc f ((ws ++ args.map a.eval) ++ us)).run C.P w := by
                obtain ⟨dst, op, ty, pos, after, guard⟩ := o
                simp only at hop
                subst hop
                simp [execOp, resolve, hy, Deferred.ofValue, invoke]
              rw [this, run_enter hf, arr_map3]
            · cases hev
          · cases hev
        · cases hc
      · split at hc
        · rename_i ao os hop
          simp only [Option.map_eq_some_iff] at hc
          obtain ⟨xs, hxs, rfl⟩ := hc
          simp only [evItem, evOp] at hev
          split at hev
          · rename_i vs hvs
            split at hev
            · rename_i p e hact
              split at hev
              · rename_i hok
                refine gdo_wp ho hgd h hd (evG_gdo (A := actP C dd s K o.dst ao xs) hg (fun _ => ?_) (fun e => by cases e)) fun hA => op_wp hop hxs h hd hA
                simp only [actP, hvs, hact, hev]
                exact ⟨AOp.ok_sound hact hok, hK⟩
              · cases hev
            · cases hev
          · cases hev
        · cases hc
          cases hev
end
end Go.Abs

namespace Go.Abs
open Go

mutual
def V.idl : V → List Nat
  | .ptr o _ => [o]
  | .mp o => [o]
  | .ls o _ _ _ => [o]
  | .sl (some n) _ _ => [n]
  | .agg cs => idlL cs
  | .tuple cs => idlL cs
  | .iface _ x => x.idl
  | .fn _ fs cs => idlL fs ++ idlL cs
  | _ => []
def idlL : List V → List Nat
  | [] => []
  | x :: xs => x.idl ++ idlL xs
end
def HO.idl : HO → List Nat
  | .cells cs => idlL cs
  | .tok _ _ _ => []
  | .map _ es => idlL (es.map (·.2.1)) ++ idlL (es.map (·.2.2))
  | .iter m _ _ _ => [m]
  | .sit _ _ => []
/-- Which objects lie behind these ids. -/
def reach (hp : List (Nat × HO)) : Nat → List Nat → List Nat → List Nat
  | 0, _, seen => seen
  | _ + 1, [], seen => seen
  | n + 1, i :: todo, seen => if seen.contains i then reach hp n todo seen else reach hp n ((match lk hp i with | some o => o.idl | none => []) ++ todo) (i :: seen)

def evDc (call : CallF) (s : St) (dst : Option Nat) (f : FuncId) (vs : List V) : Option (List Nat × D) :=
  if idfL vs then match call f vs [] 0 with
    | some (r, _, _) => if r.idf then some ([], ⟨dst.map (·, r), [], [], [], none⟩) else none
    | none => none
  else
    let ks := reach s.hp 1000 (idlL vs) []
    match call f vs (sub s.hp ks) s.cn with
    | some (r, hp', cn') => some (ks, ⟨dst.map (·, r), ks, hp', [], some cn'⟩)
    | none => none

def evD (C : Cx) (call : CallF) (dd : Nat) (s : St) (it : AI) : Option (List Nat × List Nat × D) :=
  match evG s it.gd with
  | none => none
  | some false => some (gslot it.gd, [], ⟨it.dst.map (·, .tuple []), [], [], [], none⟩)
  | some true => match it with
    | .op dst gd o xs => match aevs C s xs with
      | some vs => match o.act dd vs with
        | some (_, e) => if o.ok vs then match e.dl dst s with
          | some δ => some (gslot gd ++ slots xs, e.hs, δ)
          | none => none
          else none
        | none => none
      | none => none
    | .call dst gd f xs => match aevs C s xs with
      | some vs => match evDc call s dst f vs with
        | some (hs, δ) => some (gslot gd ++ slots xs, hs, δ)
        | none => none
      | none => none
    | .dyn dst gd x xs => match aev C s x, aevs C s xs with
      | some (.fn (.func f) fs cs), some vs => if isFn C.P f then match evDc call s dst f (fs ++ vs ++ cs) with
        | some (hs, δ) => some (gslot gd ++ slots [x] ++ slots xs, hs, δ)
        | none => none
        else none
      | _, _ => none
    | _ => none

def evT (C : Cx) (call : CallF) (an : List (List Nat)) (base : Nat) : Nat → List AI → St → List En → Option St
  | _, [], s, _ => some s
  | j, it :: is, s, dn => match evD C call (base + j) s it with
    | some (rs, hs, δ) => if chk an j ⟨j, it, rs, hs, δ⟩ dn then evT C call an base (j + 1) is (δ.app s) (⟨j, it, rs, hs, δ⟩ :: dn) else none
    | none => none

inductive AE where
  | norm
  | exit (id : Nat)
  | ret
def AE.x : AE → Exit
  | .norm => .normal
  | .exit id => .exit id
  | .ret => .ret

def evC (C : Cx) (call : CallF) : Nat → ACode → St → Option (AE × St)
  | 0, _, _ => none
  | m + 1, ac, s => match ac with
    | .skip => some (.norm, s)
    | .ret => some (.ret, s)
    | .exit id => some (.exit id, s)
    | .seq x y => match evC C call m x s with
      | some (.norm, s') => evC C call m y s'
      | r => r
    | .cond c x y => match aev C s c with
      | some (.bool true) => evC C call m x s
      | some (.bool false) => evC C call m y s
      | _ => none
    | .block id x => match evC C call m x s with
      | some (.exit i, s') => if i = id then some (.norm, s') else some (.exit i, s')
      | r => r
    | .loop x => match evC C call m x s with
      | some (.norm, s') => evC C call m (.loop x) s'
      | r => r
    | .reg is => match evR C call 0 is (s.enter is.length) with
      | some s' => some (.norm, s')
      | none => none
    | .draw is an => match evT C call an s.cn 0 is (s.enter is.length) [] with
      | some s' => some (.norm, nrm s')
      | none => none
    | .bad => none

def evF (C : Cx) (tab : List (Nat × AF)) (ext : List (Nat × (List V → Option V))) (m : Nat) : Nat → CallF
  | 0 => fun _ _ _ _ => none
  | n + 1 => fun f vs hp cn => match lk tab f with
    | some F => if vs.length ≤ F.nt then match evC C (evF C tab ext m n) m F.body { fr := frs 0 vs, hp := hp, nx := cn, sz := 0, cn := cn, ids := [] } with
      | some (.exit _, _) => none
      | some (_, s') => match resV C.P s' F.res with
        | some r => if cn ≤ s'.cn then some (r, s'.hp, s'.cn) else none
        | none => none
      | none => none
      else none
    | none => match lk ext f with
      | some h => match h vs with
        | some r => some (r, hp, cn)
        | none => none
      | none => none

section
variable {C : Cx} {B : Base} {S : Seal} {g : Locs} {s s' : St} {a : Act} {w : World} {call : CallF}

theorem evR_wp {ops : Array Oper} {K : St → Prop} {Q : Exit → Act → World → Prop} (hcall : CallFOK C call) (hQ : ∀ a w, lift1 C B K a w → Q .normal a w) (hd : ∀ o ∈ ops.toList, dstOk B.nt o.dst = true) :
    ∀ (l : List Oper) (j : Nat) (is : List AI), ops.toList.drop j = l → compItems C.P ops l = some is → ∀ {S g s s' a w}, SR C B S g s a w → evR C call j is s = some s' → K s' → wpOps C.P ops Q (List.range' j l.length) a w
  | [], j, is, _, hc, S, g, s, s', a, w, h, hev, hK => by
    simp only [compItems, Option.some.injEq] at hc
    subst hc
    simp only [evR, Option.some.injEq] at hev
    subst hev
    exact hQ a w ⟨s, hK, S, g, h⟩
  | o :: l, j, is, hl, hc, S, g, s, s', a, w, h, hev, hK => by
    simp only [compItems] at hc
    split at hc
    · rename_i it is' h1 h2
      cases hc
      have hj : ops[j]? = some o := by
        have := congrArg List.head? hl
        simpa using this
      have hl' : ops.toList.drop (j + 1) = l := by
        have := congrArg List.tail hl
        simpa using this
      simp only [evR] at hev
      split at hev
      · rename_i s1 hs1
        simp only [List.length_cons, List.range'_succ]
        rw [wpOps_cons]
        refine wpOp_mono ?_ (evOne_wp (K := fun t => t = s1) (Q := Q) hcall hj h1 h (hd o (by rw [← List.take_append_drop j ops.toList, hl]; simp)) hs1 rfl)
        rintro a' w' ⟨t, rfl, S', g', h'⟩
        exact evR_wp hcall hQ hd l (j + 1) is' hl' h2 (h'.eqv (nrm_eqv _)) hev hK
      · cases hev
    · cases hc

theorem VRl_idf {vs : List V} {args : List Value} {g g' : Locs} (h : VRl S g vs args) (hi : idfL vs = true) : VRl S g' vs args := by
  induction h with
  | nil => exact .nil
  | cons h1 _ ih =>
    simp only [idfL, Bool.and_eq_true] at hi
    exact .cons (VR.idf _ hi.1 h1) (ih hi.2)

theorem AFn.of_ok {f : FuncId} {vs : List V} {r : V} {hp' : List (Nat × HO)} {cn' : Nat} (h : CallOK C f vs [] 0 r hp' cn') (hi : idfL vs = true) (hr : r.idf = true) : AFn C f vs r := by
  intro S g w args hG hv _ _
  refine Calls.mono (h.2 S (fun _ => none) w args hG (VRl_idf hv hi) ⟨fun i o hi => by simp [lk] at hi, fun i j oi oj b hi => by simp [lk] at hi⟩ (fun i hi => absurd rfl hi)) ?_
  rintro e w' ⟨v, rfl, r', hp'', S', g', ⟨rfl, rfl⟩, a2, a3, a4, a5, a6, a7, a8, a9, a10⟩
  refine ⟨v, rfl, r', [], S', g, ⟨rfl, rfl⟩, VR.idf _ hr a2, a3, ⟨fun i o hi => by simp [lk] at hi, fun i j oi oj b hi => by simp [lk] at hi⟩, ⟨a5.size, a5.sld, fun b hb hn => a5.old b hb ?_, a5.kept⟩, fun _ _ => .inl rfl, fun _ _ _ => rfl, fun i o hi => by simp [lk] at hi, fun i hi => .inl hi, fun i o b hi => by simp [lk] at hi⟩
  rintro ⟨i, o, hi, _⟩
  simp [lk] at hi

theorem sub_congr {hp hp' : List (Nat × HO)} : ∀ {ks : List Nat}, (∀ i ∈ ks, lk hp' i = lk hp i) → sub hp' ks = sub hp ks
  | [], _ => rfl
  | k :: ks, h => by
    simp only [sub, h k (by simp), sub_congr (ks := ks) fun i hi => h i (by simp [hi])]

theorem evDc_callP (hcall : CallFOK C call) {dst : Option Nat} {f : FuncId} {vs : List V} {hs : List Nat} {δ : D} (h : evDc call s dst f vs = some (hs, δ)) {dd : Nat} {s' : St}
    (h2 : ∀ i ∈ hs, lk s'.hp i = lk s.hp i) (h4 : δ.cn ≠ none → s'.cn = s.cn) {K : St → Prop} (hK : K (δ.app s')) : δ.ids = [] ∧ callP C dd s' K dst f vs := by
  unfold evDc at h
  split at h
  · rename_i hi
    split at h
    · rename_i r hp' cn' hc
      split at h
      · rename_i hr
        cases h
        refine ⟨rfl, .inl ⟨r, AFn.of_ok (hcall _ _ _ _ _ _ _ hc) hi hr, ?_⟩⟩
        have : D.app ⟨dst.map (·, r), [], [], [], none⟩ s' = s'.put dst r := by cases dst <;> rfl
        rw [← this]; exact hK
      · cases h
    · cases h
  · simp only at h
    split at h
    · rename_i r hp' cn' hc
      cases h
      refine ⟨rfl, .inr (.inr ⟨reach s.hp 1000 (idlL vs) [], cn', fun r' hp'' => r' = r ∧ hp'' = hp', ?_, ?_⟩)⟩
      · rw [sub_congr h2, h4 (by simp)]
        exact hcall _ _ _ _ _ _ _ hc
      · rintro r' hp'' ⟨rfl, rfl⟩
        refine cast (congrArg K ?_) hK
        cases dst <;> rfl
    · cases h

theorem evD_snd (hcall : CallFOK C call) {dd j : Nat} {it : AI} {rs hs : List Nat} {δ : D} (h : evD C call dd s it = some (rs, hs, δ)) : Snd C dd s ⟨j, it, rs, hs, δ⟩ := by
  have gyes : ∀ {gd : Option (Nat × Bool)}, evG s gd = some true → gok s gd = true := fun {gd} hg => by
    cases gd with
    | none => rfl
    | some p =>
      obtain ⟨t, w⟩ := p
      simp only [evG] at hg
      simp only [gok]
      split at hg <;> simp_all
  have gnot : ∀ {gd : Option (Nat × Bool)}, evG s gd = some false → gno s gd = true := fun {gd} hg => by
    cases gd with
    | none => simp [evG] at hg
    | some p =>
      obtain ⟨t, w⟩ := p
      simp only [evG] at hg
      simp only [gno]
      split at hg
      · rename_i b hb
        rw [hb]
        cases b <;> cases w <;> simp_all
      · rename_i hb; rw [hb]
      · cases hg
  unfold evD at h
  split at h
  · cases h
  · rename_i hg
    cases h
    refine ⟨fun d hd => (by cases hd), fun s' h1 h2 h3 _ K' hK' => ?_⟩
    have hK2 : K' (s'.put it.dst (.tuple [])) := by
      have : D.app ⟨it.dst.map (·, .tuple []), [], [], [], none⟩ s' = s'.put it.dst (.tuple []) := by cases it.dst <;> rfl
      rw [← this]; exact hK'
    cases it <;> exact gdo_skip (gnot hg) h1 hK2
  · rename_i hg
    split at h
    · rename_i dst gd o xs
      split at h
      · rename_i vs hvs
        split at h
        · rename_i p e hact
          split at h
          · rename_i hok
            split at h
            · rename_i δ' hδ
              cases h
              refine ⟨Eff.dl_fresh hδ, fun s' h1 h2 h3 _ K' hK' => ?_⟩
              refine gdo_ok (gyes hg) (fun t ht => h1 t (by simp at ht ⊢; simp [ht])) ?_
              have hx' : aevs C s' xs = some vs := by rw [aevs_loc (s := s) fun t ht => h1 t (by simp [ht])]; exact hvs
              simp only [actP, hx', hact, Eff.dl_st (Eff.dl_loc hδ h2 h3)]
              exact ⟨AOp.ok_sound hact hok, hK'⟩
            · cases h
          · cases h
        · cases h
      · cases h
    · rename_i dst gd f xs
      split at h
      · rename_i vs hvs
        split at h
        · rename_i hs' δ' hc
          cases h
          refine ⟨fun d hd => ?_, fun s' h1 h2 h3 h4 K' hK' => ?_⟩
          · rw [(evDc_callP (C := C) (dd := 0) (K := fun _ => True) hcall hc (s' := s) (fun _ _ => rfl) (fun _ => rfl) trivial).1] at hd; cases hd
          · refine gdo_ok (gyes hg) (fun t ht => h1 t (by simp at ht ⊢; simp [ht])) ?_
            have hx' : aevs C s' xs = some vs := by rw [aevs_loc (s := s) fun t ht => h1 t (by simp [ht])]; exact hvs
            simp only [hx']
            exact (evDc_callP hcall hc h2 h4 hK').2
        · cases h
      · cases h
    · rename_i dst gd x xs
      split at h
      · rename_i f fs cs vs hv hvs
        split at h
        · rename_i hf
          split at h
          · rename_i hs' δ' hc
            cases h
            refine ⟨fun d hd => ?_, fun s' h1 h2 h3 h4 K' hK' => ?_⟩
            · rw [(evDc_callP (C := C) (dd := 0) (K := fun _ => True) hcall hc (s' := s) (fun _ _ => rfl) (fun _ => rfl) trivial).1] at hd; cases hd
            · refine gdo_ok (gyes hg) (fun t ht => h1 t (by simp at ht ⊢; simp [ht])) ?_
              have hx' : aevs C s' xs = some vs := by rw [aevs_loc (s := s) fun t ht => h1 t (by simp [ht])]; exact hvs
              have hv' : aev C s' x = some (.fn (.func f) fs cs) := by rw [aev_loc (s := s) fun t ht => h1 t (by simp [ht])]; exact hv
              simp only [hx', hv']
              exact ⟨hf, (evDc_callP hcall hc h2 h4 hK').2⟩
          · cases h
        · cases h
      · cases h
    · cases h

theorem evT_tr (hcall : CallFOK C call) {an : List (List Nat)} {base : Nat} : ∀ {is : List AI} {j : Nat} {s s' : St} {dn : List En}, evT C call an base j is s dn = some s' → TR C an base (fun t => t = s') j is s dn
  | [], j, s, s', dn, h => by simp only [evT, Option.some.injEq] at h; exact h
  | it :: is, j, s, s', dn, h => by
    simp only [evT] at h
    split at h
    · rename_i rs hs δ hev
      split at h
      · rename_i hc
        exact ⟨⟨j, it, rs, hs, δ⟩, rfl, rfl, evD_snd hcall hev, hc, evT_tr hcall h⟩
      · cases h
    · cases h

theorem evC_wa (hcall : CallFOK C call) (m : Nat) : ∀ (ac : ACode) (s s' : St) (e : AE), evC C call m ac s = some (e, s') → WA C B ac (fun x t => x = e.x ∧ t = s') s := by
  induction m using Nat.strongRecOn with
  | _ m0 ih0 =>
  intro ac s s' e h
  cases m0 with
  | zero => simp [evC] at h
  | succ m =>
    have ih : ∀ (ac : ACode) (s s' : St) (e : AE), evC C call m ac s = some (e, s') → WA C B ac (fun x t => x = e.x ∧ t = s') s := ih0 m (Nat.lt_succ_self m)
    have hloop := h
    simp only [evC] at h
    cases ac with
    | skip => cases h; exact WA.skip ⟨rfl, rfl⟩
    | ret => cases h; exact WA.ret ⟨rfl, rfl⟩
    | exit id => cases h; exact WA.exit ⟨rfl, rfl⟩
    | bad => cases h
    | seq x y =>
      simp only at h
      refine WA.seq ?_
      split at h
      · rename_i s1 h1
        refine (ih x s s1 .norm h1).mono ?_
        rintro x' t ⟨rfl, rfl⟩
        exact ih y t s' e h
      · rename_i hne
        refine (ih x s s' e h).mono ?_
        rintro x' t ⟨rfl, rfl⟩
        cases e with
        | norm => exact (hne _ h).elim
        | exit id => exact ⟨rfl, rfl⟩
        | ret => exact ⟨rfl, rfl⟩
    | cond c x y =>
      simp only at h
      split at h
      · rename_i hc; exact WA.cond hc (fun _ => ih x s s' e h) (fun e => by cases e)
      · rename_i hc; exact WA.cond hc (fun e => by cases e) (fun _ => ih y s s' e h)
      · cases h
    | block id x =>
      simp only at h
      refine WA.block ?_
      split at h
      · rename_i i s1 h1
        refine (ih x s s1 (.exit i) h1).mono ?_
        rintro x' t ⟨rfl, rfl⟩
        split at h
        · rename_i hi; cases h; simp only [AE.x, blockQ, hi, if_true]; exact ⟨trivial, trivial⟩
        · rename_i hi; cases h; simp only [AE.x, blockQ, hi, if_false]; exact ⟨trivial, trivial⟩
      · rename_i hne
        refine (ih x s s' e h).mono ?_
        rintro x' t ⟨rfl, rfl⟩
        cases e with
        | norm => exact ⟨rfl, rfl⟩
        | exit id => exact (hne _ _ h).elim
        | ret => exact ⟨rfl, rfl⟩
    | loop x =>
      intro c hc
      have : ∃ c1, c = .loop c1 ∧ compC C.P B.nt c1 = some x := by
        unfold compC at hc; split at hc <;> (try split at hc) <;> (try split at hc) <;> simp_all
      obtain ⟨c1, rfl, h2⟩ := this
      intro S g a w hsr
      refine wp_loop_ix (I := fun n a w => n ≤ m + 1 ∧ ∃ s, evC C call n (.loop x) s = some (e, s') ∧ SRp C B s a w) ?_ (n := m + 1) ⟨Nat.le_refl _, s, hloop, S, g, hsr⟩
      rintro n a w ⟨hn, s, hev, S, g, hs⟩
      cases n with
      | zero => simp [evC] at hev
      | succ n =>
        simp only [evC] at hev
        split at hev
        · rename_i s1 h1
          refine wp_mono (ih0 n (by omega) x s s1 .norm h1 c1 h2 S g a w hs) ?_
          rintro x' a' w' ⟨t, ⟨rfl, rfl⟩, ht⟩
          exact ⟨n, Nat.lt_succ_self n, by omega, t, hev, ht⟩
        · rename_i hne
          refine wp_mono (ih0 n (by omega) x s s' e hev c1 h2 S g a w hs) ?_
          rintro x' a' w' ⟨t, ⟨rfl, rfl⟩, ht⟩
          cases e with
          | norm => exact (hne _ hev).elim
          | exit id => exact ⟨t, ⟨rfl, rfl⟩, ht⟩
          | ret => exact ⟨t, ⟨rfl, rfl⟩, ht⟩
    | reg is =>
      simp only at h
      split at h
      · rename_i s1 h1
        cases h
        intro c hc
        have : ∃ id ops, c = .region id ops false ∧ compReg C.P B.nt ops = some is := by
          unfold compC at hc; split at hc <;> (try split at hc) <;> (try split at hc) <;> simp_all
          exact ⟨_, _, ⟨rfl, rfl⟩, by assumption⟩
        obtain ⟨id, ops, rfl, h2⟩ := this
        intro S g a w hsr
        have hlen := compReg_len h2
        unfold compReg at h2
        split at h2
        · rename_i hd
          refine wp_region ?_
          have := evR_wp (C := C) (B := B) (ops := ops) (K := fun t => t = s') (Q := lift C B (fun x t => x = AE.norm.x ∧ t = s')) hcall (fun a w ⟨t, ht, h⟩ => ⟨t, ⟨rfl, ht⟩, h⟩) (fun o ho => List.all_eq_true.1 hd o ho) ops.toList 0 is rfl h2 (hsr.enter is.length) h1 rfl
          simpa [List.range_eq_range'] using this
        · cases h2
      · cases h
    | draw is an =>
      simp only at h
      split at h
      · rename_i s1 h1
        cases h
        have h3 := WA.draw (C := C) (B := B) (Q := fun x t => x = .normal ∧ t = s1) (s := s) (is := is) (an := an) (by
          have := evT_tr hcall h1
          refine cast ?_ this
          congr
          funext t
          simp)
        intro c hc S g a w hsr
        refine wp_mono (h3 c hc S g a w hsr) ?_
        rintro x a' w' ⟨t, ⟨rfl, rfl⟩, S', g', hs'⟩
        exact ⟨_, ⟨rfl, rfl⟩, S', g', hs'.eqv (nrm_eqv _)⟩
      · cases h
end
end Go.Abs

namespace Go.Abs
open Go

section
variable {C : Cx}

theorem Out.frame {S : Seal} {g : Locs} {w w' : World} {hp : List (Nat × HO)} {r : V} {v : Value} {N : Nat → Prop} (hH : HR S g hp w)
    (ho : Out C S g w [] (fun _ => False) (fun r' hp' => r' = r ∧ hp' = []) v w') : Out C S g w hp N (fun r' hp' => r' = r ∧ hp' = hp) v w' := by
  obtain ⟨r', hp', S', g', ⟨rfl, rfl⟩, a2, a3, a4, a5, a6, a7, a8, a9, a10⟩ := ho
  have hno : ∀ b, ¬ owned g [] b := by rintro b ⟨i, o, hi, _⟩; simp [lk] at hi
  have hg : ∀ i, g i ≠ none → g' i = g i := fun i hi => a7 i hi rfl
  have hsome : ∀ i o, lk hp i = some o → g i ≠ none := fun i o hi => by
    have := hH.1 i o hi
    cases o with
    | cells cs => obtain ⟨b, _, _, h1, _⟩ := this; rw [h1]; simp
    | tok e k l => obtain ⟨_, _, _, h1, _⟩ := this; rw [h1]; simp
    | map clock es => obtain ⟨b, _, h1, _⟩ := this; rw [h1]; simp
    | iter m since seen last => obtain ⟨b, _, h1, _⟩ := this; rw [h1]; simp
    | sit l pos => obtain ⟨b, h1, _⟩ := this; rw [h1]; simp
  refine ⟨_, hp, S', g', ⟨rfl, rfl⟩, a2, a3, ⟨fun i o hi => ?_, fun i j oi oj b hi hj h1 h2 => ?_⟩, ⟨a5.size, a5.sld, fun b hb _ => a5.old b hb (hno b), a5.kept⟩, a6, fun i hi _ => hg i hi, fun i o hi => .inl (by rw [hi]; rfl),
    fun i hi => (a9 i hi).imp id (fun h => h.elim), fun i o b hi hb => .inl ⟨i, o, hi, by rw [← blk_congr (hg i (hsome i o hi))]; exact hb⟩⟩
  · refine (hH.1 i o hi).mono a5.sld (hg i (hsome i o hi)) a6 fun b hb => a5.old b ((hH.1 i o hi).blk_lt hb) (hno b)
  · rw [blk_congr (hg i (hsome i oi hi))] at h1
    rw [blk_congr (hg j (hsome j oj hj))] at h2
    exact hH.2 i j oi oj b hi hj h1 h2

theorem evF_ok {tab : List (Nat × AF)} {ext : List (Nat × (List V → Option V))} {m : Nat} (htab : ∀ f F, lk tab f = some F → compF C.P f = some F)
    (hext : ∀ f h vs r, lk ext f = some h → h vs = some r → AFn C f vs r) : ∀ n, CallFOK C (evF C tab ext m n)
  | 0 => fun f vs hp cn r hp' cn' h => by simp [evF] at h
  | n + 1 => fun f vs hp cn r hp' cn' h => by
    have ih := evF_ok (m := m) htab hext n
    simp only [evF] at h
    split at h
    · rename_i F hF
      split at h
      case isFalse => cases h
      rename_i hnt
      split at h
      · cases h
      · rename_i e s' hne hev
        split at h
        · rename_i r' hres
          split at h
          case isFalse => cases h
          rename_i hcn
          cases h
          refine ⟨hcn, fun S g w args hG hv hH hlt => ?_⟩
          have hcomp := htab f F hF
          unfold compF at hcomp
          split at hcomp
          · rename_i fn hf
            split at hcomp
            · rename_i c hb
              split at hcomp
              · rename_i ac hc
                cases hcomp
                let B : Base := ⟨S, g, w, owned g hp, fun i => (lk hp i).isSome = true, cn, fn.ntmps⟩
                have hsr : SR C B S g { fr := frs 0 vs, hp := hp, nx := cn, sz := 0, cn := cn, ids := [] } { tmps := args.toArray ++ Array.replicate (fn.ntmps - args.toArray.size) undef, defers := [] } w := by
                  refine ⟨rfl, ?_, hG, fun t x hx => ?_, hH, Grow.refl _ _ _, fun i o b hi hb => .inl ⟨i, o, hi, hb⟩, fun i hi => .inl rfl, fun i hi => ⟨hlt i hi, fun h1 _ => ?_⟩,
                    fun i hi _ => rfl, fun i o hi => .inl (by show (lk hp i).isSome = true; have h1 : lk hp i = some o := hi; rw [h1]; rfl), ⟨Nat.le_refl _, Nat.le_refl _⟩, fun i hi => .inl hi, Nat.le_refl _⟩
                  · have := hv.len
                    simp only at hnt
                    simp only [Array.size_append, List.size_toArray, Array.size_replicate]
                    show _ = fn.ntmps
                    omega
                  · obtain ⟨i, rfl, hx'⟩ := lk_frs hx
                    obtain ⟨v, hv', hr'⟩ := VRl.get hv hx'
                    have : (args.toArray ++ Array.replicate (fn.ntmps - args.toArray.size) undef).getD (0 + i) undef = v := by
                      have hl : i < args.length := (List.getElem?_eq_some_iff.1 hv').1
                      rw [Array.getD_eq_getD_getElem?, Nat.zero_add, Array.getElem?_append_left (by simpa using hl)]
                      simp [hv']
                    rw [this]
                    exact hr'
                  · have := hlt i hi; simp only at h1; omega
                have hwa := evC_wa (B := B) ih m ac _ s' e hev c hc
                refine Calls.mono (calls_of_wp (R := fun e w' => ∃ v, e = .returned v ∧ Out C S g w hp (fun i => cn ≤ i ∧ i < s'.cn) (fun r'' hp'' => r'' = r ∧ hp'' = s'.hp) v w') hf hb (wp_mono (hwa S g _ w hsr) ?_)) fun e w' h => h
                rintro x a' w' ⟨t, ⟨rfl, rfl⟩, S', g', hs'⟩
                have key : a'.defers = [] ∧ ∃ v, (results fn a'.tmps).run C.P w' = .ok v w' ∧ ∃ v', Ending.returned v = .returned v' ∧ Out C S g w hp (fun i => cn ≤ i ∧ i < t.cn) (fun r'' hp'' => r'' = r ∧ hp'' = t.hp) v' w' := by
                  obtain ⟨v, hrun, hvr⟩ := resV_ok hs' hres
                  refine ⟨hs'.dfr, v, hrun, v, rfl, r, t.hp, S', g', ⟨rfl, rfl⟩, hvr, hs'.good, hs'.hp, hs'.grow, hs'.gl, fun i hi hn => hs'.gk i hi (by simp [B, hn]), fun i o hi => hs'.hk i o hi, fun i hi => ?_, hs'.new⟩
                  have h1 := (hs'.dom i hi).1
                  exact (hs'.low i hi).imp id (fun h2 => ⟨h2, h1⟩)
                cases e with
                | norm => exact key
                | ret => exact key
                | exit id => exact (hne _ rfl).elim
              · cases hcomp
            · cases hcomp
          · cases hcomp
        · cases h
      · cases h
    · split at h
      · rename_i hfn hx
        split at h
        · rename_i r' hr'
          cases h
          refine ⟨Nat.le_refl _, fun S g w args hG hv hH _ => ?_⟩
          refine Calls.mono (hext f hfn vs r hx hr' S g w args hG hv ⟨fun i o hi => by simp [lk] at hi, fun i j oi oj b hi => by simp [lk] at hi⟩ (fun _ h => h.elim)) ?_
          rintro e w' ⟨v, rfl, ho⟩
          exact ⟨v, rfl, ho.frame hH⟩
        · cases h
      · cases h
end
end Go.Abs

namespace Go.Abs
open Go
/-! Contracts with objects: ids may be named anew. -/
mutual
def V.ren (ρ : Nat → Nat) : V → V
  | .ptr o off => .ptr (ρ o) off
  | .mp o => .mp (ρ o)
  | .ls o off k n => .ls (ρ o) off k n
  | .sl tk k xs => .sl (tk.map ρ) k xs
  | .agg cs => .agg (renL ρ cs)
  | .tuple cs => .tuple (renL ρ cs)
  | .iface t x => .iface t (x.ren ρ)
  | .fn f fs cs => .fn f (renL ρ fs) (renL ρ cs)
  | .int k n => .int k n
  | .bool b => .bool b
  | .str s => .str s
  | .raw v => .raw v
  | .cp cs off => .cp cs off
def renL (ρ : Nat → Nat) : List V → List V
  | [] => []
  | x :: xs => x.ren ρ :: renL ρ xs
end
mutual
def V.low (k : Nat) : V → Bool
  | .ptr o _ => decide (o < k)
  | .mp o => decide (o < k)
  | .ls o _ _ _ => decide (o < k)
  | .sl tk _ _ => tk.all fun n => decide (n < k)
  | .agg cs => lowL k cs
  | .tuple cs => lowL k cs
  | .iface _ x => x.low k
  | .fn _ fs cs => lowL k fs && lowL k cs
  | .int _ _ => true
  | .bool _ => true
  | .str _ => true
  | .raw _ => true
  | .cp _ _ => true
def lowL (k : Nat) : List V → Bool
  | [] => true
  | x :: xs => x.low k && lowL k xs
end
mutual
theorem V.ren_idf {ρ : Nat → Nat} : ∀ {x : V}, x.idf = true → x.ren ρ = x
  | .int _ _, _ => rfl
  | .bool _, _ => rfl
  | .str _, _ => rfl
  | .raw _, _ => rfl
  | .ptr _ _, h => by simp [V.idf] at h
  | .mp _, h => by simp [V.idf] at h
  | .ls _ _ _ _, h => by simp [V.idf] at h
  | .cp _ _, _ => rfl
  | .sl tk k xs, h => by
    simp only [V.idf, Option.isNone_iff_eq_none] at h
    subst h; rfl
  | .agg cs, h => by simp only [V.ren, renL_idf (xs := cs) h]
  | .tuple cs, h => by simp only [V.ren, renL_idf (xs := cs) h]
  | .iface t x, h => by simp only [V.ren, V.ren_idf (x := x) h]
  | .fn f fs cs, h => by
    simp only [V.idf, Bool.and_eq_true] at h
    simp only [V.ren, renL_idf (xs := fs) h.1, renL_idf (xs := cs) h.2]
theorem renL_idf {ρ : Nat → Nat} : ∀ {xs : List V}, idfL xs = true → renL ρ xs = xs
  | [], _ => rfl
  | x :: xs, h => by
    simp only [idfL, Bool.and_eq_true] at h
    simp only [renL, V.ren_idf h.1, renL_idf h.2]
end
mutual
theorem V.low_idf {k : Nat} : ∀ {x : V}, x.idf = true → x.low k = true
  | .int _ _, _ => rfl
  | .bool _, _ => rfl
  | .str _, _ => rfl
  | .raw _, _ => rfl
  | .ptr _ _, h => by simp [V.idf] at h
  | .mp _, h => by simp [V.idf] at h
  | .ls _ _ _ _, h => by simp [V.idf] at h
  | .cp _ _, _ => rfl
  | .sl tk k xs, h => by
    simp only [V.idf, Option.isNone_iff_eq_none] at h
    subst h; rfl
  | .agg cs, h => by simp only [V.low, lowL_idf (xs := cs) h]
  | .tuple cs, h => by simp only [V.low, lowL_idf (xs := cs) h]
  | .iface t x, h => by simp only [V.low, V.low_idf (x := x) h]
  | .fn f fs cs, h => by
    simp only [V.idf, Bool.and_eq_true] at h
    simp only [V.low, lowL_idf (xs := fs) h.1, lowL_idf (xs := cs) h.2, Bool.and_self]
theorem lowL_idf {k : Nat} : ∀ {xs : List V}, idfL xs = true → lowL k xs = true
  | [], _ => rfl
  | x :: xs, h => by
    simp only [idfL, Bool.and_eq_true] at h
    simp only [lowL, V.low_idf h.1, lowL_idf h.2, Bool.and_self]
end
theorem renL_len (ρ : Nat → Nat) : ∀ xs : List V, (renL ρ xs).length = xs.length
  | [] => rfl
  | _ :: xs => by simp [renL, renL_len ρ xs]

/-- Two namings of one world: `g i` is where `g'` has `ρ i`, for the ids below `k`. -/
def Agr (k : Nat) (ρ : Nat → Nat) (g g' : Locs) : Prop := ∀ i, i < k → g i = g' (ρ i)
mutual
theorem VR.ren {S : Seal} {k : Nat} {ρ : Nat → Nat} : ∀ (x : V) {g g' : Locs} {v : Value}, Agr k ρ g g' → x.low k = true → (VR S g x v ↔ VR S g' (x.ren ρ) v)
  | .int _ _, _, _, _, _, _ => .rfl
  | .bool _, _, _, _, _, _ => .rfl
  | .str _, _, _, _, _, _ => .rfl
  | .raw _, _, _, _, _, _ => .rfl
  | .cp _ _, _, _, _, _, _ => .rfl
  | .ptr o off, g, g', v, ha, hl => by
    simp only [V.low, decide_eq_true_eq] at hl
    simp only [VR, V.ren, ha o hl]
  | .mp o, g, g', v, ha, hl => by
    simp only [V.low, decide_eq_true_eq] at hl
    simp only [VR, V.ren, ha o hl]
  | .ls o off k n, g, g', v, ha, hl => by
    simp only [V.low, decide_eq_true_eq] at hl
    simp only [VR, V.ren, ha o hl]
  | .sl none kk xs, g, g', v, ha, hl => by
    simp only [VR, V.ren, Option.map_none]
    constructor <;> (rintro ⟨a, len, cap, h1, h2, h3, h4, _⟩; exact ⟨a, len, cap, h1, h2, h3, h4, fun n hn => by cases hn⟩)
  | .sl (some n) kk xs, g, g', v, ha, hl => by
    simp only [V.low, Option.all_some, decide_eq_true_eq] at hl
    simp only [VR, V.ren, Option.map_some, Option.some.injEq]
    constructor
    · rintro ⟨a, len, cap, h1, h2, h3, h4, h5⟩
      refine ⟨a, len, cap, h1, h2, h3, h4, fun m hm => ?_⟩
      subst hm
      rw [← ha n hl]; exact h5 n rfl
    · rintro ⟨a, len, cap, h1, h2, h3, h4, h5⟩
      refine ⟨a, len, cap, h1, h2, h3, h4, fun m hm => ?_⟩
      subst hm
      rw [ha n hl]; exact h5 _ rfl
  | .agg cs, g, g', v, ha, hl => by
    simp only [VR, V.ren]
    constructor <;> (rintro ⟨ws, h1, h2, h3⟩; refine ⟨ws, h1, by simpa [renL_len] using h2, ?_⟩)
    · exact (VRs.ren cs ha hl).1 h3
    · exact (VRs.ren cs ha hl).2 h3
  | .tuple cs, g, g', v, ha, hl => by
    simp only [VR, V.ren]
    constructor <;> (rintro ⟨ws, h1, h2, h3⟩; refine ⟨ws, h1, by simpa [renL_len] using h2, ?_⟩)
    · exact (VRs.ren cs ha hl).1 h3
    · exact (VRs.ren cs ha hl).2 h3
  | .iface t x, g, g', v, ha, hl => by
    simp only [VR, V.ren]
    constructor <;> (rintro ⟨w, h1, h2⟩; refine ⟨w, h1, ?_⟩)
    · exact (VR.ren x ha hl).1 h2
    · exact (VR.ren x ha hl).2 h2
  | .fn f fs cs, g, g', v, ha, hl => by
    simp only [V.low, Bool.and_eq_true] at hl
    simp only [VR, V.ren]
    constructor <;> (rintro ⟨ws, us, h1, h2, h3, h4, h5⟩; refine ⟨ws, us, h1, by simpa [renL_len] using h2, by simpa [renL_len] using h3, ?_, ?_⟩)
    · exact (VRs.ren fs ha hl.1).1 h4
    · exact (VRs.ren cs ha hl.2).1 h5
    · exact (VRs.ren fs ha hl.1).2 h4
    · exact (VRs.ren cs ha hl.2).2 h5
theorem VRs.ren {S : Seal} {k : Nat} {ρ : Nat → Nat} : ∀ (xs : List V) {g g' : Locs} {vs : List Value}, Agr k ρ g g' → lowL k xs = true → (VRs S g xs vs ↔ VRs S g' (renL ρ xs) vs)
  | [], _, _, _, _, _ => .rfl
  | x :: xs, g, g', vs, ha, hl => by
    simp only [lowL, Bool.and_eq_true] at hl
    simp only [VRs, renL]
    constructor <;> (rintro ⟨v, r, h1, h2, h3⟩; refine ⟨v, r, h1, ?_, ?_⟩)
    · exact (VR.ren x ha hl.1).1 h2
    · exact (VRs.ren xs ha hl.2).1 h3
    · exact (VR.ren x ha hl.1).2 h2
    · exact (VRs.ren xs ha hl.2).2 h3
end
theorem VRl.ren {S : Seal} {k : Nat} {ρ : Nat → Nat} {g g' : Locs} (ha : Agr k ρ g g') : ∀ {xs : List V} {vs : List Value}, lowL k xs = true → VRl S g' (renL ρ xs) vs → VRl S g xs vs
  | [], _, _, .nil => .nil
  | x :: xs, _ :: _, hl, .cons h1 h2 => by
    simp only [lowL, Bool.and_eq_true] at hl
    exact .cons ((VR.ren x ha hl.1).2 h1) (VRl.ren ha hl.2 h2)

def renE (ρ : Nat → Nat) : List (Nat × V × V) → List (Nat × V × V)
  | [] => []
  | (n, x, y) :: r => (n, x.ren ρ, y.ren ρ) :: renE ρ r
def lowE (k : Nat) : List (Nat × V × V) → Bool
  | [] => true
  | (_, x, y) :: r => x.low k && y.low k && lowE k r
theorem MR.ren {S : Seal} {k : Nat} {ρ : Nat → Nat} {g g' : Locs} (ha : Agr k ρ g g') : ∀ {es : List (Nat × V × V)} {l : List MapEntry}, lowE k es = true → (MR S g es l ↔ MR S g' (renE ρ es) l)
  | [], _, _ => .rfl
  | (n, x, y) :: es, l, hl => by
    simp only [lowE, Bool.and_eq_true] at hl
    simp only [MR, renE]
    constructor <;> (rintro ⟨e, r, h0, h1, h2, h3, h4⟩; refine ⟨e, r, h0, h1, ?_, ?_, ?_⟩)
    · exact (VR.ren x ha hl.1.1).1 h2
    · exact (VR.ren y ha hl.1.2).1 h3
    · exact (MR.ren ha hl.2).1 h4
    · exact (VR.ren x ha hl.1.1).2 h2
    · exact (VR.ren y ha hl.1.2).2 h3
    · exact (MR.ren ha hl.2).2 h4
def HO.ren (ρ : Nat → Nat) : HO → HO
  | .cells cs => .cells (renL ρ cs)
  | .tok e k l => .tok e k l
  | .map c es => .map c (renE ρ es)
  | .iter m a b c => .iter (ρ m) a b c
  | .sit l p => .sit l p
def HO.low (k : Nat) : HO → Bool
  | .cells cs => lowL k cs
  | .tok _ _ _ => true
  | .map _ es => lowE k es
  | .iter m _ _ _ => decide (m < k)
  | .sit _ _ => true
def renH (ρ : Nat → Nat) : List (Nat × HO) → List (Nat × HO)
  | [] => []
  | (i, o) :: r => (ρ i, o.ren ρ) :: renH ρ r
def lowH (k : Nat) : List (Nat × HO) → Bool
  | [] => true
  | (i, o) :: r => decide (i < k) && o.low k && lowH k r
theorem HOok.ren {S : Seal} {w : World} {k : Nat} {ρ : Nat → Nat} {g g' : Locs} (ha : Agr k ρ g g') {i : Nat} {o : HO} (hi : i < k) (hl : o.low k = true) : HOok S g w i o ↔ HOok S g' w (ρ i) (o.ren ρ) := by
  cases o with
  | cells cs =>
    simp only [HOok, HO.ren, ha i hi, renL_len]
    constructor <;> (rintro ⟨b, c, E, h1, h2, h3, h4, h5⟩; refine ⟨b, c, E, h1, h2, h3, h4, ?_⟩)
    · exact (VRs.ren cs ha hl).1 h5
    · exact (VRs.ren cs ha hl).2 h5
  | tok e kk l => simp only [HOok, HO.ren, ha i hi]
  | map c es =>
    simp only [HOok, HO.ren, ha i hi]
    constructor <;> (rintro ⟨b, arr, h1, h2, h3, h4⟩; refine ⟨b, arr, h1, h2, h3, ?_⟩)
    · exact (MR.ren ha hl).1 h4
    · exact (MR.ren ha hl).2 h4
  | sit l p => simp only [HOok, HO.ren, ha i hi]
  | iter m a b c =>
    simp only [HO.low, decide_eq_true_eq] at hl
    simp only [HOok, HO.ren, ha i hi, ha m hl]
theorem lk_low {k : Nat} : ∀ {hp : List (Nat × HO)} {i : Nat} {o : HO}, lowH k hp = true → lk hp i = some o → i < k ∧ o.low k = true
  | [], _, _, _, h => by simp [lk] at h
  | (j, p) :: r, i, o, hl, h => by
    simp only [lowH, Bool.and_eq_true, decide_eq_true_eq] at hl
    simp only [lk] at h
    by_cases hj : j = i
    · simp only [hj, if_true, Option.some.injEq] at h; subst h; subst hj; exact hl.1
    · simp only [hj, if_false] at h; exact lk_low hl.2 h
def Inj (k : Nat) (ρ : Nat → Nat) : Prop := ∀ i j, i < k → j < k → ρ i = ρ j → i = j
theorem lk_renH {k : Nat} {ρ : Nat → Nat} (hj : Inj k ρ) : ∀ {hp : List (Nat × HO)} {i : Nat}, lowH k hp = true → i < k → lk (renH ρ hp) (ρ i) = (lk hp i).map (HO.ren ρ)
  | [], _, _, _ => rfl
  | (j, p) :: r, i, hl, hi => by
    simp only [lowH, Bool.and_eq_true, decide_eq_true_eq] at hl
    simp only [renH, lk]
    by_cases hji : j = i
    · simp [hji]
    · have : ρ j ≠ ρ i := fun e => hji (hj j i hl.1.1 hi e)
      simp only [this, hji, if_false]
      exact lk_renH hj hl.2 hi
theorem lk_renH_inv {k : Nat} {ρ : Nat → Nat} : ∀ {hp : List (Nat × HO)} {m : Nat} {o : HO}, lowH k hp = true → lk (renH ρ hp) m = some o → ∃ i, i < k ∧ ρ i = m
  | [], _, _, _, h => by simp [renH, lk] at h
  | (j, p) :: r, m, o, hl, h => by
    simp only [lowH, Bool.and_eq_true, decide_eq_true_eq] at hl
    simp only [renH, lk] at h
    by_cases hjm : ρ j = m
    · exact ⟨j, hl.1.1, hjm⟩
    · simp only [hjm, if_false] at h; exact lk_renH_inv hl.2 h
theorem blk_agr {k : Nat} {ρ : Nat → Nat} {g g' : Locs} (ha : Agr k ρ g g') {i : Nat} (hi : i < k) : blk g i = blk g' (ρ i) := by simp only [blk, ha i hi]
theorem HR.ren {S : Seal} {w : World} {k : Nat} {ρ : Nat → Nat} {g g' : Locs} {hp : List (Nat × HO)} (hj : Inj k ρ) (ha : Agr k ρ g g') (hl : lowH k hp = true) : HR S g hp w ↔ HR S g' (renH ρ hp) w := by
  constructor
  · rintro ⟨h1, h2⟩
    refine ⟨fun m o hm => ?_, fun m n om on b hm hn e1 e2 => ?_⟩
    · obtain ⟨i, hi, rfl⟩ := lk_renH_inv hl hm
      rw [lk_renH hj hl hi] at hm
      simp only [Option.map_eq_some_iff] at hm
      obtain ⟨o', ho, rfl⟩ := hm
      exact (HOok.ren ha hi (lk_low hl ho).2).1 (h1 i o' ho)
    · obtain ⟨i, hi, rfl⟩ := lk_renH_inv hl hm
      obtain ⟨j, hj', rfl⟩ := lk_renH_inv hl hn
      rw [lk_renH hj hl hi] at hm
      rw [lk_renH hj hl hj'] at hn
      simp only [Option.map_eq_some_iff] at hm hn
      obtain ⟨oi, hoi, _⟩ := hm
      obtain ⟨oj, hoj, _⟩ := hn
      rw [← blk_agr ha hi] at e1
      rw [← blk_agr ha hj'] at e2
      rw [h2 i j oi oj b hoi hoj e1 e2]
  · rintro ⟨h1, h2⟩
    refine ⟨fun i o hi => ?_, fun i j oi oj b hi hj' e1 e2 => ?_⟩
    · have h3 := lk_low hl hi
      exact (HOok.ren ha h3.1 h3.2).2 (h1 (ρ i) _ (by rw [lk_renH hj hl h3.1, hi]; rfl))
    · have h3 := lk_low hl hi
      have h4 := lk_low hl hj'
      refine hj i j h3.1 h4.1 (h2 (ρ i) (ρ j) _ _ b (by rw [lk_renH hj hl h3.1, hi]; rfl) (by rw [lk_renH hj hl h4.1, hj']; rfl) ?_ ?_)
      · rw [← blk_agr ha h3.1]; exact e1
      · rw [← blk_agr ha h4.1]; exact e2

/-- The contract of a function with objects (ids below `k`; new ones from `k` to `k'`): what it answers, what the objects hold then. -/
def AObj (C : Cx) (f : FuncId) (k : Nat) (vs : List V) (hp : List (Nat × HO)) (k' : Nat) (r : V) (hp' : List (Nat × HO)) : Prop :=
  lowL k vs = true ∧ lowH k hp = true ∧ k ≤ k' ∧ r.low k' = true ∧ lowH k' hp' = true ∧ (∀ i, (lk hp' i).isSome = true → (lk hp i).isSome = true ∨ k ≤ i) ∧
  ∀ S g w args, Good C S w → VRl S g vs args → HR S g hp w → (∀ i, g i ≠ none → i < k) →
    Calls C.P f args.toArray w fun e w' => ∃ v, e = .returned v ∧ Out C S g w hp (fun i => k ≤ i ∧ i < k') (fun r' h' => r' = r ∧ h' = hp') v w'

open Classical in
theorem AObj.call {C : Cx} {f : FuncId} {k k' : Nat} {vs : List V} {hp hp' : List (Nat × HO)} {r : V} (h : AObj C f k vs hp k' r hp') (ρ : Nat → Nat) (hj' : Inj k' ρ) :
    ACall C f (renL ρ vs) (renH ρ hp) (fun j => ∃ i, k ≤ i ∧ i < k' ∧ ρ i = j) fun r' h' => r' = r.ren ρ ∧ h' = renH ρ hp' := by
  obtain ⟨l1, l2, hkk, l3, l4, l5, hc⟩ := h
  intro S g w args hG hv hH hN
  have hj : Inj k ρ := fun i j hi hj e => hj' i j (Nat.lt_of_lt_of_le hi hkk) (Nat.lt_of_lt_of_le hj hkk) e
  have hN' : ∀ i, k ≤ i → i < k' → g (ρ i) = none := fun i h1 h2 => hN _ ⟨i, h1, h2, rfl⟩
  let g0 : Locs := fun i => if i < k then g (ρ i) else none
  have ha : Agr k ρ g0 g := fun i hi => by simp only [g0, hi, if_true]
  have hlow : ∀ i, g0 i ≠ none → i < k := fun i hi => by
    by_cases h : i < k
    · exact h
    · exact absurd (by simp only [g0, h, if_false]) hi
  refine Calls.mono (hc S g0 w args hG (VRl.ren ha l1 hv) ((HR.ren hj ha l2).2 hH) hlow) ?_
  rintro e w' ⟨v, rfl, r', h', S', g0', ⟨rfl, rfl⟩, a2, a3, a4, a5, a6, a7, a8, a9, a10⟩
  let g' : Locs := fun j => if hx : ∃ i, i < k' ∧ ρ i = j then g0' hx.choose else g j
  have hg' : ∀ i, i < k' → g' (ρ i) = g0' i := fun i hi => by
    have hx : ∃ i', i' < k' ∧ ρ i' = ρ i := ⟨i, hi, rfl⟩
    have : hx.choose = i := hj' _ _ hx.choose_spec.1 hi hx.choose_spec.2
    simp only [g', hx, dite_true, this]
  have ha' : Agr k' ρ g0' g' := fun i hi => (hg' i hi).symm
  have hout : ∀ j, (¬ ∃ i, i < k' ∧ ρ i = j) → g' j = g j := fun j hn => by simp only [g', hn, dite_false]
  have hown : ∀ b, owned g0 hp b → owned g (renH ρ hp) b := fun b ⟨i, o, h1, h2⟩ =>
    ⟨ρ i, o.ren ρ, by rw [lk_renH hj l2 (lk_low l2 h1).1, h1]; rfl, by rw [← blk_agr ha (lk_low l2 h1).1]; exact h2⟩
  have lt : ∀ i, i < k → i < k' := fun i hi => Nat.lt_of_lt_of_le hi hkk
  refine ⟨v, rfl, r'.ren ρ, renH ρ h', S', g', ⟨rfl, rfl⟩, (VR.ren r' ha' l3).1 a2, a3, (HR.ren hj' ha' l4).1 a4, ⟨a5.size, a5.sld, fun b hb hn => a5.old b hb fun ho => hn (hown b ho), a5.kept⟩, ?_, ?_, ?_, ?_, ?_⟩
  · intro j hgj
    by_cases hx : ∃ i, i < k' ∧ ρ i = j
    · obtain ⟨i, hi', rfl⟩ := hx
      by_cases hi : i < k
      · have h1 := a6 i (by rw [ha i hi]; exact hgj)
        rcases h1 with e | ⟨a, l, c, a', l', c', e1, e2, e3⟩
        · exact .inl (by rw [hg' i hi', e, ha i hi])
        · exact .inr ⟨a, l, c, a', l', c', by rw [← ha i hi]; exact e1, by rw [hg' i hi']; exact e2, e3⟩
      · exact absurd (hN' i (by omega) hi') hgj
    · exact .inl (hout j hx)
  · intro j hgj hl
    by_cases hx : ∃ i, i < k' ∧ ρ i = j
    · obtain ⟨i, hi', rfl⟩ := hx
      by_cases hi : i < k
      · rw [lk_renH hj l2 hi] at hl
        rw [hg' i hi', a7 i (by rw [ha i hi]; exact hgj) (by cases h0 : lk hp i with | none => rfl | some o => rw [h0] at hl; simp at hl), ha i hi]
      · exact absurd (hN' i (by omega) hi') hgj
    · exact hout j hx
  · intro j o hl
    obtain ⟨i, hi', rfl⟩ := lk_renH_inv l4 hl
    rw [lk_renH hj' l4 hi'] at hl
    have h0 : (lk h' i).isSome = true := by cases h0 : lk h' i with | none => rw [h0] at hl; simp at hl | some o => rfl
    rcases l5 i h0 with h1 | h1
    · left
      have hi : i < k := by
        obtain ⟨o', ho'⟩ := Option.isSome_iff_exists.1 h1
        exact (lk_low l2 ho').1
      rw [lk_renH hj l2 hi]
      simpa using h1
    · exact .inr (hN' i h1 hi')
  · intro j hgj
    by_cases hx : ∃ i, i < k' ∧ ρ i = j
    · obtain ⟨i, hi', rfl⟩ := hx
      rw [hg' i hi'] at hgj
      rcases a9 i hgj with h1 | h1
      · have hi := hlow i h1
        rw [ha i hi] at h1
        exact .inl h1
      · exact .inr ⟨i, h1.1, h1.2, rfl⟩
    · rw [hout j hx] at hgj; exact .inl hgj
  · intro j o b hl hb
    obtain ⟨i, hi, rfl⟩ := lk_renH_inv l4 hl
    rw [lk_renH hj' l4 hi] at hl
    simp only [Option.map_eq_some_iff] at hl
    obtain ⟨o', ho, _⟩ := hl
    rw [← blk_agr ha' hi] at hb
    rcases a10 i o' b ho hb with h1 | h1
    · exact .inl (hown b h1)
    · exact .inr h1
end Go.Abs

namespace Go.Abs
open Go
/-! Steps that change only how a state is shown; loops; functions with objects by their bodies. -/
structure BOk (B : Base) (k : Nat) : Prop where
  n0 : B.n0 = k
  g0 : ∀ i, B.g0 i ≠ none → i < k

mutual
theorem V.ren_id : ∀ x : V, x.ren id = x
  | .int _ _ => rfl
  | .bool _ => rfl
  | .str _ => rfl
  | .raw _ => rfl
  | .cp _ _ => rfl
  | .ptr _ _ => rfl
  | .mp _ => rfl
  | .ls _ _ _ _ => rfl
  | .sl tk _ _ => by cases tk <;> rfl
  | .agg cs => by simp only [V.ren, renL_id cs]
  | .tuple cs => by simp only [V.ren, renL_id cs]
  | .iface _ x => by simp only [V.ren, V.ren_id x]
  | .fn _ fs cs => by simp only [V.ren, renL_id fs, renL_id cs]
theorem renL_id : ∀ xs : List V, renL id xs = xs
  | [] => rfl
  | x :: xs => by simp only [renL, V.ren_id x, renL_id xs]
end
theorem renE_id : ∀ es : List (Nat × V × V), renE id es = es
  | [] => rfl
  | (n, x, y) :: r => by simp only [renE, V.ren_id, renE_id r]
theorem HO.ren_id (o : HO) : o.ren id = o := by cases o <;> simp [HO.ren, renL_id, renE_id]

section
variable {C : Cx} {B : Base} {Q : Exit → St → Prop} {s : St}
def Gh (C : Cx) (B : Base) (s s' : St) : Prop := ∀ S g a w, SR C B S g s a w → SRp C B s' a w
theorem Gh.refl (s : St) : Gh C B s s := fun S g _ _ h => ⟨S, g, h⟩
theorem Gh.trans {s' s'' : St} (h : Gh C B s s') (h' : Gh C B s' s'') : Gh C B s s'' := fun S g a w hs => let ⟨S', g', hs'⟩ := h S g a w hs; h' S' g' a w hs'
theorem WA.gh {c : ACode} {s' : St} (h : Gh C B s s') (hw : WA C B c Q s') : WA C B c Q s := fun cc hc S g a w hs =>
  let ⟨S', g', hs'⟩ := h S g a w hs
  hw cc hc S' g' a w hs'
theorem WA.mono_gh {c : ACode} {Q' : Exit → St → Prop} (h : WA C B c Q s) (hq : ∀ e s, Q e s → ∃ s', Gh C B s s' ∧ Q' e s') : WA C B c Q' s := fun cc hc S g a w hs =>
  wp_mono (h cc hc S g a w hs) fun e a w ⟨s, hQ, S', g', hs'⟩ => let ⟨s', h1, h2⟩ := hq e s hQ; ⟨s', h2, h1 S' g' a w hs'⟩

/-- The slots that are kept. -/
inductive FrLe (c : Nat) (fr : List (Nat × V)) : List (Nat × V) → Prop
  | nil : FrLe c fr []
  | cons {t : Nat} {y x : V} {r : List (Nat × V)} : lk fr t = some y → VLe y x → x.low c = true → FrLe c fr r → FrLe c fr ((t, x) :: r)
inductive HpLe (c : Nat) (hp : List (Nat × HO)) : List (Nat × HO) → Prop
  | nil : HpLe c hp []
  | cons {i : Nat} {o : HO} {r : List (Nat × HO)} : lk hp i = some o → i < c → o.low c = true → HpLe c hp r → HpLe c hp ((i, o) :: r)
  | les {i : Nat} {cs cs' : List V} {r : List (Nat × HO)} : lk hp i = some (.cells cs) → VLes cs cs' → i < c → lowL c cs' = true → HpLe c hp r → HpLe c hp ((i, .cells cs') :: r)
theorem FrLe.get {c : Nat} {fr fr' : List (Nat × V)} (h : FrLe c fr fr') {t : Nat} {x : V} (hx : lk fr' t = some x) : ∃ y, lk fr t = some y ∧ VLe y x ∧ x.low c = true := by
  induction h with
  | nil => simp [lk] at hx
  | cons h1 h2 h3 _ ih =>
    rename_i t' y x' r _
    simp only [lk] at hx
    by_cases ht : t' = t
    · simp only [ht, if_true, Option.some.injEq] at hx; subst hx; subst ht; exact ⟨_, h1, h2, h3⟩
    · simp only [ht, if_false] at hx; exact ih hx
theorem HpLe.get {c : Nat} {hp hp' : List (Nat × HO)} (h : HpLe c hp hp') {i : Nat} {o : HO} (ho : lk hp' i = some o) :
    i < c ∧ o.low c = true ∧ (lk hp i = some o ∨ ∃ cs cs', lk hp i = some (.cells cs) ∧ o = .cells cs' ∧ VLes cs cs') := by
  induction h with
  | nil => simp [lk] at ho
  | cons h1 h2 h3 _ ih =>
    rename_i t' o' r _
    simp only [lk] at ho
    by_cases ht : t' = i
    · simp only [ht, if_true, Option.some.injEq] at ho; subst ho; subst ht; exact ⟨h2, h3, .inl h1⟩
    · simp only [ht, if_false] at ho; exact ih ho
  | les h1 h2 h3 h4 _ ih =>
    rename_i t' cs cs' r _
    simp only [lk] at ho
    by_cases ht : t' = i
    · simp only [ht, if_true, Option.some.injEq] at ho; subst ho; subst ht; exact ⟨h3, h4, .inr ⟨_, _, h1, rfl, h2⟩⟩
    · simp only [ht, if_false] at ho; exact ih ho

theorem SR.forget {S : Seal} {g : Locs} {a : Act} {w : World} {k c : Nat} (hB : BOk B k) (hc : k ≤ c) {fr : List (Nat × V)} {hp : List (Nat × HO)} (hf : FrLe c s.fr fr) (hh : HpLe c s.hp hp)
    (h : SR C B S g s a w) : SRp C B ⟨fr, hp, c, 0, c, []⟩ a w := by
  let g' : Locs := fun i => if i < c then g i else none
  have ha : Agr c id g g' := fun i hi => by simp [g', hi]
  have hne : ∀ i, g' i ≠ none → i < c ∧ g i ≠ none := fun i hi => by
    by_cases h1 : i < c
    · refine ⟨h1, fun h2 => hi (by simp [g', h2])⟩
    · exact absurd (by simp only [g', h1, if_false]) hi
  have hold : ∀ i o, lk hp i = some o → ∃ o', lk s.hp i = some o' := fun i o ho => by
    rcases (hh.get ho).2.2 with h1 | ⟨cs, _, h1, _, _⟩ <;> exact ⟨_, h1⟩
  refine ⟨S, g', h.dfr, h.nt, h.good, fun t x hx => ?_, ⟨fun i o ho => ?_, fun i j oi oj b hi hj e1 e2 => ?_⟩, h.grow, fun i o b ho hb => ?_, fun i hi => ?_, fun i hi => ?_, fun i hi hm => ?_, fun i o ho => ?_, ?_, fun i hi => h.low i (hne i hi).2, Nat.le_refl _⟩
  · obtain ⟨y, hy, hle, hlow⟩ := hf.get hx
    have := (VR.ren x ha hlow).1 (hle _ _ _ (h.fr t y hy))
    rwa [V.ren_id] at this
  · obtain ⟨h1, h2, h3⟩ := hh.get ho
    have h4 : HOok S g w i o := by
      rcases h3 with h3 | ⟨cs, cs', h3, rfl, h5⟩
      · exact h.hp.1 i o h3
      · exact (h.hp.1 i _ h3).les h5
    have := (HOok.ren ha h1 h2).1 h4
    rwa [HO.ren_id] at this
  · obtain ⟨oi', hi'⟩ := hold i oi hi
    obtain ⟨oj', hj'⟩ := hold j oj hj
    have e3 := blk_agr ha (hh.get hi).1
    have e4 := blk_agr ha (hh.get hj).1
    exact h.hp.2 i j oi' oj' b hi' hj' (by rw [e3]; exact e1) (by rw [e4]; exact e2)
  · obtain ⟨o', ho'⟩ := hold i o ho
    have e3 := blk_agr ha (hh.get ho).1
    exact h.new i o' b ho' (by rw [e3]; exact hb)
  · have h1 := hB.g0 i hi
    have h2 : g' i = g i := by simp only [g']; rw [if_pos (by omega)]
    rcases h.gl i hi with e | ⟨a0, l, c0, a', l', c', e1, e2, e3⟩
    · exact .inl (by rw [h2, e])
    · exact .inr ⟨a0, l, c0, a', l', c', e1, by rw [h2]; exact e2, e3⟩
  · exact ⟨(hne i hi).1, fun h1 h2 => by simp only at h1 h2; omega⟩
  · have h1 := hB.g0 i hi
    have h2 : g' i = g i := by simp only [g']; rw [if_pos (by omega)]
    rw [h2]; exact h.gk i hi hm
  · obtain ⟨o', ho'⟩ := hold i o ho
    exact h.hk i o' ho'
  · rw [hB.n0]; exact ⟨hc, hc⟩

theorem Gh.forget {k : Nat} (hB : BOk B k) (c : Nat) (hc : k ≤ c) {fr : List (Nat × V)} {hp : List (Nat × HO)} (hf : FrLe c s.fr fr) (hh : HpLe c s.hp hp) : Gh C B s ⟨fr, hp, c, 0, c, []⟩ :=
  fun _ _ _ _ h => h.forget hB hc hf hh

/-- Nil slices get a token. -/
theorem Gh.adoptSlot (t e k : Nat) (_hcn : s.nx ≤ s.cn) (hx : lk s.fr t = some (.raw (.slice none 0 0))) :
    Gh C B s { s with fr := (t, .sl (some s.cn) k []) :: s.fr, hp := (s.cn, .tok e k 0) :: s.hp, nx := s.cn, sz := 0, cn := s.cn + 1, ids := [] } := by
  intro S g a w h
  have hn : g s.cn = none := by
    cases hg : g s.cn with
    | none => rfl
    | some x => have := (h.dom s.cn (by rw [hg]; simp)).1; omega
  have h1 : SR C B S g { s with nx := s.cn, sz := 0, cn := s.cn + 1, ids := [] } a w := by
    refine h.le ⟨fun t x hx => ⟨x, hx, VLe.refl x⟩, fun i o hi => .inl hi, fun i hi => ⟨?_, fun h1 _ => ?_⟩⟩ ⟨⟨h.lo.2, ?_⟩, ?_⟩
    · have := hi.1; show i < s.cn + 1; omega
    · have := hi.1; simp only at h1; omega
    · have := h.lo.2; show B.n0 ≤ s.cn + 1; omega
    · show s.cn + 0 ≤ s.cn + 1; omega
  obtain ⟨h2, h3⟩ := h1.adopt (n := s.cn) (e := e) (k := k) hn ⟨Nat.lt_succ_self _, Nat.le_refl _⟩
  refine ⟨S, _, h2.dfr, h2.nt, h2.good, fun t' x hx' => ?_, h2.hp, h2.grow, h2.new, h2.gl, fun i hi => ?_, h2.gk, h2.hk, h2.lo, h2.low, h2.rm⟩
  · simp only [lk] at hx'
    by_cases ht : t = t'
    · simp only [ht, if_true, Option.some.injEq] at hx'
      subst hx'
      have := h.fr t _ hx
      subst ht
      rw [this.1]; exact h3
    · simp only [ht, if_false] at hx'
      exact h2.fr t' x hx'
  · have := h2.dom i hi
    exact ⟨this.1, fun h4 h5 => by simp only at h4 h5; omega⟩

theorem VRs.set {S : Seal} {g : Locs} {cs : List V} {us : List Value} (h : VRs S g cs us) (j : Nat) {x : V} (hx : ∀ u, us[j]? = some u → VR S g x u) : VRs S g (cs.set j x) us :=
  VRs.of_get fun i y hy => by
    rw [List.getElem?_set] at hy
    split at hy
    · rename_i hji
      subst hji
      split at hy
      · rename_i hlt
        cases hy
        obtain ⟨v, hv, _⟩ := h.get j _ (List.getElem?_eq_getElem hlt)
        exact ⟨v, hv, hx v hv⟩
      · cases hy
    · exact h.get i y hy

theorem Gh.adoptCell (o j e k : Nat) {cs : List V} (_hcn : s.nx ≤ s.cn) (ho : lk s.hp o = some (.cells cs)) (hx : cs[j]? = some (.raw (.slice none 0 0))) :
    Gh C B s { s with hp := (o, .cells (cs.set j (.sl (some s.cn) k []))) :: (s.cn, .tok e k 0) :: s.hp, nx := s.cn, sz := 0, cn := s.cn + 1, ids := [] } := by
  intro S g a w h
  have hn : g s.cn = none := by
    cases hg : g s.cn with
    | none => rfl
    | some x => have := (h.dom s.cn (by rw [hg]; simp)).1; omega
  have h1 : SR C B S g { s with nx := s.cn, sz := 0, cn := s.cn + 1, ids := [] } a w := by
    refine h.le ⟨fun t x hx => ⟨x, hx, VLe.refl x⟩, fun i o hi => .inl hi, fun i hi => ⟨?_, fun h1 _ => ?_⟩⟩ ⟨⟨h.lo.2, ?_⟩, ?_⟩
    · have := hi.1; show i < s.cn + 1; omega
    · have := hi.1; simp only at h1; omega
    · have := h.lo.2; show B.n0 ≤ s.cn + 1; omega
    · show s.cn + 0 ≤ s.cn + 1; omega
  obtain ⟨h2, h3⟩ := h1.adopt (n := s.cn) (e := e) (k := k) hn ⟨Nat.lt_succ_self _, Nat.le_refl _⟩
  have hon : o ≠ s.cn := fun heq => by
    have h4 := h.hp.1 o _ ho
    obtain ⟨b, _, _, h5, _⟩ := h4
    rw [heq, hn] at h5; cases h5
  have ho2 : lk ((s.cn, HO.tok e k 0) :: s.hp) o = some (.cells cs) := by
    simp only [lk, Ne.symm hon, if_false]; exact ho
  have hso : ∀ i x, lk ((o, .cells (cs.set j (.sl (some s.cn) k []))) :: (s.cn, .tok e k 0) :: s.hp) i = some x → ∃ y, lk ((s.cn, HO.tok e k 0) :: s.hp) i = some y := fun i x hi => by
    rw [lk] at hi
    by_cases hoi : o = i
    · subst hoi; exact ⟨_, ho2⟩
    · simp only [hoi, if_false] at hi; exact ⟨_, hi⟩
  refine ⟨S, _, h2.dfr, h2.nt, h2.good, h2.fr, ⟨fun i x hi => ?_, fun i j' oi oj b hi hj e1 e2 => ?_⟩, h2.grow, fun i x b hi hb => ?_, h2.gl, fun i hi => ?_, h2.gk, fun i x hi => ?_, h2.lo, h2.low, h2.rm⟩
  · rw [lk] at hi
    by_cases hoi : o = i
    · subst hoi
      simp only [if_true, Option.some.injEq] at hi
      subst hi
      obtain ⟨b, c, E, a1, a2, a3, a4, a5⟩ := h2.hp.1 o _ ho2
      refine ⟨b, c, E, a1, a2, a3, by simpa using a4, a5.set j fun u hu => ?_⟩
      obtain ⟨v, hv, hr⟩ := a5.get j _ hx
      rw [hu] at hv; cases hv
      rw [hr.1]; exact h3
    · simp only [hoi, if_false] at hi; exact h2.hp.1 i x hi
  · obtain ⟨y, hy⟩ := hso i oi hi
    obtain ⟨y', hy'⟩ := hso j' oj hj
    exact h2.hp.2 i j' y y' b hy hy' e1 e2
  · obtain ⟨y, hy⟩ := hso i x hi
    exact h2.new i y b hy hb
  · have := h2.dom i hi
    exact ⟨this.1, fun h4 h5 => by simp only at h4 h5; omega⟩
  · obtain ⟨y, hy⟩ := hso i x hi
    exact h2.hk i y hy

/-- A loop: `upd` are the slots that change, `fr` those that stay, `hpf` the objects. -/
theorem WA.loopF {σ : Type} {x : ACode} {k : Nat} (hB : BOk B k) (c : Nat) (hc : k ≤ c) (frf : σ → List (Nat × V)) (hpf : σ → List (Nat × HO)) (I : σ → Prop) (μ : σ → Nat) (i0 : σ)
    (hf : FrLe c s.fr (frf i0)) (hh : HpLe c s.hp (hpf i0)) (hI : I i0)
    (round : ∀ i, I i → WA C B x (thenQ (fun s' => ∃ i', (I i' ∧ μ i' < μ i) ∧ FrLe c s'.fr (frf i') ∧ HpLe c s'.hp (hpf i')) Q) ⟨frf i, hpf i, c, 0, c, []⟩) : WA C B (.loop x) Q s := fun cc hcc S g a w h => by
  have : ∃ c1, cc = .loop c1 ∧ compC C.P B.nt c1 = some x := by
    unfold compC at hcc; split at hcc <;> (try split at hcc) <;> (try split at hcc) <;> simp_all
  obtain ⟨c1, rfl, h1⟩ := this
  refine wp_loop_ix (I := fun n a w => ∃ i, μ i = n ∧ I i ∧ SRp C B ⟨frf i, hpf i, c, 0, c, []⟩ a w) ?_ (n := μ i0) ⟨i0, rfl, hI, h.forget hB hc hf hh⟩
  rintro n a w ⟨i, rfl, hI, S, g, hsr⟩
  refine wp_mono (round i hI c1 h1 S g a w hsr) ?_
  rintro e a' w' ⟨s', hQ, S', g', hs'⟩
  cases e with
  | normal =>
    obtain ⟨i', ⟨hI', hlt⟩, hf', hh'⟩ := hQ
    exact ⟨_, hlt, i', rfl, hI', hs'.forget hB hc hf' hh'⟩
  | _ => exact ⟨s', hQ, S', g', hs'⟩

/-- Names of the contract (new ones from `k` on) for names in the state. -/
def outN (k : Nat) (σ : List Nat) (i : Nat) : Nat := if i < k then i else σ.getD (i - k) 0
/-- What a function with objects leaves. -/
def retO (P : Program) (k k' : Nat) (rs : List ResultVar) (r : V) (hp : List (Nat × HO)) : Exit → St → Prop
  | .normal, s => ∃ σ, Inj k' (outN k σ) ∧ (∃ y, resV P s rs = some y ∧ VLe y (r.ren (outN k σ))) ∧ ∃ c, HpLe c s.hp (renH (outN k σ) hp)
  | .ret, s => ∃ σ, Inj k' (outN k σ) ∧ (∃ y, resV P s rs = some y ∧ VLe y (r.ren (outN k σ))) ∧ ∃ c, HpLe c s.hp (renH (outN k σ) hp)
  | _, _ => False

theorem AObj.of_WA {f : FuncId} {F : AF} {k : Nat} {vs : List V} {hp hp' : List (Nat × HO)} {r : V} (k' : Nat) (hF : compF C.P f = some F) (hn : vs.length ≤ F.nt)
    (l1 : lowL k vs = true) (l2 : lowH k hp = true) (hkk : k ≤ k') (l3 : r.low k' = true) (l4 : lowH k' hp' = true) (l5 : ∀ i, (lk hp' i).isSome = true → (lk hp i).isSome = true ∨ k ≤ i)
    (h : ∀ B : Base, BOk B k → WA C B F.body (retO C.P k k' F.res r hp') (start k vs hp)) : AObj C f k vs hp k' r hp' := by
  refine ⟨l1, l2, hkk, l3, l4, l5, ?_⟩
  intro S g w args hG hv hH hlow
  unfold compF at hF
  split at hF <;> try (cases hF; done)
  rename_i fn hf
  split at hF <;> try (cases hF; done)
  rename_i c hb
  split at hF <;> try (cases hF; done)
  rename_i body hcb
  cases hF
  let B : Base := ⟨S, g, w, owned g hp, fun i => (lk hp i).isSome = true, k, fn.ntmps⟩
  have hBOk : BOk B k := ⟨rfl, hlow⟩
  have hsr : SR C B S g (start k vs hp) { tmps := args.toArray ++ Array.replicate (fn.ntmps - args.toArray.size) undef, defers := [] } w := by
    refine ⟨rfl, ?_, hG, fun t x hx => ?_, hH, Grow.refl _ _ _, fun i o b hi hb => .inl ⟨i, o, hi, hb⟩, fun i hi => .inl rfl, fun i hi => ⟨hlow i hi, fun h1 h2 => ?_⟩,
      fun i hi _ => rfl, fun i o hi => .inl (by show (lk hp i).isSome = true; have hi' : lk hp i = some o := hi; rw [hi']; rfl), ⟨Nat.le_refl _, Nat.le_refl _⟩, fun i hi => .inl hi, Nat.le_refl _⟩
    · have := hv.len
      simp only [Array.size_append, List.size_toArray, Array.size_replicate]
      show _ = fn.ntmps
      simp only at hn
      omega
    · obtain ⟨i, rfl, hx'⟩ := lk_frs hx
      obtain ⟨v, hv', hr'⟩ := VRl.get hv hx'
      have : (args.toArray ++ Array.replicate (fn.ntmps - args.toArray.size) undef).getD (0 + i) undef = v := by
        have hlt : i < args.length := (List.getElem?_eq_some_iff.1 hv').1
        rw [Array.getD_eq_getD_getElem?, Nat.zero_add, Array.getElem?_append_left (by simpa using hlt)]
        simp [hv']
      rw [this]
      exact hr'
    · simp only [start] at h1 h2; omega
  refine Calls.mono (calls_of_wp (R := fun e w' => ∃ v, e = .returned v ∧ Out C S g w hp (fun i => k ≤ i ∧ i < k') (fun r' h' => r' = r ∧ h' = hp') v w') hf hb (wp_mono (h B hBOk c hcb S g _ w hsr) ?_)) fun e w' h => h
  rintro e a' w' ⟨s', hQ, S', g', hs'⟩
  have key : (∃ σ, Inj k' (outN k σ) ∧ (∃ y, resV C.P s' fn.results.toList = some y ∧ VLe y (r.ren (outN k σ))) ∧ ∃ c, HpLe c s'.hp (renH (outN k σ) hp')) → a'.defers = [] ∧ ∃ v, (results fn a'.tmps).run C.P w' = .ok v w' ∧ ∃ v', Ending.returned v = .returned v' ∧ Out C S g w hp (fun i => k ≤ i ∧ i < k') (fun r' h' => r' = r ∧ h' = hp') v' w' := by
    rintro ⟨σ, hinj, ⟨y, hrv, hle⟩, cc, hh⟩
    obtain ⟨v, hrun, hvr⟩ := resV_ok hs' hrv
    generalize hτ : outN k σ = τ at hinj hle hh
    have hτk : ∀ i, i < k → τ i = i := fun i hi => by rw [← hτ]; simp [outN, hi]
    let g2 : Locs := fun i => if i < k' then g' (τ i) else none
    have ha : Agr k' τ g2 g' := fun i hi => by simp [g2, hi]
    have h2n : ∀ i, g2 i ≠ none → i < k' ∧ g' (τ i) ≠ none := fun i hi => by
      by_cases h1 : i < k'
      · refine ⟨h1, fun h2 => hi (by simp [g2, h2])⟩
      · exact absurd (by simp only [g2, h1, if_false]) hi
    have h2e : ∀ i, g i ≠ none → g2 i = g' i := fun i hi => by
      have h1 := hlow i hi
      simp only [g2]; rw [if_pos (by omega), hτk i h1]
    have hHr : HR S' g' (renH τ hp') w' := by
      refine ⟨fun i o ho => ?_, fun i j oi oj b hi hj e1 e2 => ?_⟩
      · rcases (hh.get ho).2.2 with h3 | ⟨cs, cs', h3, rfl, h5⟩
        · exact hs'.hp.1 i o h3
        · exact (hs'.hp.1 i _ h3).les h5
      · have hold : ∀ i o, lk (renH τ hp') i = some o → ∃ o', lk s'.hp i = some o' := fun i o ho => by
          rcases (hh.get ho).2.2 with h1 | ⟨cs, _, h1, _, _⟩ <;> exact ⟨_, h1⟩
        obtain ⟨oi', hi'⟩ := hold i oi hi
        obtain ⟨oj', hj'⟩ := hold j oj hj
        exact hs'.hp.2 i j oi' oj' b hi' hj' e1 e2
    refine ⟨hs'.dfr, v, hrun, v, rfl, r, hp', S', g2, ⟨rfl, rfl⟩, (VR.ren r ha l3).2 (hle _ _ _ hvr), hs'.good, (HR.ren hinj ha l4).2 hHr, ⟨hs'.grow.size, hs'.grow.sld, hs'.grow.old, hs'.grow.kept⟩, fun i hi => ?_, fun i hi hl => ?_, fun i o hi => ?_, fun i hi => ?_, fun i o b hi hb => ?_⟩
    · rcases hs'.gl i hi with e | ⟨a0, l, c0, a', l', c', e1, e2, e3⟩
      · exact .inl (by rw [h2e i hi, e])
      · exact .inr ⟨a0, l, c0, a', l', c', e1, by rw [h2e i hi]; exact e2, e3⟩
    · rw [h2e i hi]; exact hs'.gk i hi (by show ¬ (lk hp i).isSome = true; rw [hl]; simp)
    · rcases l5 i (by rw [hi]; rfl) with h1 | h1
      · exact .inl h1
      · right
        cases hg : g i with
        | none => rfl
        | some x => have := hlow i (by rw [hg]; simp); omega
    · obtain ⟨h1, h2⟩ := h2n i hi
      by_cases hik : i < k
      · rw [hτk i hik] at h2
        rcases hs'.low i h2 with h3 | h3
        · exact .inl h3
        · exact absurd h3 (by show ¬ k ≤ i; omega)
      · exact .inr ⟨by omega, h1⟩
    · have h1 := lk_low l4 hi
      have h2 : lk (renH τ hp') (τ i) = some (o.ren τ) := by rw [lk_renH hinj l4 h1.1, hi]; rfl
      have hold : ∃ o', lk s'.hp (τ i) = some o' := by
        rcases (hh.get h2).2.2 with h1 | ⟨cs, _, h1, _, _⟩ <;> exact ⟨_, h1⟩
      obtain ⟨o', ho'⟩ := hold
      exact hs'.new (τ i) o' b ho' (by rw [← blk_agr ha h1.1]; exact hb)
  cases e with
  | normal => exact key hQ
  | ret => exact key hQ
  | _ => exact hQ.elim

theorem AObj.fn {f : FuncId} {vs : List V} {r : V} (h : AObj C f 0 vs [] 0 r []) : AFn C f vs r := by
  obtain ⟨l1, _, _, l3, _, _, hc⟩ := h
  intro S g w args hG hv _ _
  have ha : Agr 0 id (fun _ => none) g := fun i hi => absurd hi (Nat.not_lt_zero _)
  have hvv : VRl S (fun _ => none) vs args := VRl.ren (k := 0) (ρ := id) ha l1 (by rw [renL_id]; exact hv)
  refine Calls.mono (hc S (fun _ => none) w args hG hvv ⟨fun i o hi => by simp [lk] at hi, fun i j oi oj b hi => by simp [lk] at hi⟩ (fun _ h => absurd rfl h)) ?_
  rintro e w' ⟨v, rfl, r', h', S', g', ⟨rfl, rfl⟩, a2, a3, a4, a5, a6, a7, a8, a9, a10⟩
  have hgn : ∀ i, g' i = none := fun i => by
    cases hg : g' i with
    | none => rfl
    | some x =>
      rcases a9 i (by rw [hg]; simp) with h | h
      · exact absurd rfl h
      · exact absurd h.2 (Nat.not_lt_zero _)
  have ha' : Agr 0 id g' g := fun i hi => absurd hi (Nat.not_lt_zero _)
  refine ⟨v, rfl, r', [], S', g, ⟨rfl, rfl⟩, ?_, a3, ⟨fun i o hi => by simp [lk] at hi, fun i j oi oj b hi => by simp [lk] at hi⟩, ⟨a5.size, a5.sld, fun b hb hn => a5.old b hb fun ⟨_, _, hx, _⟩ => by simp [lk] at hx, a5.kept⟩, fun _ _ => .inl rfl, fun _ _ _ => rfl, fun i o hi => by simp [lk] at hi, fun i hi => .inl hi, fun i o b hi => by simp [lk] at hi⟩
  have := (VR.ren r' ha' l3).1 a2
  rwa [V.ren_id] at this
/-- Functions of values alone, by their bodies. -/
theorem fn_of_WA {f : FuncId} {F : AF} {vs : List V} {r : V} (hF : compF C.P f = some F) (hn : vs.length ≤ F.nt) (l1 : lowL 0 vs = true) (l3 : r.low 0 = true)
    (h : ∀ B : Base, BOk B 0 → WA C B F.body (retO C.P 0 0 F.res r []) (start 0 vs [])) : AFn C f vs r :=
  (AObj.of_WA (k := 0) 0 hF hn l1 rfl (Nat.le_refl _) l3 rfl (fun i hi => by simp [lk] at hi) h).fn
theorem inj0 {k : Nat} {σ : List Nat} : Inj k (outN k σ) := fun i j hi hj e => by simpa [outN, hi, hj] using e
theorem ret_fn {P : Program} {rs : List ResultVar} {y r : V} {e : Exit} (he : e = .ret ∨ e = .normal) {s : St} (h : resV P s rs = some y) (hl : VLe y r) (hr : r.idf = true) : retO P 0 0 rs r [] e s := by
  have : r.ren (outN 0 []) = r := V.ren_idf hr
  rcases he with rfl | rfl <;> exact ⟨[], inj0, ⟨y, h, by rw [this]; exact hl⟩, 0, .nil⟩
theorem VLe.of_eq {x y : V} (h : x = y) : VLe x y := h ▸ VLe.refl x
end
end Go.Abs

namespace Go.Abs
open Go
/-! More steps: values put in order, functions with objects, calls of function values. -/
/-- The first `k` names by a list, the others from `cn` on. -/
def nth (k : Nat) (ρ : List Nat) (cn i : Nat) : Nat := if i < k then ρ.getD i 0 else cn + (i - k)
def injB (k : Nat) (ρ : List Nat) (cn : Nat) : Bool := (ρ.take k).Nodup && decide (k ≤ ρ.length) && ρ.all fun x => decide (x < cn)
theorem injB_ok {k k' : Nat} {ρ : List Nat} {cn : Nat} (h : injB k ρ cn = true) : Inj k' (nth k ρ cn) := by
  simp only [injB, Bool.and_eq_true, decide_eq_true_eq, List.all_eq_true] at h
  obtain ⟨⟨h1, h2⟩, h3⟩ := h
  have lt : ∀ i, i < k → ρ.getD i 0 < cn := fun i hi => by
    have hl : i < ρ.length := by omega
    rw [List.getD_eq_getElem?_getD, List.getElem?_eq_getElem hl]
    exact h3 _ (List.getElem_mem hl)
  intro i j _ _ e
  simp only [nth] at e
  by_cases hi : i < k
  · by_cases hj : j < k
    · simp only [hi, hj, if_true] at e
      have hi' : i < (ρ.take k).length := by simp; omega
      have hj' : j < (ρ.take k).length := by simp; omega
      exact (List.getElem_inj (h₀ := hi') (h₁ := hj') h1).1 (by
        simp only [List.getElem_take]
        simpa [List.getD_eq_getElem?_getD, List.getElem?_eq_getElem (show i < ρ.length by omega), List.getElem?_eq_getElem (show j < ρ.length by omega)] using e)
    · simp only [hi, hj, if_true, if_false] at e
      have := lt i hi; omega
  · by_cases hj : j < k
    · simp only [hi, hj, if_true, if_false] at e
      have := lt j hj; omega
    · simp only [hi, hj, if_false] at e; omega
theorem AObj.callC {C : Cx} {f : FuncId} {k k' : Nat} {vs0 vs : List V} {hp0 hp0' hp : List (Nat × HO)} {r0 : V} (h : AObj C f k vs0 hp0 k' r0 hp0') (ρ : List Nat) (cn : Nat) (hj : injB k ρ cn = true) (hv : renL (nth k ρ cn) vs0 = vs) (hh : renH (nth k ρ cn) hp0 = hp) :
    CallC C f vs hp cn (cn + (k' - k)) fun r' h' => r' = r0.ren (nth k ρ cn) ∧ h' = renH (nth k ρ cn) hp0' := by
  subst hv; subst hh
  have hN : ∀ j, (∃ i, k ≤ i ∧ i < k' ∧ nth k ρ cn i = j) → cn ≤ j ∧ j < cn + (k' - k) := by
    rintro j ⟨i, h1, h2, rfl⟩
    simp only [nth, Nat.not_lt.2 h1, if_false]
    omega
  refine ⟨Nat.le_add_right _ _, fun S g w args hG hv hH hlt => ?_⟩
  refine Calls.mono (h.call (nth k ρ cn) (injB_ok hj) S g w args hG hv hH (fun j hj => ?_)) ?_
  · cases hg : g j with
    | none => rfl
    | some x => have h1 := hlt j (by rw [hg]; simp); have := (hN j hj).1; omega
  · rintro e w' ⟨v, rfl, r, h', S', g', a1, a2, a3, a4, a5, a6, a7, a8, a9, a10⟩
    exact ⟨v, rfl, r, h', S', g', a1, a2, a3, a4, a5, a6, a7, a8, fun i hi => (a9 i hi).imp id (hN i), a10⟩
def injK (k : Nat) (ρ : List Nat) : Bool := (ρ.take k).Nodup && decide (k ≤ ρ.length)
theorem injK_ok {k : Nat} {ρ : List Nat} (h : injK k ρ = true) : Inj k (nth k ρ 0) := by
  simp only [injK, Bool.and_eq_true, decide_eq_true_eq] at h
  obtain ⟨h1, h2⟩ := h
  intro i j hi hj e
  simp only [nth, hi, hj, if_true] at e
  have hi' : i < (ρ.take k).length := by simp; omega
  have hj' : j < (ρ.take k).length := by simp; omega
  exact (List.getElem_inj (h₀ := hi') (h₁ := hj') h1).1 (by
    simp only [List.getElem_take]
    simpa [List.getD_eq_getElem?_getD, List.getElem?_eq_getElem (show i < ρ.length by omega), List.getElem?_eq_getElem (show j < ρ.length by omega)] using e)
theorem AObj.callK {C : Cx} {f : FuncId} {k : Nat} {vs0 vs : List V} {hp0 hp0' hp : List (Nat × HO)} {r0 : V} (h : AObj C f k vs0 hp0 k r0 hp0') (ρ : List Nat) (cn : Nat) (hj : injK k ρ = true) (hv : renL (nth k ρ 0) vs0 = vs) (hh : renH (nth k ρ 0) hp0 = hp) :
    CallC C f vs hp cn cn fun r' h' => r' = r0.ren (nth k ρ 0) ∧ h' = renH (nth k ρ 0) hp0' := by
  subst hv; subst hh
  refine ⟨Nat.le_refl _, fun S g w args hG hv hH hlt => ?_⟩
  refine Calls.mono (h.call (nth k ρ 0) (injK_ok hj) S g w args hG hv hH (fun j ⟨i, h1, h2, _⟩ => by omega)) ?_
  rintro e w' ⟨v, rfl, r, h', S', g', a1, a2, a3, a4, a5, a6, a7, a8, a9, a10⟩
  exact ⟨v, rfl, r, h', S', g', a1, a2, a3, a4, a5, a6, a7, a8, fun i hi => (a9 i hi).imp id (fun ⟨i, h1, h2, _⟩ => by omega), a10⟩
section
variable {C : Cx} {K : St → Prop} {dd : Nat} {s s' : St} {dst : Option Nat} {gd : Option (Nat × Bool)} {o : AOp} {xs : List AX} {x : AX} {vs : List V} {p : Prop} {e : Eff} {j : Nat} {is : List AI} {it : AI}
theorem sRetE {v v' : V} (hx : aevs C s xs = some vs) (ha : o.act (s.nx + j) vs = some (p, .ret v)) (hp : p) (hv : v = v') (h : AOps C K (j + 1) is (s.put dst v')) :
    AOps C K j (.op dst none o xs :: is) s := by subst hv; exact sRet hx ha hp h
theorem sFnB {f : FuncId} {b : Bool} (hx : aevs C s xs = some vs) (hf : AFn C f vs (.bool b)) (h : ∀ c, c = b → AOps C K (j + 1) is (s.put dst (.bool c))) : AOps C K j (.call dst none f xs :: is) s := sFn hx hf (h b rfl)
theorem sObj {f : FuncId} {k k' : Nat} {vs0 : List V} {hp0 hp0' : List (Nat × HO)} {r0 : V} (ρ ks : List Nat) (hx : aevs C s xs = some vs) (hf : AObj C f k vs0 hp0 k' r0 hp0') (hj : injB k ρ s.cn = true) (hv : renL (nth k ρ s.cn) vs0 = vs)
    (hh : renH (nth k ρ s.cn) hp0 = sub s.hp ks) {r : V} (hr : r0.ren (nth k ρ s.cn) = r) {h' : List (Nat × HO)} (hr' : renH (nth k ρ s.cn) hp0' = h') (h : AOps C K (j + 1) is { (s.put dst r) with hp := h' ++ del s.hp ks, cn := s.cn + (k' - k) }) : AOps C K j (.call dst none f xs :: is) s := by
  simp only [AOps, AStep, gdo, hx]
  refine .inr (.inr ⟨ks, _, _, hf.callC ρ s.cn hj hv hh, ?_⟩)
  rintro r' h'' ⟨rfl, rfl⟩
  subst hr; subst hr'
  cases dst <;> exact h
theorem sDynFn {f : FuncId} {fs cs : List V} {r : V} (hx0 : aev C s x = some (.fn (.func f) fs cs)) (hx : aevs C s xs = some vs) (hi : isFn C.P f = true) (hf : AFn C f (fs ++ vs ++ cs) r) (h : AOps C K (j + 1) is (s.put dst r)) : AOps C K j (.dyn dst none x xs :: is) s := by
  simp only [AOps, AStep, gdo, hx0, hx]; exact ⟨hi, .inl ⟨r, hf, h⟩⟩
theorem sDynObj {f : FuncId} {fs cs : List V} {k k' : Nat} {vs0 : List V} {hp0 hp0' : List (Nat × HO)} {r0 : V} (ρ ks : List Nat) (hx0 : aev C s x = some (.fn (.func f) fs cs)) (hx : aevs C s xs = some vs) (hi : isFn C.P f = true) (hf : AObj C f k vs0 hp0 k' r0 hp0') (hj : injB k ρ s.cn = true) (hv : renL (nth k ρ s.cn) vs0 = fs ++ vs ++ cs)
    (hh : renH (nth k ρ s.cn) hp0 = sub s.hp ks) {r : V} (hr : r0.ren (nth k ρ s.cn) = r) {h' : List (Nat × HO)} (hr' : renH (nth k ρ s.cn) hp0' = h') (h : AOps C K (j + 1) is { (s.put dst r) with hp := h' ++ del s.hp ks, cn := s.cn + (k' - k) }) : AOps C K j (.dyn dst none x xs :: is) s := by
  simp only [AOps, AStep, gdo, hx0, hx]
  refine ⟨hi, .inr (.inr ⟨ks, _, _, hf.callC ρ s.cn hj hv hh, ?_⟩)⟩
  rintro r' h'' ⟨rfl, rfl⟩
  subst hr; subst hr'
  cases dst <;> exact h
end
section
variable {C : Cx} {K : St → Prop} {s s' : St} {dst : Option Nat} {gd : Option (Nat × Bool)} {o : AOp} {xs : List AX} {x : AX} {vs : List V} {p : Prop} {e : Eff} {j base : Nat} {is : List AI} {an : List (List Nat)} {dn : List En} {δ : D}
/-- In a drawn region: a call with objects (and no new ones). -/
theorem tObj {f : FuncId} {k : Nat} {vs0 : List V} {hp0 hp0' : List (Nat × HO)} {r0 : V} (ρ ks : List Nat) (hg : gok s gd = true) (hx : aevs C s xs = some vs) (hf : AObj C f k vs0 hp0 k r0 hp0') (hj : injK k ρ = true) (hv : renL (nth k ρ 0) vs0 = vs)
    (hh : renH (nth k ρ 0) hp0 = sub s.hp ks) {r : V} (hr : r0.ren (nth k ρ 0) = r) {h' : List (Nat × HO)} (hr' : renH (nth k ρ 0) hp0' = h')
    (hc : chk an j ⟨j, .call dst gd f xs, gslot gd ++ slots xs, ks, ⟨dst.map (·, r), ks, h', [], none⟩⟩ dn = true)
    (h : TR C an base K (j + 1) is (D.app ⟨dst.map (·, r), ks, h', [], none⟩ s) (⟨j, .call dst gd f xs, gslot gd ++ slots xs, ks, ⟨dst.map (·, r), ks, h', [], none⟩⟩ :: dn)) :
    TR C an base K j (.call dst gd f xs :: is) s dn := by
  refine ⟨_, rfl, rfl, ⟨fun d hd => (by cases hd), fun s' h1 h2 h3 h4 K' hK' => ?_⟩, hc, h⟩
  refine gdo_ok hg (fun t ht => h1 t (by simp [ht])) ?_
  have hx' : aevs C s' xs = some vs := by rw [aevs_loc (s := s) fun t ht => h1 t (by simp [ht])]; exact hx
  simp only [hx']
  refine .inr (.inr ⟨ks, s'.cn, _, hf.callK ρ s'.cn hj hv (by rw [hh, sub_congr (hp := s.hp) h2]), ?_⟩)
  rintro r' h'' ⟨rfl, rfl⟩
  subst hr; subst hr'
  refine cast (congrArg K' ?_) hK'
  cases dst <;> rfl
theorem tBool {b : Bool} (hg : gok s gd = true) (hx : aevs C s xs = some vs) (ha : o.act (base + j) vs = some (p, .ret (.bool b))) (hp : p)
    (h : ∀ c, c = b → chk an j ⟨j, .op dst gd o xs, gslot gd ++ slots xs, [], ⟨dst.map (·, .bool c), [], [], [], none⟩⟩ dn = true ∧ TR C an base K (j + 1) is (D.app ⟨dst.map (·, .bool c), [], [], [], none⟩ s) (⟨j, .op dst gd o xs, gslot gd ++ slots xs, [], ⟨dst.map (·, .bool c), [], [], [], none⟩⟩ :: dn)) :
    TR C an base K j (.op dst gd o xs :: is) s dn := by
  have hD : (Eff.ret (.bool b)).dl dst s = some ⟨dst.map (·, .bool b), [], [], [], none⟩ := by cases dst <;> rfl
  exact tOp hg hx ha hD hp (h b rfl).1 (h b rfl).2
theorem tRetE {v v' : V} (hg : gok s gd = true) (hx : aevs C s xs = some vs) (ha : o.act (base + j) vs = some (p, .ret v)) (hp : p) (hv : v = v')
    (hc : chk an j ⟨j, .op dst gd o xs, gslot gd ++ slots xs, [], ⟨dst.map (·, v'), [], [], [], none⟩⟩ dn = true) (h : TR C an base K (j + 1) is (D.app ⟨dst.map (·, v'), [], [], [], none⟩ s) (⟨j, .op dst gd o xs, gslot gd ++ slots xs, [], ⟨dst.map (·, v'), [], [], [], none⟩⟩ :: dn)) :
    TR C an base K j (.op dst gd o xs :: is) s dn := by
  subst hv
  have hD : (Eff.ret v).dl dst s = some ⟨dst.map (·, v), [], [], [], none⟩ := by cases dst <;> rfl
  exact tOp hg hx ha hD hp hc h
end
end Go.Abs

namespace Go.Abs
open Go
/-! Steps whose results are put in order. -/
section
variable {C : Cx} {K : St → Prop} {dd : Nat} {s s' : St} {dst : Option Nat} {xs : List AX} {j : Nat} {is : List AI}
theorem wrap64 {n : Int} (h : -9223372036854775808 ≤ n ∧ n ≤ 9223372036854775807) : IntKind.wrap .i64 n = n := by
  simp only [IntKind.wrap, IntKind.bits, IntKind.signed]
  simp
  omega
theorem sAdd {a b : Int} (hx : aevs C s xs = some [.int .i64 a, .int .i64 b]) (hb : -9223372036854775808 ≤ a + b ∧ a + b ≤ 9223372036854775807) (h : AOps C K (j + 1) is (s.put dst (.int .i64 (a + b)))) :
    AOps C K j (.op dst none (.bin .add) xs :: is) s := sRetE hx (by rw [act_bin, vb_add]; rfl) trivial (by rw [wrap64 hb]) h
theorem sSub {a b : Int} (hx : aevs C s xs = some [.int .i64 a, .int .i64 b]) (hb : -9223372036854775808 ≤ a - b ∧ a - b ≤ 9223372036854775807) (h : AOps C K (j + 1) is (s.put dst (.int .i64 (a - b)))) :
    AOps C K j (.op dst none (.bin .sub) xs :: is) s := sRetE hx (by rw [act_bin, vb_sub]; rfl) trivial (by rw [wrap64 hb]) h
theorem getD_map {α : Type} [Inhabited α] (enc : α → V) (l : List α) (i : Nat) (d : V) (h : i < l.length) : (l.map enc).getD i d = enc (l.getD i default) := by
  simp [List.getD_eq_getElem?_getD, List.getElem?_eq_getElem h]
/-- An element of a list. -/
theorem sIdx {α : Type} [Inhabited α] (enc : α → V) {l : List α} {i : Nat} {tk : Option Nat} {k : Nat} {ik : IntKind} (hx : aevs C s xs = some [.sl tk k (l.map enc), .int ik (i : Int)]) (hi : i < l.length)
    (h : AOps C K (j + 1) is (s.put dst (.cp (enc (l.getD i default)).cells 0))) : AOps C K j (.op dst none (.idxa k) xs :: is) s :=
  sRetE (p := 0 ≤ (i : Int) ∧ (i : Int) < (l.map enc).length) hx (by rw [act_idxa]; exact if_pos rfl) ⟨by omega, by simpa using hi⟩ (by rw [Int.toNat_natCast, getD_map enc l i _ hi]) h
theorem sIdxs {l : List UInt8} {i : Nat} {ik : IntKind} (hx : aevs C s xs = some [.str l, .int ik (i : Int)]) (hi : i < l.length)
    (h : AOps C K (j + 1) is (s.put dst (.int .u8 ((l.getD i 0).toNat : Int)))) : AOps C K j (.op dst none .idxs xs :: is) s :=
  sRetE hx (act_idxs _ _ _ _) ⟨by omega, by simpa using hi⟩ (by rw [Int.toNat_natCast]) h
/-- One thing behind a list. -/
theorem sApp {α : Type} (enc : α → V) (x : α) {l : List α} {n e k b : Nat} {tk : Option Nat} (hx : aevs C s xs = some [.sl (some n) k (l.map enc), .sl tk k [enc x]]) (hn : lk s.hp n = some (.tok e k l.length)) (he : elemOk (enc x) = true)
    (hb : l.length + 1 ≤ 1099511627776 ∧ (l.length + 1) * b ≤ 140737488355328)
    (h : AOps C K (j + 1) is { (s.put dst (.sl (some n) k ((l ++ [x]).map enc))) with hp := (n, .tok e k (l ++ [x]).length) :: s.hp }) : AOps C K j (.op dst none (.app e k b) xs :: is) s := by
  refine sEff (s' := { (s.put dst (.sl (some n) k ((l ++ [x]).map enc))) with hp := (n, .tok e k (l ++ [x]).length) :: s.hp }) hx ((act_app1 ..).trans (if_pos ⟨rfl, rfl⟩)) ?_ ⟨by simpa using he, by simpa using hb⟩ h
  simp only [Eff.st, hn, List.length_map]
  simp
/-- A list behind a list. -/
theorem sApps {α : Type} (enc : α → V) {l r : List α} {n e k b : Nat} {tk : Option Nat} (hx : aevs C s xs = some [.sl (some n) k (l.map enc), .sl tk k (r.map enc)]) (hn : lk s.hp n = some (.tok e k l.length)) (he : ∀ x ∈ r, elemOk (enc x) = true)
    (hb : l.length + r.length ≤ 1099511627776 ∧ (l.length + r.length) * b ≤ 140737488355328)
    (h : AOps C K (j + 1) is { (s.put dst (.sl (some n) k ((l ++ r).map enc))) with hp := (n, .tok e k (l ++ r).length) :: s.hp }) : AOps C K j (.op dst none (.app e k b) xs :: is) s := by
  refine sEff (s' := { (s.put dst (.sl (some n) k ((l ++ r).map enc))) with hp := (n, .tok e k (l ++ r).length) :: s.hp }) hx ((act_app1 ..).trans (if_pos ⟨rfl, rfl⟩)) ?_ ⟨by simpa using he, by simpa using hb⟩ h
  simp only [Eff.st, hn, List.length_map]
  simp
end
/-- A truth value that an object holds gets a name. -/
theorem sEffB {C : Cx} {K : St → Prop} {s : St} {dst : Option Nat} {o : AOp} {xs : List AX} {vs : List V} {p : Prop} {e : Eff} {j : Nat} {is : List AI} {b : Bool} (hx : aevs C s xs = some vs) (ha : o.act (s.nx + j) vs = some (p, e)) (he : e.st dst s = some (s.put dst (.bool b))) (hp : p)
    (h : ∀ c, c = b → AOps C K (j + 1) is (s.put dst (.bool c))) : AOps C K j (.op dst none o xs :: is) s := sEff hx ha he hp (h b rfl)
end Go.Abs

namespace Go.Abs
open Go
/-! Numbers and bytes: what layers 1, 2, 10 and 15 compute, in plain Lean. -/
theorem wrapU64 {n : Int} (h : 0 ≤ n ∧ n < 18446744073709551616) : IntKind.wrap .u64 n = n := by
  simp only [IntKind.wrap, IntKind.bits, IntKind.signed]; simp; omega
theorem wrapU64m (n : Int) : IntKind.wrap .u64 n = n % 18446744073709551616 := by
  simp only [IntKind.wrap, IntKind.bits, IntKind.signed]; simp
theorem wrapU32 (n : Int) : IntKind.wrap .u32 n = n % 4294967296 := by
  simp only [IntKind.wrap, IntKind.bits, IntKind.signed]; simp
theorem wrapU8 (n : Int) : IntKind.wrap .u8 n = n % 256 := by
  simp only [IntKind.wrap, IntKind.bits, IntKind.signed]; simp
theorem wrapI64 (n : Nat) (h : n < 18446744073709551616) : IntKind.wrap .i64 n = if n < 9223372036854775808 then (n : Int) else n - 18446744073709551616 := by
  simp only [IntKind.wrap, IntKind.bits, IntKind.signed]; simp; split <;> omega
theorem modU (n m : Nat) : Int.tmod (n : Int) (m : Int) = ((n % m : Nat) : Int) := by rw [Int.tmod_eq_emod_of_nonneg (by omega)]; simp
theorem divU {n : Nat} (h : n < 18446744073709551616) (m : Nat) : IntKind.wrap .u64 (Int.tdiv (n : Int) (m : Int)) = ((n / m : Nat) : Int) := by
  rw [Int.tdiv_eq_ediv_of_nonneg (by omega), wrapU64]
  · simp
  · have := Nat.div_le_self n m
    have e : (n : Int) / (m : Int) = ((n / m : Nat) : Int) := (Int.natCast_ediv n m).symm
    rw [e]
    generalize n / m = q at *
    omega
theorem encB_ofNat (n : Nat) : V.int .u8 (((n % 256 : Nat)) : Int) = encB (UInt8.ofNat n) := by
  simp [encB]
def encU (n : Nat) : V := .int .u64 n

def numK (k : Int) : Bool := decide ((1 ≤ k ∧ k ≤ 13) ∨ k = 16)
def wireK (k : Int) : Int := if k = 1 ∨ k = 10 ∨ k = 12 then 1 else if k = 2 ∨ k = 9 ∨ k = 11 then 5 else if k = 14 ∨ k = 15 ∨ k = 17 then 2 else if numK k then 0 else -1
def zigN (n : Nat) : Nat := if n < 9223372036854775808 then n * 2 else (18446744073709551615 - n) * 2 + 1
def backK (k : Int) (n : Nat) : Nat := if numK k = false then 0 else if k = 7 ∨ k = 8 then zigN n else if k = 11 then n % 4294967296 else n
def leB (n : Nat) : Nat → List UInt8
  | 0 => []
  | m + 1 => leB n m ++ [UInt8.ofNat (n / 256 ^ m)]
theorem leB_len (n m : Nat) : (leB n m).length = m := by induction m with | zero => rfl | succ m ih => simp [leB, ih]
def vput (n : Nat) : List UInt8 := if n < 128 then [UInt8.ofNat n] else UInt8.ofNat (n % 128 + 128) :: vput (n / 128)
  termination_by n
  decreasing_by omega
theorem vput_ge {n : Nat} (h : ¬ n < 128) : vput n = UInt8.ofNat (n % 128 + 128) :: vput (n / 128) := by
  conv => lhs; rw [vput]
  rw [if_neg h]
theorem vput_lt {n : Nat} (h : n < 128) : vput n = [UInt8.ofNat n] := by rw [vput, if_pos h]
def encN (k : Int) (n : Nat) : List UInt8 := if wireK k = 1 then leB (backK k n) 8 else if wireK k = 5 then leB (backK k n % 4294967296) 4 else vput (backK k n)
def rowK (k : Int) (l : List Nat) : List UInt8 := if numK k = true then l.flatMap (encN k) else []
theorem zigN_lt {n : Nat} (h : n < 18446744073709551616) : zigN n < 18446744073709551616 := by unfold zigN; split <;> omega
theorem backK_lt {k : Int} {n : Nat} (h : n < 18446744073709551616) : backK k n < 18446744073709551616 := by
  unfold backK; have := zigN_lt h; split <;> (try split) <;> (try split) <;> omega
theorem vput_len {n : Nat} (h : n < 18446744073709551616) : (vput n).length ≤ 10 := by
  have key : ∀ m n : Nat, n < 128 ^ (m + 1) → (vput n).length ≤ m + 1 := by
    intro m
    induction m with
    | zero => intro n h; rw [vput]; split <;> simp_all
    | succ m ih =>
      intro n h
      rw [vput]
      split
      · simp
      · have := ih (n / 128) (by rw [Nat.div_lt_iff_lt_mul (by omega)]; rw [Nat.pow_succ] at h; exact h)
        simp; omega
  exact key 9 n (by omega)
theorem encN_len {k : Int} {n : Nat} (h : n < 18446744073709551616) : (encN k n).length ≤ 10 := by
  unfold encN
  split
  · simp [leB_len]
  · split
    · simp [leB_len]
    · exact vput_len (backK_lt h)
theorem zig_xor {n : Nat} (h : n < 18446744073709551616) :
    (IntKind.wrap .u64 ((BitVec.ofInt 64 (IntKind.wrap .u64 (IntKind.wrap .u64 (IntKind.wrap .i64 n) * 2 ^ 1)) ^^^ BitVec.ofInt 64 (IntKind.wrap .u64 ((IntKind.wrap .i64 n).fdiv (2 ^ 63)))).toNat : Int)) = (zigN n : Nat) := by
  rw [wrapI64 n h]
  unfold zigN
  split
  · rename_i h1
    have e1 : ((n : Int)).fdiv (2 ^ 63) = 0 := by rw [Int.fdiv_eq_ediv_of_nonneg _ (by omega)]; omega
    rw [e1, wrapU64 (n := 0) (by omega), wrapU64 (n := (n : Int)) (by omega), wrapU64 (n := (n : Int) * 2 ^ 1) (by omega), wrapU64]
    · simp; omega
    · simp; omega
  · rename_i h1
    have e1 : ((n : Int) - 18446744073709551616).fdiv (2 ^ 63) = -1 := by rw [Int.fdiv_eq_ediv_of_nonneg _ (by omega)]; omega
    have e2 : IntKind.wrap .u64 ((n : Int) - 18446744073709551616) = n := by rw [wrapU64m]; omega
    have e3 : IntKind.wrap .u64 ((n : Int) * 2 ^ 1) = ((2 * n - 18446744073709551616 : Nat) : Int) := by rw [wrapU64m]; omega
    have e4 : IntKind.wrap .u64 (-1) = ((18446744073709551615 : Nat) : Int) := by rw [wrapU64m]; decide
    rw [e1, e2, e3, e4, BitVec.ofInt_natCast, BitVec.ofInt_natCast]
    have e5 : BitVec.ofNat 64 18446744073709551615 = BitVec.allOnes 64 := by decide
    rw [e5, BitVec.xor_allOnes, BitVec.toNat_not, BitVec.toNat_ofNat, wrapU64]
    · have : (2 * n - 18446744073709551616) % 2 ^ 64 = 2 * n - 18446744073709551616 := Nat.mod_eq_of_lt (by omega)
      rw [this]; omega
    · have := Nat.mod_lt (2 * n - 18446744073709551616) (show 0 < 2 ^ 64 by decide); omega
/-- A byte with its highest bit set. -/
theorem or_128 (n : Nat) : IntKind.wrap .u8 ((BitVec.ofInt 8 (IntKind.wrap .u8 n) ||| BitVec.ofInt 8 128).toNat : Int) = ((n % 128 + 128 : Nat) : Int) := by
  have key : ∀ b : BitVec 8, (b ||| 128#8).toNat = b.toNat % 128 + 128 := by decide
  have e1 : IntKind.wrap .u8 (n : Int) = ((n % 256 : Nat) : Int) := by rw [wrapU8]; omega
  rw [e1, BitVec.ofInt_natCast]
  have := key (BitVec.ofNat 8 (n % 256))
  have e2 : BitVec.ofInt 8 128 = 128#8 := by decide
  rw [e2, this, wrapU8]
  simp only [BitVec.toNat_ofNat]
  omega
/-- The lowest bits of a shifted number. -/
theorem shr_8 {n i : Nat} (h : i < 8) : (n : Int).fdiv (2 ^ (min (((8 * i : Nat) : Int)).toNat (IntKind.bits .u64))) = ((n / 256 ^ i : Nat) : Int) := by
  have e : min (((8 * i : Nat) : Int)).toNat (IntKind.bits .u64) = 8 * i := by simp only [IntKind.bits, Int.toNat_natCast]; omega
  rw [e, Int.fdiv_eq_ediv_of_nonneg _ (by exact Int.le_of_lt (Int.pow_pos (by decide)))]
  have : (256 : Nat) ^ i = 2 ^ (8 * i) := by rw [Nat.pow_mul]
  rw [this]
  simp
def sgnN (n : Nat) : Nat := if n % 4294967296 ≥ 2147483648 then n % 4294967296 + 18446744069414584320 else n % 4294967296
theorem AFn.le {C : Cx} {f : FuncId} {vs vs' : List V} {r : V} (h : AFn C f vs' r) (hl : VLes vs vs') : AFn C f vs r := by
  intro S g w args hG hv hH hN
  refine h S g w args hG ?_ hH hN
  have : ∀ {xs ys : List V} {as : List Value}, VLes xs ys → VRl S g xs as → VRl S g ys as := by
    intro xs ys as hl
    induction hl generalizing as with
    | nil => exact fun h => h
    | cons h1 _ ih => intro h; cases h with | cons h2 h3 => exact .cons (h1 _ _ _ h2) (ih h3)
  exact this hl hv
theorem take_flatMap {α β : Type} [Inhabited α] (f : α → List β) (l : List α) (i : Nat) (h : i < l.length) : (l.take (i + 1)).flatMap f = (l.take i).flatMap f ++ f (l.getD i default) := by
  rw [List.take_add_one, List.flatMap_append, List.getD_eq_getElem?_getD, List.getElem?_eq_getElem h]
  simp
theorem getD_mem {α : Type} [Inhabited α] (l : List α) (i : Nat) (h : i < l.length) : l.getD i default ∈ l := by
  rw [List.getD_eq_getElem?_getD, List.getElem?_eq_getElem h]
  exact List.getElem_mem h
theorem flat_len (k : Int) (l : List Nat) (h : ∀ n ∈ l, n < 18446744073709551616) (i : Nat) : ((l.take i).flatMap (encN k)).length ≤ 10 * i := by
  have key : ∀ l : List Nat, (∀ n ∈ l, n < 18446744073709551616) → (l.flatMap (encN k)).length ≤ 10 * l.length := by
    intro l
    induction l with
    | nil => intro _; simp
    | cons n l ih =>
      intro h
      have h1 := encN_len (k := k) (h n (by simp))
      have h2 := ih fun m hm => h m (by simp [hm])
      simp only [List.flatMap_cons, List.length_append, List.length_cons]
      omega
  have h1 := key (l.take i) fun n hn => h n (List.mem_of_mem_take hn)
  have h2 := List.length_take_le i l
  omega
section
variable {α : Type} [BEq α] [LawfulBEq α] {a b : α} {p q : Prop} [Decidable p] {c d : Bool}
theorem bn1 : (false = decide p) = ¬ p := by simp
theorem bn2 : (true = decide p) = p := by simp
theorem bn3 : (false = (a == b)) = (a ≠ b) := by simp
theorem bn4 : (true = (a == b)) = (a = b) := by simp
theorem bn5 : (false = (a != b)) = (a = b) := by simp
theorem bn6 : (true = (a != b)) = (a ≠ b) := by simp
theorem bn7 : (false = !c) = (c = true) := by simp
theorem bn8 : (true = !c) = (c = false) := by simp
theorem bn9 : (true = c) = (c = true) := by simp
theorem bn10 : (false = c) = (c = false) := by simp
end
theorem act_b2sM (d : Nat) (tk : Option Nat) (l : List UInt8) : AOp.b2s.act d [.sl tk 1 (l.map encB)] = some (True, .ret (.str l)) := by simp [AOp.act, toB_map]
/-- A table of compiled functions. -/
inductive TabOK (P : Program) : List (Nat × AF) → Prop
  | nil : TabOK P []
  | cons {f : Nat} {F : AF} {r : List (Nat × AF)} : compF P f = some F → TabOK P r → TabOK P ((f, F) :: r)
theorem TabOK.lk {P : Program} {tab : List (Nat × AF)} (h : TabOK P tab) : ∀ f F, Abs.lk tab f = some F → compF P f = some F := by
  induction h with
  | nil => intro f F h; simp [Abs.lk] at h
  | cons h1 _ ih =>
    intro f F h
    simp only [Abs.lk] at h
    split at h
    · rename_i e; subst e; cases h; exact h1
    · exact ih f F h
end Go.Abs

namespace Go.Abs
open Go
/-! Facts of calls on given values, used in further runs. -/
def rawTag : Value → Option Nat
  | .nilIface => some 0
  | .nilFunc => some 1
  | .pointer none => some 2
  | .slice none 0 0 => some 3
  | .map none => some 4
  | _ => none
theorem rawTag_inj {v w : Value} {n : Nat} (h : rawTag v = some n) (h' : rawTag w = some n) : v = w := by
  unfold rawTag at h h'
  split at h <;> simp only [Option.some.injEq, reduceCtorEq] at h <;> subst h <;> split at h' <;> simp_all
mutual
def V.eqv : V → V → Bool
  | .int k n, .int k' n' => decide (k = k') && decide (n = n')
  | .bool b, .bool c => b == c
  | .str s, .str t => decide (s = t)
  | .raw v, .raw w => match rawTag v, rawTag w with
    | some a, some b => decide (a = b)
    | _, _ => false
  | .cp cs o, .cp ds p => eqvL cs ds && decide (o = p)
  | .sl none k xs, .sl none k' ys => decide (k = k') && eqvL xs ys
  | .agg cs, .agg ds => eqvL cs ds
  | .tuple cs, .tuple ds => eqvL cs ds
  | .iface t x, .iface u y => decide (t = u) && x.eqv y
  | .fn (.func f) fs cs, .fn (.func g) gs ds => decide (f = g) && eqvL fs gs && eqvL cs ds
  | _, _ => false
def eqvL : List V → List V → Bool
  | [], [] => true
  | x :: xs, y :: ys => x.eqv y && eqvL xs ys
  | _, _ => false
end
mutual
theorem V.eqv_ok : ∀ {x y : V}, x.eqv y = true → x = y
  | .int k n, y, h => by cases y <;> simp [V.eqv] at h; obtain ⟨rfl, rfl⟩ := h; rfl
  | .bool b, y, h => by cases y <;> simp [V.eqv] at h; subst h; rfl
  | .str s, y, h => by cases y <;> simp [V.eqv] at h; subst h; rfl
  | .raw v, y, h => by
    cases y <;> simp only [V.eqv, Bool.false_eq_true] at h
    split at h
    · rename_i a b h1 h2
      have : a = b := by simpa using h
      subst this
      rw [rawTag_inj h1 h2]
    · cases h
  | .ptr _ _, y, h => by cases y <;> simp [V.eqv] at h
  | .mp _, y, h => by cases y <;> simp [V.eqv] at h
  | .ls _ _ _ _, y, h => by cases y <;> simp [V.eqv] at h
  | .cp cs o, y, h => by
    cases y <;> simp only [V.eqv, Bool.false_eq_true, Bool.and_eq_true, decide_eq_true_eq] at h
    rw [eqvL_ok h.1, h.2]
  | .sl (some _) k xs, y, h => by cases y <;> simp [V.eqv] at h
  | .sl none k xs, y, h => by
    cases y with
    | sl tk k' ys =>
      cases tk <;> simp only [V.eqv, Bool.false_eq_true, Bool.and_eq_true, decide_eq_true_eq] at h
      rw [eqvL_ok h.2, h.1]
    | _ => simp [V.eqv] at h
  | .agg cs, y, h => by
    cases y <;> simp only [V.eqv, Bool.false_eq_true] at h
    rw [eqvL_ok h]
  | .tuple cs, y, h => by
    cases y <;> simp only [V.eqv, Bool.false_eq_true] at h
    rw [eqvL_ok h]
  | .iface t x, y, h => by
    cases y <;> simp only [V.eqv, Bool.false_eq_true, Bool.and_eq_true, decide_eq_true_eq] at h
    rw [V.eqv_ok h.2, h.1]
  | .fn f fs cs, y, h => by
    cases y with
    | fn g gs ds =>
      cases f <;> cases g <;> simp only [V.eqv, Bool.false_eq_true, Bool.and_eq_true, decide_eq_true_eq] at h
      rw [eqvL_ok h.1.2, eqvL_ok h.2, h.1.1]
    | _ => cases f <;> simp [V.eqv] at h
theorem eqvL_ok : ∀ {xs ys : List V}, eqvL xs ys = true → xs = ys
  | [], [], _ => rfl
  | [], _ :: _, h => by simp [eqvL] at h
  | _ :: _, [], h => by simp [eqvL] at h
  | x :: xs, y :: ys, h => by
    simp only [eqvL, Bool.and_eq_true] at h
    rw [V.eqv_ok h.1, eqvL_ok h.2]
end
def memo : List (List V × V) → List V → Option V
  | [], _ => none
  | (as, r) :: l, vs => if eqvL as (vs.map V.strip) then some r else memo l vs
inductive MemoOK (C : Cx) (f : FuncId) : List (List V × V) → Prop
  | nil : MemoOK C f []
  | cons {as : List V} {r : V} {l : List (List V × V)} : AFn C f as r → MemoOK C f l → MemoOK C f ((as, r) :: l)
theorem MemoOK.get {C : Cx} {f : FuncId} {l : List (List V × V)} (h : MemoOK C f l) : ∀ {vs : List V} {r : V}, memo l vs = some r → AFn C f vs r := by
  induction h with
  | nil => intro vs r h; simp [memo] at h
  | cons h1 _ ih =>
    intro vs r h
    simp only [memo] at h
    split at h
    · rename_i he
      cases h
      have h2 := eqvL_ok he
      intro S g w args hG hv hH hN
      exact h1 S g w args hG (by rw [h2]; exact hv.strip) hH hN
    · exact ih h
def ExtOK (C : Cx) (ext : List (Nat × (List V → Option V))) : Prop := ∀ f h vs r, lk ext f = some h → h vs = some r → AFn C f vs r
theorem ExtOK.nil (C : Cx) : ExtOK C [] := fun f h vs r hf => by simp [lk] at hf
theorem ExtOK.cons {C : Cx} {f : FuncId} {l : List (List V × V)} {ext : List (Nat × (List V → Option V))} (h : MemoOK C f l) (he : ExtOK C ext) : ExtOK C ((f, memo l) :: ext) := by
  intro g k vs r hg hk
  simp only [lk] at hg
  split at hg
  · rename_i e; subst e; cases hg; exact h.get hk
  · exact he g k vs r hg hk
theorem fact_of_ok {C : Cx} {f : FuncId} {vs : List V} {r : V} {hp' : List (Nat × HO)} {cn' : Nat} (h : CallOK C f vs [] 0 r hp' cn') (hi : idfL vs = true) (hr : r.strip.idf = true) : AFn C f vs r.strip := by
  obtain ⟨_, hA⟩ := h
  intro S g w args hG hv _ _
  refine Calls.mono (hA S (fun _ => none) w args hG (VRl_idf hv hi) ⟨fun i o hi => by simp [lk] at hi, fun i j oi oj b hi => by simp [lk] at hi⟩ (fun i hi => absurd rfl hi)) ?_
  rintro e w' ⟨v, rfl, r', h', S', g', ⟨rfl, rfl⟩, a2, a3, a4, a5, a6, a7, a8, a9, a10⟩
  refine ⟨v, rfl, r'.strip, [], S', g, ⟨rfl, rfl⟩, VR.idf _ hr (strip_le r' a2), a3, ⟨fun i o hi => by simp [lk] at hi, fun i j oi oj b hi => by simp [lk] at hi⟩, ⟨a5.size, a5.sld, fun b hb hn => a5.old b hb (by rintro ⟨i, o, hx, _⟩; simp [lk] at hx), a5.kept⟩, fun _ _ => .inl rfl, fun _ _ _ => rfl, fun i o hi => by simp [lk] at hi, fun i hi => .inl hi, fun i o b hi => by simp [lk] at hi⟩
theorem fact {C : Cx} {tab : List (Nat × AF)} {ext : List (Nat × (List V → Option V))} (ht : TabOK C.P tab) (he : ExtOK C ext) (m n : Nat) {f : FuncId} {vs : List V} {r : V}
    (h : ((evF C tab ext m n f vs [] 0).map fun x => x.1.strip) = some r) (hi : idfL vs = true) (hr : r.idf = true) : AFn C f vs r := by
  rw [Option.map_eq_some_iff] at h
  obtain ⟨⟨r', hp, cn⟩, h1, h2⟩ := h
  simp only at h2
  subst h2
  exact fact_of_ok (evF_ok (C := C) ht.lk he n _ _ _ _ _ _ _ h1) hi hr
end Go.Abs

