/-
  The law's first fact holds, and the law is true at every kind and every list of numbers. Conditions: numbers below 2 to the 64.
-/
import Derived.Test.YtdachjbobngakaaGreatDoorEncM
import Derived.Test.YtdachjbobngakaaGreatDoorEncW
namespace Go.Proofs
open Go Go.Abs
set_option maxRecDepth 1000000 in
theorem m28_0 : AFn CE 28 [(.str [115, 121, 110, 116, 97, 120, 32, 61, 32, 39, 112, 114, 111, 116, 111, 51, 39, 59, 32, 109, 101, 115, 115, 97, 103, 101, 32, 65, 32, 123, 32, 105, 110, 116, 51, 50, 32, 120, 32, 61, 32, 49, 59, 32, 125])] (.tuple [(.sl none 5 [(.agg [(.int .i64 1), (.str [115, 121, 110, 116, 97, 120]), (.int .i64 0), (.int .i64 1), (.int .i64 1)]), (.agg [(.int .i64 4), (.str [61]), (.int .i64 0), (.int .i64 1), (.int .i64 8)]), (.agg [(.int .i64 3), (.str [112, 114, 111, 116, 111, 51]), (.int .i64 0), (.int .i64 1), (.int .i64 10)]), (.agg [(.int .i64 4), (.str [59]), (.int .i64 0), (.int .i64 1), (.int .i64 18)]), (.agg [(.int .i64 1), (.str [109, 101, 115, 115, 97, 103, 101]), (.int .i64 0), (.int .i64 1), (.int .i64 20)]), (.agg [(.int .i64 1), (.str [65]), (.int .i64 0), (.int .i64 1), (.int .i64 28)]), (.agg [(.int .i64 4), (.str [123]), (.int .i64 0), (.int .i64 1), (.int .i64 30)]), (.agg [(.int .i64 1), (.str [105, 110, 116, 51, 50]), (.int .i64 0), (.int .i64 1), (.int .i64 32)]), (.agg [(.int .i64 1), (.str [120]), (.int .i64 0), (.int .i64 1), (.int .i64 38)]), (.agg [(.int .i64 4), (.str [61]), (.int .i64 0), (.int .i64 1), (.int .i64 40)]), (.agg [(.int .i64 2), (.str [49]), (.int .i64 1), (.int .i64 1), (.int .i64 42)]), (.agg [(.int .i64 4), (.str [59]), (.int .i64 0), (.int .i64 1), (.int .i64 43)]), (.agg [(.int .i64 4), (.str [125]), (.int .i64 0), (.int .i64 1), (.int .i64 45)])]), (.raw .nilIface)]) := fact (C := CE) tabC_ok (.cons ml51 (.cons ml94 (.nil _))) 1000 40 (by kernel_rfl) rfl rfl
def l28 : List (List V × V) := [([(.str [115, 121, 110, 116, 97, 120, 32, 61, 32, 39, 112, 114, 111, 116, 111, 51, 39, 59, 32, 109, 101, 115, 115, 97, 103, 101, 32, 65, 32, 123, 32, 105, 110, 116, 51, 50, 32, 120, 32, 61, 32, 49, 59, 32, 125])], (.tuple [(.sl none 5 [(.agg [(.int .i64 1), (.str [115, 121, 110, 116, 97, 120]), (.int .i64 0), (.int .i64 1), (.int .i64 1)]), (.agg [(.int .i64 4), (.str [61]), (.int .i64 0), (.int .i64 1), (.int .i64 8)]), (.agg [(.int .i64 3), (.str [112, 114, 111, 116, 111, 51]), (.int .i64 0), (.int .i64 1), (.int .i64 10)]), (.agg [(.int .i64 4), (.str [59]), (.int .i64 0), (.int .i64 1), (.int .i64 18)]), (.agg [(.int .i64 1), (.str [109, 101, 115, 115, 97, 103, 101]), (.int .i64 0), (.int .i64 1), (.int .i64 20)]), (.agg [(.int .i64 1), (.str [65]), (.int .i64 0), (.int .i64 1), (.int .i64 28)]), (.agg [(.int .i64 4), (.str [123]), (.int .i64 0), (.int .i64 1), (.int .i64 30)]), (.agg [(.int .i64 1), (.str [105, 110, 116, 51, 50]), (.int .i64 0), (.int .i64 1), (.int .i64 32)]), (.agg [(.int .i64 1), (.str [120]), (.int .i64 0), (.int .i64 1), (.int .i64 38)]), (.agg [(.int .i64 4), (.str [61]), (.int .i64 0), (.int .i64 1), (.int .i64 40)]), (.agg [(.int .i64 2), (.str [49]), (.int .i64 1), (.int .i64 1), (.int .i64 42)]), (.agg [(.int .i64 4), (.str [59]), (.int .i64 0), (.int .i64 1), (.int .i64 43)]), (.agg [(.int .i64 4), (.str [125]), (.int .i64 0), (.int .i64 1), (.int .i64 45)])]), (.raw .nilIface)]))]
theorem ml28 : MemoOK CE 28 l28 := .cons m28_0 <| .nil
end Go.Proofs

namespace Go.Proofs
open Go Go.Abs
set_option maxRecDepth 1000000 in
theorem m29_0 : AFn CE 29 [(.sl none 5 [(.agg [(.int .i64 1), (.str [115, 121, 110, 116, 97, 120]), (.int .i64 0), (.int .i64 1), (.int .i64 1)]), (.agg [(.int .i64 4), (.str [61]), (.int .i64 0), (.int .i64 1), (.int .i64 8)]), (.agg [(.int .i64 3), (.str [112, 114, 111, 116, 111, 51]), (.int .i64 0), (.int .i64 1), (.int .i64 10)]), (.agg [(.int .i64 4), (.str [59]), (.int .i64 0), (.int .i64 1), (.int .i64 18)]), (.agg [(.int .i64 1), (.str [109, 101, 115, 115, 97, 103, 101]), (.int .i64 0), (.int .i64 1), (.int .i64 20)]), (.agg [(.int .i64 1), (.str [65]), (.int .i64 0), (.int .i64 1), (.int .i64 28)]), (.agg [(.int .i64 4), (.str [123]), (.int .i64 0), (.int .i64 1), (.int .i64 30)]), (.agg [(.int .i64 1), (.str [105, 110, 116, 51, 50]), (.int .i64 0), (.int .i64 1), (.int .i64 32)]), (.agg [(.int .i64 1), (.str [120]), (.int .i64 0), (.int .i64 1), (.int .i64 38)]), (.agg [(.int .i64 4), (.str [61]), (.int .i64 0), (.int .i64 1), (.int .i64 40)]), (.agg [(.int .i64 2), (.str [49]), (.int .i64 1), (.int .i64 1), (.int .i64 42)]), (.agg [(.int .i64 4), (.str [59]), (.int .i64 0), (.int .i64 1), (.int .i64 43)]), (.agg [(.int .i64 4), (.str [125]), (.int .i64 0), (.int .i64 1), (.int .i64 45)])])] (.tuple [(.agg [(.str []), (.sl none 9 [(.agg [(.str [65]), (.sl none 10 [(.agg [(.str [120]), (.str [105, 110, 116, 51, 50]), (.str []), (.str []), (.int .i64 1), (.int .i64 1), (.int .i64 0), (.int .i64 0), (.int .i64 1), (.int .i64 38)])]), (.raw (.slice none 0 0)), (.raw (.slice none 0 0)), (.raw (.slice none 0 0)), (.raw (.slice none 0 0)), (.raw (.slice none 0 0)), (.int .i64 1), (.int .i64 28)])]), (.raw (.slice none 0 0))]), (.raw .nilIface)]) := fact (C := CE) tabA_ok (.nil _) 1000 40 (by kernel_rfl) rfl rfl
def l29 : List (List V × V) := [([(.sl none 5 [(.agg [(.int .i64 1), (.str [115, 121, 110, 116, 97, 120]), (.int .i64 0), (.int .i64 1), (.int .i64 1)]), (.agg [(.int .i64 4), (.str [61]), (.int .i64 0), (.int .i64 1), (.int .i64 8)]), (.agg [(.int .i64 3), (.str [112, 114, 111, 116, 111, 51]), (.int .i64 0), (.int .i64 1), (.int .i64 10)]), (.agg [(.int .i64 4), (.str [59]), (.int .i64 0), (.int .i64 1), (.int .i64 18)]), (.agg [(.int .i64 1), (.str [109, 101, 115, 115, 97, 103, 101]), (.int .i64 0), (.int .i64 1), (.int .i64 20)]), (.agg [(.int .i64 1), (.str [65]), (.int .i64 0), (.int .i64 1), (.int .i64 28)]), (.agg [(.int .i64 4), (.str [123]), (.int .i64 0), (.int .i64 1), (.int .i64 30)]), (.agg [(.int .i64 1), (.str [105, 110, 116, 51, 50]), (.int .i64 0), (.int .i64 1), (.int .i64 32)]), (.agg [(.int .i64 1), (.str [120]), (.int .i64 0), (.int .i64 1), (.int .i64 38)]), (.agg [(.int .i64 4), (.str [61]), (.int .i64 0), (.int .i64 1), (.int .i64 40)]), (.agg [(.int .i64 2), (.str [49]), (.int .i64 1), (.int .i64 1), (.int .i64 42)]), (.agg [(.int .i64 4), (.str [59]), (.int .i64 0), (.int .i64 1), (.int .i64 43)]), (.agg [(.int .i64 4), (.str [125]), (.int .i64 0), (.int .i64 1), (.int .i64 45)])])], (.tuple [(.agg [(.str []), (.sl none 9 [(.agg [(.str [65]), (.sl none 10 [(.agg [(.str [120]), (.str [105, 110, 116, 51, 50]), (.str []), (.str []), (.int .i64 1), (.int .i64 1), (.int .i64 0), (.int .i64 0), (.int .i64 1), (.int .i64 38)])]), (.raw (.slice none 0 0)), (.raw (.slice none 0 0)), (.raw (.slice none 0 0)), (.raw (.slice none 0 0)), (.raw (.slice none 0 0)), (.int .i64 1), (.int .i64 28)])]), (.raw (.slice none 0 0))]), (.raw .nilIface)]))]
theorem ml29 : MemoOK CE 29 l29 := .cons m29_0 <| .nil
end Go.Proofs

namespace Go.Proofs
open Go Go.Abs
set_option maxRecDepth 1000000 in
theorem m13_0 : AFn CE 13 [(.agg [(.str []), (.sl none 9 [(.agg [(.str [65]), (.sl none 10 [(.agg [(.str [120]), (.str [105, 110, 116, 51, 50]), (.str []), (.str []), (.int .i64 1), (.int .i64 1), (.int .i64 0), (.int .i64 0), (.int .i64 1), (.int .i64 38)])]), (.raw (.slice none 0 0)), (.raw (.slice none 0 0)), (.raw (.slice none 0 0)), (.raw (.slice none 0 0)), (.raw (.slice none 0 0)), (.int .i64 1), (.int .i64 28)])]), (.raw (.slice none 0 0))])] (.tuple [(.agg [(.sl none 3 [(.agg [(.str [65]), (.sl none 9 [(.agg [(.str [120]), (.int .i64 1), (.int .i64 1), (.int .i64 3), (.int .i64 0), (.bool false), (.int .i64 0), (.int .i64 0), (.int .i64 0)])]), (.raw (.slice none 0 0))])]), (.raw (.slice none 0 0))]), (.raw .nilIface)]) := fact (C := CE) tabA_ok (.nil _) 1000 40 (by kernel_rfl) rfl rfl
def l13 : List (List V × V) := [([(.agg [(.str []), (.sl none 9 [(.agg [(.str [65]), (.sl none 10 [(.agg [(.str [120]), (.str [105, 110, 116, 51, 50]), (.str []), (.str []), (.int .i64 1), (.int .i64 1), (.int .i64 0), (.int .i64 0), (.int .i64 1), (.int .i64 38)])]), (.raw (.slice none 0 0)), (.raw (.slice none 0 0)), (.raw (.slice none 0 0)), (.raw (.slice none 0 0)), (.raw (.slice none 0 0)), (.int .i64 1), (.int .i64 28)])]), (.raw (.slice none 0 0))])], (.tuple [(.agg [(.sl none 3 [(.agg [(.str [65]), (.sl none 9 [(.agg [(.str [120]), (.int .i64 1), (.int .i64 1), (.int .i64 3), (.int .i64 0), (.bool false), (.int .i64 0), (.int .i64 0), (.int .i64 0)])]), (.raw (.slice none 0 0))])]), (.raw (.slice none 0 0))]), (.raw .nilIface)]))]
theorem ml13 : MemoOK CE 13 l13 := .cons m13_0 <| .nil
end Go.Proofs

namespace Go.Proofs
open Go Go.Abs
set_option maxRecDepth 1000000 in
theorem m35_0 : AFn CE 35 [(.agg [(.sl none 3 [(.agg [(.str [65]), (.sl none 9 [(.agg [(.str [120]), (.int .i64 1), (.int .i64 1), (.int .i64 3), (.int .i64 0), (.bool false), (.int .i64 0), (.int .i64 0), (.int .i64 0)])]), (.raw (.slice none 0 0))])]), (.raw (.slice none 0 0))]), (.int .i64 0), (.agg [(.int .i64 3), (.int .u64 0), (.str []), (.sl none 8 [(.agg [(.int .i64 1), (.int .i64 1), (.int .u64 1), (.str []), (.raw (.slice none 0 0)), (.str []), (.raw (.slice none 0 0)), (.raw (.slice none 0 0))])]), (.str []), (.raw (.slice none 0 0)), (.raw (.slice none 0 0))])] (.tuple [(.sl none 1 [(.int .u8 8), (.int .u8 1)]), (.raw .nilIface)]) := fact (C := CE) tabA_ok (.nil _) 1000 40 (by kernel_rfl) rfl rfl
def l35 : List (List V × V) := [([(.agg [(.sl none 3 [(.agg [(.str [65]), (.sl none 9 [(.agg [(.str [120]), (.int .i64 1), (.int .i64 1), (.int .i64 3), (.int .i64 0), (.bool false), (.int .i64 0), (.int .i64 0), (.int .i64 0)])]), (.raw (.slice none 0 0))])]), (.raw (.slice none 0 0))]), (.int .i64 0), (.agg [(.int .i64 3), (.int .u64 0), (.str []), (.sl none 8 [(.agg [(.int .i64 1), (.int .i64 1), (.int .u64 1), (.str []), (.raw (.slice none 0 0)), (.str []), (.raw (.slice none 0 0)), (.raw (.slice none 0 0))])]), (.str []), (.raw (.slice none 0 0)), (.raw (.slice none 0 0))])], (.tuple [(.sl none 1 [(.int .u8 8), (.int .u8 1)]), (.raw .nilIface)]))]
theorem ml35 : MemoOK CE 35 l35 := .cons m35_0 <| .nil
end Go.Proofs

namespace Go.Proofs
open Go Go.Abs
set_option maxRecDepth 1000000 in
theorem aliveE : AFn CE 16 [] (.bool true) := fact (C := CE) tabD_ok (.cons ml28 (.cons ml29 (.cons ml13 (.cons ml35 (.nil _))))) 1000 40 (by kernel_rfl) rfl rfl
end Go.Proofs

namespace Go.Proofs
open Go Go.Abs
theorem w5 {k : Int} {l : List Nat} (hl : ∀ n ∈ l, n < 18446744073709551616) : AFn CE 5 [.int .i64 k, .sl none 1 (l.map encU)] (.bool true) := by
  have hC : CE.P = Tryz.prog := rfl
  refine fn_of_WA (F := AF5) af5 (Nat.le_of_ble_eq_true rfl) rfl rfl fun B hB => ?_
  refine WA.seq ?_
  refine WA.reg ?_
  refine sRet rfl rfl trivial ?_
  refine sEnd ?_
  refine WA.seq ?_
  refine WA.seq ?_
  refine WA.reg ?_
  refine sFn rfl aliveE ?_
  refine sRet rfl rfl trivial ?_
  refine sEnd ?_
  refine WA.cond (b := false) rfl (fun h => absurd h (by decide)) (fun _ => ?_)
  refine WA.skip ?_
  refine WA.seq ?_
  refine WA.seq ?_
  refine WA.reg ?_
  refine sRet rfl rfl trivial ?_
  refine sRet rfl rfl trivial ?_
  refine sBool rfl rfl (by first | exact trivial | exact Nat.le_of_ble_eq_true rfl | decide | omega | (simp; done) | (simp; omega) | (constructor <;> omega)) fun b1 h1 => ?_
  refine sEnd ?_
  cases b1
  · try simp only [bnA] at h1
    try simp only [bnB] at h1
    refine WA.cond (b := false) rfl (fun h => absurd h (by decide)) (fun _ => ?_)
    refine WA.skip ?_
    refine WA.seq ?_
    refine WA.seq ?_
    refine WA.reg ?_
    refine sRet rfl rfl trivial ?_
    refine sRet rfl rfl trivial ?_
    refine sRet rfl rfl trivial ?_
    refine sEnd ?_
    refine WA.block ?_
    refine WA.loopF (σ := Nat) hB 9 (Nat.zero_le _) (fun x => [(0, .int .i64 k), (1, .sl none 1 (l.map encU)), (12, .sl none 1 (l.map encU)), (13, .int .i64 ((l.map encU).length : Nat)), (14, .int .i64 (x : Nat))]) (fun _ => []) (fun x => x ≤ l.length) (fun x => l.length - x) 0 (by repeat (first | exact FrLe.nil | refine FrLe.cons rfl (VLe.refl _) rfl ?_)) HpLe.nil (Nat.zero_le _) ?_
    intro i hi
    refine WA.seq ?_
    refine WA.reg ?_
    refine sBool rfl rfl (by first | exact trivial | exact Nat.le_of_ble_eq_true rfl | decide | omega | (simp; done) | (simp; omega) | (constructor <;> omega)) fun b2 h2 => ?_
    refine sEnd ?_
    refine WA.seq ?_
    cases b2
    · try simp only [bnA] at h2
      try simp only [bnB] at h2
      refine WA.cond (b := false) rfl (fun h => absurd h (by decide)) (fun _ => ?_)
      refine WA.exit ?_
      refine WA.seq ?_
      refine WA.draw ?_
      refine tOp rfl rfl rfl rfl trivial rfl ?_
      refine tOp rfl rfl rfl rfl trivial rfl ?_
      refine tFn rfl rfl (w18 rfl hl (by simp at *; omega)) rfl ?_
      refine tOp rfl rfl (act_b2sM _ _ _) rfl trivial rfl ?_
      refine tOp rfl rfl rfl rfl trivial rfl ?_
      refine tOp rfl rfl rfl rfl trivial rfl ?_
      refine tFn rfl rfl (w19 rfl hl (by simp at *; omega)) rfl ?_
      refine tOp rfl rfl (act_b2sM _ _ _) rfl trivial rfl ?_
      refine tOp rfl rfl rfl rfl (by first | exact trivial | exact Nat.le_of_ble_eq_true rfl | decide | omega | (simp; done) | (simp; omega) | (constructor <;> omega)) rfl ?_
      refine tOp rfl rfl rfl rfl trivial rfl ?_
      refine tEnd ?_
      refine WA.ret ?_
      first | (exact ret_fn (.inl rfl) rfl (VLe.of_eq (congrArg V.bool (by simp [rowK, numK]))) rfl) | (exact ret_fn (.inl rfl) rfl (VLe.of_eq rfl) rfl)
    · try simp only [bnA] at h2
      try simp only [bnB] at h2
      refine WA.cond (b := true) rfl (fun _ => ?_) (fun h => absurd h (by decide))
      refine WA.skip ?_
      refine WA.seq ?_
      refine WA.block ?_
      refine WA.seq ?_
      refine WA.reg ?_
      have hlt : i < l.length := by simp at *; omega
      refine sIdx encU rfl hlt ?_
      refine sEff rfl rfl rfl (by first | exact trivial | exact Nat.le_of_ble_eq_true rfl | decide | omega | (simp; done) | (simp; omega) | (constructor <;> omega)) ?_
      refine sRet rfl rfl trivial ?_
      refine sEnd ?_
      refine WA.seq ?_
      refine WA.reg ?_
      refine sRet rfl rfl trivial ?_
      refine sRet rfl rfl trivial ?_
      refine sFnB rfl (w17 rfl) fun b3 h3 => ?_
      refine sRet rfl rfl trivial ?_
      refine sEnd ?_
      cases b3
      · try simp only [bnA] at h3
        try simp only [bnB] at h3
        refine WA.cond (b := true) rfl (fun _ => ?_) (fun h => absurd h (by decide))
        refine WA.seq ?_
        refine WA.reg ?_
        refine sRet rfl rfl trivial ?_
        refine sFn rfl (w18 rfl (k := 0) (l := l) hl (by simp at *; omega)) ?_
        refine sRet rfl rfl trivial ?_
        refine sRet rfl rfl trivial ?_
        refine sRet rfl rfl trivial ?_
        refine sEnd ?_
        refine WA.ret ?_
        first | (exact ret_fn (.inl rfl) rfl (VLe.of_eq (congrArg V.bool (by simp [rowK, numK]))) rfl) | (exact ret_fn (.inl rfl) rfl (VLe.of_eq rfl) rfl)
      · try simp only [bnA] at h3
        try simp only [bnB] at h3
        refine WA.cond (b := false) rfl (fun h => absurd h (by decide)) (fun _ => ?_)
        refine WA.skip ?_
        refine WA.reg ?_
        refine sAdd rfl (by simp at *; omega) ?_
        refine sRet rfl rfl trivial ?_
        refine sEnd ?_
        refine Exists.intro (i + 1) ⟨⟨hlt, ?_⟩, ?_, ?_⟩
        · omega
        · exact (by repeat (first | exact FrLe.nil | refine FrLe.cons rfl (VLe.refl _) rfl ?_))
        · exact HpLe.nil
  · try simp only [bnA] at h1
    try simp only [bnB] at h1
    refine WA.cond (b := true) rfl (fun _ => ?_) (fun h => absurd h (by decide))
    refine WA.seq ?_
    refine WA.reg ?_
    refine sRet rfl rfl trivial ?_
    refine sEnd ?_
    refine WA.ret ?_
    first | (exact ret_fn (.inl rfl) rfl (VLe.of_eq (congrArg V.bool (by simp [rowK, numK]))) rfl) | (exact ret_fn (.inl rfl) rfl (VLe.of_eq rfl) rfl)
end Go.Proofs

