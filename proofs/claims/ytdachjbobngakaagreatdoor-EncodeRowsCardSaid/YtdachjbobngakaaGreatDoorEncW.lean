/-
  What the functions that encode packed numbers compute, and what the reference's do: the same bytes. Conditions: numbers below 2 to the 64, at most 60 of them.
-/
import Derived.Test.YtdachjbobngakaaGreatDoorProg
import Derived.Test.YtdachjbobngakaaGreatDoorEncA
namespace Go.Proofs
open Go Go.Abs
/-- What a test says. -/
theorem bnA : (∀ (p : Prop) [Decidable p], (false = decide p) = ¬ p) ∧ (∀ (p : Prop) [Decidable p], (true = decide p) = p) ∧ (∀ {α : Type} [BEq α] [LawfulBEq α] (a b : α), (false = (a == b)) = (a ≠ b)) ∧
    (∀ {α : Type} [BEq α] [LawfulBEq α] (a b : α), (true = (a == b)) = (a = b)) ∧ (∀ {α : Type} [BEq α] [LawfulBEq α] (a b : α), (false = (a != b)) = (a = b)) ∧
    (∀ {α : Type} [BEq α] [LawfulBEq α] (a b : α), (true = (a != b)) = (a ≠ b)) ∧ (∀ c : Bool, (false = !c) = (c = true)) ∧ (∀ c : Bool, (true = !c) = (c = false)) :=
  ⟨fun _ _ => bn1, fun _ _ => bn2, fun _ _ => bn3, fun _ _ => bn4, fun _ _ => bn5, fun _ _ => bn6, fun _ => bn7, fun _ => bn8⟩
theorem bnB : (∀ c : Bool, (true = c) = (c = true)) ∧ (∀ c : Bool, (false = c) = (c = false)) := ⟨fun _ => bn9, fun _ => bn10⟩

theorem w38 {C : Cx} (hC : C.P = Tryz.prog) {k : Int} : AFn C 38 [.int .i64 k] (.bool (numK k)) := by
  refine fn_of_WA (by rw [hC]; exact af38) (Nat.le_of_ble_eq_true rfl) rfl rfl fun B hB => ?_
  refine WA.seq ?_
  refine WA.reg ?_
  refine sRet rfl rfl trivial ?_
  refine sEnd ?_
  refine WA.seq ?_
  refine WA.reg ?_
  refine sRet rfl rfl trivial ?_
  refine sBool rfl rfl (by first | exact trivial | exact Nat.le_of_ble_eq_true rfl | decide | omega | (simp; done) | (simp; omega) | (constructor <;> omega)) fun b1 h1 => ?_
  refine sRet rfl rfl trivial ?_
  cases b1
  · try simp only [bnA] at h1
    try simp only [bnB] at h1
    refine sNo rfl rfl ?_
    refine sNo rfl rfl ?_
    refine sRet rfl rfl trivial ?_
    refine sRet rfl rfl trivial ?_
    refine sYes rfl rfl ?_
    refine sRet rfl rfl trivial ?_
    refine sYes rfl rfl ?_
    refine sRet rfl rfl trivial ?_
    refine sRet rfl rfl trivial ?_
    refine sRet rfl rfl trivial ?_
    refine sEnd ?_
    refine WA.ret ?_
    exact ret_fn (.inl rfl) rfl (VLe.of_eq (congrArg V.bool (by rw [Bool.eq_iff_iff]; simp [numK]; try omega))) rfl
  · try simp only [bnA] at h1
    try simp only [bnB] at h1
    refine sYes rfl rfl ?_
    refine sRet rfl rfl trivial ?_
    refine sYes rfl rfl ?_
    refine sBool rfl rfl (by first | exact trivial | exact Nat.le_of_ble_eq_true rfl | decide | omega | (simp; done) | (simp; omega) | (constructor <;> omega)) fun b2 h2 => ?_
    refine sRet rfl rfl trivial ?_
    refine sRet rfl rfl trivial ?_
    cases b2
    · try simp only [bnA] at h2
      try simp only [bnB] at h2
      refine sYes rfl rfl ?_
      refine sRet rfl rfl trivial ?_
      refine sYes rfl rfl ?_
      refine sRet rfl rfl trivial ?_
      refine sRet rfl rfl trivial ?_
      refine sRet rfl rfl trivial ?_
      refine sEnd ?_
      refine WA.ret ?_
      exact ret_fn (.inl rfl) rfl (VLe.of_eq (congrArg V.bool (by rw [Bool.eq_iff_iff]; simp [numK]; try omega))) rfl
    · try simp only [bnA] at h2
      try simp only [bnB] at h2
      refine sNo rfl rfl ?_
      refine sNo rfl rfl ?_
      refine sRet rfl rfl trivial ?_
      refine sRet rfl rfl trivial ?_
      refine sEnd ?_
      refine WA.ret ?_
      exact ret_fn (.inl rfl) rfl (VLe.of_eq (congrArg V.bool (by rw [Bool.eq_iff_iff]; simp [numK]; try omega))) rfl

theorem w37 {C : Cx} (hC : C.P = Tryz.prog) {k : Int} : AFn C 37 [.int .i64 k] (.bool (numK k)) := by
  refine fn_of_WA (by rw [hC]; exact af37) (Nat.le_of_ble_eq_true rfl) rfl rfl fun B hB => ?_
  refine WA.seq ?_
  refine WA.reg ?_
  refine sRet rfl rfl trivial ?_
  refine sEnd ?_
  refine WA.seq ?_
  refine WA.reg ?_
  refine sRet rfl rfl trivial ?_
  refine sBool rfl rfl (by first | exact trivial | exact Nat.le_of_ble_eq_true rfl | decide | omega | (simp; done) | (simp; omega) | (constructor <;> omega)) fun b1 h1 => ?_
  refine sRet rfl rfl trivial ?_
  cases b1
  · try simp only [bnA] at h1
    try simp only [bnB] at h1
    refine sNo rfl rfl ?_
    refine sNo rfl rfl ?_
    refine sRet rfl rfl trivial ?_
    refine sRet rfl rfl trivial ?_
    refine sYes rfl rfl ?_
    refine sRet rfl rfl trivial ?_
    refine sYes rfl rfl ?_
    refine sRet rfl rfl trivial ?_
    refine sRet rfl rfl trivial ?_
    refine sRet rfl rfl trivial ?_
    refine sEnd ?_
    refine WA.ret ?_
    exact ret_fn (.inl rfl) rfl (VLe.of_eq (congrArg V.bool (by rw [Bool.eq_iff_iff]; simp [numK]; try omega))) rfl
  · try simp only [bnA] at h1
    try simp only [bnB] at h1
    refine sYes rfl rfl ?_
    refine sRet rfl rfl trivial ?_
    refine sYes rfl rfl ?_
    refine sBool rfl rfl (by first | exact trivial | exact Nat.le_of_ble_eq_true rfl | decide | omega | (simp; done) | (simp; omega) | (constructor <;> omega)) fun b2 h2 => ?_
    refine sRet rfl rfl trivial ?_
    refine sRet rfl rfl trivial ?_
    cases b2
    · try simp only [bnA] at h2
      try simp only [bnB] at h2
      refine sYes rfl rfl ?_
      refine sRet rfl rfl trivial ?_
      refine sYes rfl rfl ?_
      refine sRet rfl rfl trivial ?_
      refine sRet rfl rfl trivial ?_
      refine sRet rfl rfl trivial ?_
      refine sEnd ?_
      refine WA.ret ?_
      exact ret_fn (.inl rfl) rfl (VLe.of_eq (congrArg V.bool (by rw [Bool.eq_iff_iff]; simp [numK]; try omega))) rfl
    · try simp only [bnA] at h2
      try simp only [bnB] at h2
      refine sNo rfl rfl ?_
      refine sNo rfl rfl ?_
      refine sRet rfl rfl trivial ?_
      refine sRet rfl rfl trivial ?_
      refine sEnd ?_
      refine WA.ret ?_
      exact ret_fn (.inl rfl) rfl (VLe.of_eq (congrArg V.bool (by rw [Bool.eq_iff_iff]; simp [numK]; try omega))) rfl

theorem w36 {C : Cx} (hC : C.P = Tryz.prog) {n : Nat} : AFn C 36 [.int .u64 n] (.int .u64 (sgnN n : Nat)) := by
  refine fn_of_WA (by rw [hC]; exact af36) (Nat.le_of_ble_eq_true rfl) rfl rfl fun B hB => ?_
  refine WA.seq ?_
  refine WA.reg ?_
  refine sRet rfl rfl trivial ?_
  refine sEnd ?_
  refine WA.seq ?_
  refine WA.reg ?_
  refine sRet rfl rfl trivial ?_
  refine sRetE rfl rfl (by exact (by decide : (4294967296 : Int) ≠ 0)) (v' := .int .u64 ((n % 4294967296 : Nat) : Int)) (congrArg (V.int .u64) (by rw [Int.tmod_eq_emod_of_nonneg (by omega)]; omega)) ?_
  refine sRet rfl rfl trivial ?_
  refine sEnd ?_
  refine WA.seq ?_
  refine WA.seq ?_
  refine WA.reg ?_
  refine sRet rfl rfl trivial ?_
  refine sBool rfl rfl (by first | exact trivial | exact Nat.le_of_ble_eq_true rfl | decide | omega | (simp; done) | (simp; omega) | (constructor <;> omega)) fun b1 h1 => ?_
  refine sEnd ?_
  cases b1
  · try simp only [bnA] at h1
    try simp only [bnB] at h1
    refine WA.cond (b := false) rfl (fun h => absurd h (by decide)) (fun _ => ?_)
    refine WA.skip ?_
    refine WA.seq ?_
    refine WA.reg ?_
    refine sRet rfl rfl trivial ?_
    refine sRet rfl rfl trivial ?_
    refine sEnd ?_
    refine WA.ret ?_
    exact ret_fn (.inl rfl) rfl (VLe.of_eq (congrArg (V.int .u64) (by unfold sgnN; split <;> omega))) rfl
  · try simp only [bnA] at h1
    try simp only [bnB] at h1
    refine WA.cond (b := true) rfl (fun _ => ?_) (fun h => absurd h (by decide))
    refine WA.seq ?_
    refine WA.reg ?_
    refine sRet rfl rfl trivial ?_
    refine sRetE rfl rfl trivial (v' := .int .u64 ((n % 4294967296 + 18446744069414584320 : Nat) : Int)) (congrArg (V.int .u64) (by rw [wrapU64 (by omega)]; omega)) ?_
    refine sRet rfl rfl trivial ?_
    refine sEnd ?_
    refine WA.ret ?_
    exact ret_fn (.inl rfl) rfl (VLe.of_eq (congrArg (V.int .u64) (by unfold sgnN; split <;> omega))) rfl

/-- What the answer is does not matter. -/
def rightK (k : Int) (n : Nat) : Bool := if k = 3 ∨ k = 7 ∨ k = 11 ∨ k = 16 then sgnN n == n else if k = 2 ∨ k = 5 ∨ k = 9 then decide (n < 4294967296) else if k = 13 then decide (n < 2) else numK k

theorem w17 {C : Cx} (hC : C.P = Tryz.prog) {k : Int} {n : Nat} : AFn C 17 [.int .i64 k, .int .u64 n] (.bool (rightK k n)) := by
  refine fn_of_WA (by rw [hC]; exact af17) (Nat.le_of_ble_eq_true rfl) rfl rfl fun B hB => ?_
  refine WA.seq ?_
  refine WA.reg ?_
  refine sRet rfl rfl trivial ?_
  refine sEnd ?_
  refine WA.seq ?_
  refine WA.seq ?_
  refine WA.reg ?_
  refine sRet rfl rfl trivial ?_
  refine sEnd ?_
  refine WA.block ?_
  refine WA.seq ?_
  refine WA.seq ?_
  refine WA.reg ?_
  refine sBool rfl rfl (by first | exact trivial | exact Nat.le_of_ble_eq_true rfl | decide | omega | (simp; done) | (simp; omega) | (constructor <;> omega)) fun b1 h1 => ?_
  refine sRet rfl rfl trivial ?_
  refine sEnd ?_
  cases b1
  · try simp only [bnA] at h1
    try simp only [bnB] at h1
    refine WA.cond (b := false) rfl (fun h => absurd h (by decide)) (fun _ => ?_)
    refine WA.seq ?_
    refine WA.reg ?_
    refine sBool rfl rfl (by first | exact trivial | exact Nat.le_of_ble_eq_true rfl | decide | omega | (simp; done) | (simp; omega) | (constructor <;> omega)) fun b2 h2 => ?_
    refine sRet rfl rfl trivial ?_
    refine sEnd ?_
    cases b2
    · try simp only [bnA] at h2
      try simp only [bnB] at h2
      refine WA.cond (b := false) rfl (fun h => absurd h (by decide)) (fun _ => ?_)
      refine WA.seq ?_
      refine WA.reg ?_
      refine sBool rfl rfl (by first | exact trivial | exact Nat.le_of_ble_eq_true rfl | decide | omega | (simp; done) | (simp; omega) | (constructor <;> omega)) fun b3 h3 => ?_
      refine sRet rfl rfl trivial ?_
      refine sEnd ?_
      cases b3
      · try simp only [bnA] at h3
        try simp only [bnB] at h3
        refine WA.cond (b := false) rfl (fun h => absurd h (by decide)) (fun _ => ?_)
        refine WA.reg ?_
        refine sBool rfl rfl (by first | exact trivial | exact Nat.le_of_ble_eq_true rfl | decide | omega | (simp; done) | (simp; omega) | (constructor <;> omega)) fun b4 h4 => ?_
        refine sRet rfl rfl trivial ?_
        refine sEnd ?_
        cases b4
        · try simp only [bnA] at h4
          try simp only [bnB] at h4
          refine WA.cond (b := false) rfl (fun h => absurd h (by decide)) (fun _ => ?_)
          refine WA.seq ?_
          refine WA.seq ?_
          refine WA.reg ?_
          refine sBool rfl rfl (by first | exact trivial | exact Nat.le_of_ble_eq_true rfl | decide | omega | (simp; done) | (simp; omega) | (constructor <;> omega)) fun b5 h5 => ?_
          refine sRet rfl rfl trivial ?_
          refine sEnd ?_
          cases b5
          · try simp only [bnA] at h5
            try simp only [bnB] at h5
            refine WA.cond (b := false) rfl (fun h => absurd h (by decide)) (fun _ => ?_)
            refine WA.seq ?_
            refine WA.reg ?_
            refine sBool rfl rfl (by first | exact trivial | exact Nat.le_of_ble_eq_true rfl | decide | omega | (simp; done) | (simp; omega) | (constructor <;> omega)) fun b6 h6 => ?_
            refine sRet rfl rfl trivial ?_
            refine sEnd ?_
            cases b6
            · try simp only [bnA] at h6
              try simp only [bnB] at h6
              refine WA.cond (b := false) rfl (fun h => absurd h (by decide)) (fun _ => ?_)
              refine WA.reg ?_
              refine sBool rfl rfl (by first | exact trivial | exact Nat.le_of_ble_eq_true rfl | decide | omega | (simp; done) | (simp; omega) | (constructor <;> omega)) fun b7 h7 => ?_
              refine sRet rfl rfl trivial ?_
              refine sEnd ?_
              cases b7
              · try simp only [bnA] at h7
                try simp only [bnB] at h7
                refine WA.cond (b := false) rfl (fun h => absurd h (by decide)) (fun _ => ?_)
                refine WA.seq ?_
                refine WA.reg ?_
                refine sBool rfl rfl (by first | exact trivial | exact Nat.le_of_ble_eq_true rfl | decide | omega | (simp; done) | (simp; omega) | (constructor <;> omega)) fun b8 h8 => ?_
                refine sRet rfl rfl trivial ?_
                refine sEnd ?_
                cases b8
                · try simp only [bnA] at h8
                  try simp only [bnB] at h8
                  refine WA.cond (b := false) rfl (fun h => absurd h (by decide)) (fun _ => ?_)
                  refine WA.skip ?_
                  refine WA.seq ?_
                  refine WA.reg ?_
                  refine sRet rfl rfl trivial ?_
                  refine sFn rfl (w37 hC) ?_
                  refine sRet rfl rfl trivial ?_
                  refine sEnd ?_
                  refine WA.ret ?_
                  exact ret_fn (.inl rfl) rfl (VLe.of_eq (congrArg V.bool (by unfold rightK; (repeat' split); all_goals first | omega | (rw [Bool.eq_iff_iff]; simp only [decide_eq_true_eq, beq_iff_eq]; omega) | simp_all | (simp_all; omega)))) rfl
                · try simp only [bnA] at h8
                  try simp only [bnB] at h8
                  refine WA.cond (b := true) rfl (fun _ => ?_) (fun h => absurd h (by decide))
                  refine WA.seq ?_
                  refine WA.reg ?_
                  refine sRet rfl rfl trivial ?_
                  refine sRet rfl rfl trivial ?_
                  refine sRet rfl rfl trivial ?_
                  refine sEnd ?_
                  refine WA.ret ?_
                  exact ret_fn (.inl rfl) rfl (VLe.of_eq (congrArg V.bool (by unfold rightK; (repeat' split); all_goals first | omega | (rw [Bool.eq_iff_iff]; simp only [decide_eq_true_eq, beq_iff_eq]; omega) | simp_all | (simp_all; omega)))) rfl
              · try simp only [bnA] at h7
                try simp only [bnB] at h7
                refine WA.cond (b := true) rfl (fun _ => ?_) (fun h => absurd h (by decide))
                refine WA.seq ?_
                refine WA.reg ?_
                refine sRet rfl rfl trivial ?_
                refine sRet rfl rfl trivial ?_
                refine sRet rfl rfl trivial ?_
                refine sEnd ?_
                refine WA.ret ?_
                exact ret_fn (.inl rfl) rfl (VLe.of_eq (congrArg V.bool (by unfold rightK; (repeat' split); all_goals first | omega | (rw [Bool.eq_iff_iff]; simp only [decide_eq_true_eq, beq_iff_eq]; omega) | simp_all | (simp_all; omega)))) rfl
            · try simp only [bnA] at h6
              try simp only [bnB] at h6
              refine WA.cond (b := true) rfl (fun _ => ?_) (fun h => absurd h (by decide))
              refine WA.skip ?_
              refine WA.cond (b := true) rfl (fun _ => ?_) (fun h => absurd h (by decide))
              refine WA.seq ?_
              refine WA.reg ?_
              refine sRet rfl rfl trivial ?_
              refine sRet rfl rfl trivial ?_
              refine sRet rfl rfl trivial ?_
              refine sEnd ?_
              refine WA.ret ?_
              exact ret_fn (.inl rfl) rfl (VLe.of_eq (congrArg V.bool (by unfold rightK; (repeat' split); all_goals first | omega | (rw [Bool.eq_iff_iff]; simp only [decide_eq_true_eq, beq_iff_eq]; omega) | simp_all | (simp_all; omega)))) rfl
          · try simp only [bnA] at h5
            try simp only [bnB] at h5
            refine WA.cond (b := true) rfl (fun _ => ?_) (fun h => absurd h (by decide))
            refine WA.skip ?_
            refine WA.cond (b := true) rfl (fun _ => ?_) (fun h => absurd h (by decide))
            refine WA.seq ?_
            refine WA.reg ?_
            refine sRet rfl rfl trivial ?_
            refine sRet rfl rfl trivial ?_
            refine sRet rfl rfl trivial ?_
            refine sEnd ?_
            refine WA.ret ?_
            exact ret_fn (.inl rfl) rfl (VLe.of_eq (congrArg V.bool (by unfold rightK; (repeat' split); all_goals first | omega | (rw [Bool.eq_iff_iff]; simp only [decide_eq_true_eq, beq_iff_eq]; omega) | simp_all | (simp_all; omega)))) rfl
        · try simp only [bnA] at h4
          try simp only [bnB] at h4
          refine WA.cond (b := true) rfl (fun _ => ?_) (fun h => absurd h (by decide))
          refine WA.seq ?_
          refine WA.reg ?_
          refine sRet rfl rfl trivial ?_
          refine sFn rfl (w36 hC) ?_
          refine sRet rfl rfl trivial ?_
          refine sRet rfl rfl trivial ?_
          refine sRet rfl rfl trivial ?_
          refine sEnd ?_
          refine WA.ret ?_
          exact ret_fn (.inl rfl) rfl (VLe.of_eq (congrArg V.bool (by unfold rightK; (repeat' split); all_goals first | omega | (rw [Bool.eq_iff_iff]; simp only [decide_eq_true_eq, beq_iff_eq]; omega) | simp_all | (simp_all; omega)))) rfl
      · try simp only [bnA] at h3
        try simp only [bnB] at h3
        refine WA.cond (b := true) rfl (fun _ => ?_) (fun h => absurd h (by decide))
        refine WA.skip ?_
        refine WA.cond (b := true) rfl (fun _ => ?_) (fun h => absurd h (by decide))
        refine WA.seq ?_
        refine WA.reg ?_
        refine sRet rfl rfl trivial ?_
        refine sFn rfl (w36 hC) ?_
        refine sRet rfl rfl trivial ?_
        refine sRet rfl rfl trivial ?_
        refine sRet rfl rfl trivial ?_
        refine sEnd ?_
        refine WA.ret ?_
        exact ret_fn (.inl rfl) rfl (VLe.of_eq (congrArg V.bool (by unfold rightK; (repeat' split); all_goals first | omega | (rw [Bool.eq_iff_iff]; simp only [decide_eq_true_eq, beq_iff_eq]; omega) | simp_all | (simp_all; omega)))) rfl
    · try simp only [bnA] at h2
      try simp only [bnB] at h2
      refine WA.cond (b := true) rfl (fun _ => ?_) (fun h => absurd h (by decide))
      refine WA.skip ?_
      refine WA.cond (b := true) rfl (fun _ => ?_) (fun h => absurd h (by decide))
      refine WA.seq ?_
      refine WA.reg ?_
      refine sRet rfl rfl trivial ?_
      refine sFn rfl (w36 hC) ?_
      refine sRet rfl rfl trivial ?_
      refine sRet rfl rfl trivial ?_
      refine sRet rfl rfl trivial ?_
      refine sEnd ?_
      refine WA.ret ?_
      exact ret_fn (.inl rfl) rfl (VLe.of_eq (congrArg V.bool (by unfold rightK; (repeat' split); all_goals first | omega | (rw [Bool.eq_iff_iff]; simp only [decide_eq_true_eq, beq_iff_eq]; omega) | simp_all | (simp_all; omega)))) rfl
  · try simp only [bnA] at h1
    try simp only [bnB] at h1
    refine WA.cond (b := true) rfl (fun _ => ?_) (fun h => absurd h (by decide))
    refine WA.skip ?_
    refine WA.cond (b := true) rfl (fun _ => ?_) (fun h => absurd h (by decide))
    refine WA.seq ?_
    refine WA.reg ?_
    refine sRet rfl rfl trivial ?_
    refine sFn rfl (w36 hC) ?_
    refine sRet rfl rfl trivial ?_
    refine sRet rfl rfl trivial ?_
    refine sRet rfl rfl trivial ?_
    refine sEnd ?_
    refine WA.ret ?_
    exact ret_fn (.inl rfl) rfl (VLe.of_eq (congrArg V.bool (by unfold rightK; (repeat' split); all_goals first | omega | (rw [Bool.eq_iff_iff]; simp only [decide_eq_true_eq, beq_iff_eq]; omega) | simp_all | (simp_all; omega)))) rfl

theorem w40 {C : Cx} (hC : C.P = Tryz.prog) {k : Int} : AFn C 40 [.int .i64 k] (.int .i64 (wireK k)) := by
  refine fn_of_WA (by rw [hC]; exact af40) (Nat.le_of_ble_eq_true rfl) rfl rfl fun B hB => ?_
  refine WA.seq ?_
  refine WA.reg ?_
  refine sRet rfl rfl trivial ?_
  refine sEnd ?_
  refine WA.seq ?_
  refine WA.seq ?_
  refine WA.reg ?_
  refine sRet rfl rfl trivial ?_
  refine sEnd ?_
  refine WA.block ?_
  refine WA.seq ?_
  refine WA.seq ?_
  refine WA.reg ?_
  refine sBool rfl rfl (by first | exact trivial | exact Nat.le_of_ble_eq_true rfl | decide | omega | (simp; done) | (simp; omega) | (constructor <;> omega)) fun b1 h1 => ?_
  refine sRet rfl rfl trivial ?_
  refine sEnd ?_
  cases b1
  · try simp only [bnA] at h1
    try simp only [bnB] at h1
    refine WA.cond (b := false) rfl (fun h => absurd h (by decide)) (fun _ => ?_)
    refine WA.seq ?_
    refine WA.reg ?_
    refine sBool rfl rfl (by first | exact trivial | exact Nat.le_of_ble_eq_true rfl | decide | omega | (simp; done) | (simp; omega) | (constructor <;> omega)) fun b2 h2 => ?_
    refine sRet rfl rfl trivial ?_
    refine sEnd ?_
    cases b2
    · try simp only [bnA] at h2
      try simp only [bnB] at h2
      refine WA.cond (b := false) rfl (fun h => absurd h (by decide)) (fun _ => ?_)
      refine WA.reg ?_
      refine sBool rfl rfl (by first | exact trivial | exact Nat.le_of_ble_eq_true rfl | decide | omega | (simp; done) | (simp; omega) | (constructor <;> omega)) fun b3 h3 => ?_
      refine sRet rfl rfl trivial ?_
      refine sEnd ?_
      cases b3
      · try simp only [bnA] at h3
        try simp only [bnB] at h3
        refine WA.cond (b := false) rfl (fun h => absurd h (by decide)) (fun _ => ?_)
        refine WA.seq ?_
        refine WA.seq ?_
        refine WA.reg ?_
        refine sBool rfl rfl (by first | exact trivial | exact Nat.le_of_ble_eq_true rfl | decide | omega | (simp; done) | (simp; omega) | (constructor <;> omega)) fun b4 h4 => ?_
        refine sRet rfl rfl trivial ?_
        refine sEnd ?_
        cases b4
        · try simp only [bnA] at h4
          try simp only [bnB] at h4
          refine WA.cond (b := false) rfl (fun h => absurd h (by decide)) (fun _ => ?_)
          refine WA.seq ?_
          refine WA.reg ?_
          refine sBool rfl rfl (by first | exact trivial | exact Nat.le_of_ble_eq_true rfl | decide | omega | (simp; done) | (simp; omega) | (constructor <;> omega)) fun b5 h5 => ?_
          refine sRet rfl rfl trivial ?_
          refine sEnd ?_
          cases b5
          · try simp only [bnA] at h5
            try simp only [bnB] at h5
            refine WA.cond (b := false) rfl (fun h => absurd h (by decide)) (fun _ => ?_)
            refine WA.reg ?_
            refine sBool rfl rfl (by first | exact trivial | exact Nat.le_of_ble_eq_true rfl | decide | omega | (simp; done) | (simp; omega) | (constructor <;> omega)) fun b6 h6 => ?_
            refine sRet rfl rfl trivial ?_
            refine sEnd ?_
            cases b6
            · try simp only [bnA] at h6
              try simp only [bnB] at h6
              refine WA.cond (b := false) rfl (fun h => absurd h (by decide)) (fun _ => ?_)
              refine WA.seq ?_
              refine WA.seq ?_
              refine WA.reg ?_
              refine sBool rfl rfl (by first | exact trivial | exact Nat.le_of_ble_eq_true rfl | decide | omega | (simp; done) | (simp; omega) | (constructor <;> omega)) fun b7 h7 => ?_
              refine sRet rfl rfl trivial ?_
              refine sEnd ?_
              cases b7
              · try simp only [bnA] at h7
                try simp only [bnB] at h7
                refine WA.cond (b := false) rfl (fun h => absurd h (by decide)) (fun _ => ?_)
                refine WA.seq ?_
                refine WA.reg ?_
                refine sBool rfl rfl (by first | exact trivial | exact Nat.le_of_ble_eq_true rfl | decide | omega | (simp; done) | (simp; omega) | (constructor <;> omega)) fun b8 h8 => ?_
                refine sRet rfl rfl trivial ?_
                refine sEnd ?_
                cases b8
                · try simp only [bnA] at h8
                  try simp only [bnB] at h8
                  refine WA.cond (b := false) rfl (fun h => absurd h (by decide)) (fun _ => ?_)
                  refine WA.reg ?_
                  refine sBool rfl rfl (by first | exact trivial | exact Nat.le_of_ble_eq_true rfl | decide | omega | (simp; done) | (simp; omega) | (constructor <;> omega)) fun b9 h9 => ?_
                  refine sRet rfl rfl trivial ?_
                  refine sEnd ?_
                  cases b9
                  · try simp only [bnA] at h9
                    try simp only [bnB] at h9
                    refine WA.cond (b := false) rfl (fun h => absurd h (by decide)) (fun _ => ?_)
                    refine WA.skip ?_
                    refine WA.seq ?_
                    refine WA.seq ?_
                    refine WA.reg ?_
                    refine sRet rfl rfl trivial ?_
                    refine sFnB rfl (w38 hC) fun b10 h10 => ?_
                    refine sRet rfl rfl trivial ?_
                    refine sEnd ?_
                    cases b10
                    · try simp only [bnA] at h10
                      try simp only [bnB] at h10
                      refine WA.cond (b := true) rfl (fun _ => ?_) (fun h => absurd h (by decide))
                      refine WA.seq ?_
                      refine WA.reg ?_
                      refine sRet rfl rfl trivial ?_
                      refine sEnd ?_
                      refine WA.ret ?_
                      exact ret_fn (.inl rfl) rfl (VLe.of_eq (congrArg (V.int .i64) (by unfold wireK; (repeat' split); all_goals first | omega | simp_all))) rfl
                    · try simp only [bnA] at h10
                      try simp only [bnB] at h10
                      refine WA.cond (b := false) rfl (fun h => absurd h (by decide)) (fun _ => ?_)
                      refine WA.skip ?_
                      refine WA.seq ?_
                      refine WA.reg ?_
                      refine sRet rfl rfl trivial ?_
                      refine sEnd ?_
                      refine WA.ret ?_
                      exact ret_fn (.inl rfl) rfl (VLe.of_eq (congrArg (V.int .i64) (by unfold wireK; (repeat' split); all_goals first | omega | simp_all))) rfl
                  · try simp only [bnA] at h9
                    try simp only [bnB] at h9
                    refine WA.cond (b := true) rfl (fun _ => ?_) (fun h => absurd h (by decide))
                    refine WA.seq ?_
                    refine WA.reg ?_
                    refine sRet rfl rfl trivial ?_
                    refine sEnd ?_
                    refine WA.ret ?_
                    exact ret_fn (.inl rfl) rfl (VLe.of_eq (congrArg (V.int .i64) (by unfold wireK; (repeat' split); all_goals first | omega | simp_all))) rfl
                · try simp only [bnA] at h8
                  try simp only [bnB] at h8
                  refine WA.cond (b := true) rfl (fun _ => ?_) (fun h => absurd h (by decide))
                  refine WA.skip ?_
                  refine WA.cond (b := true) rfl (fun _ => ?_) (fun h => absurd h (by decide))
                  refine WA.seq ?_
                  refine WA.reg ?_
                  refine sRet rfl rfl trivial ?_
                  refine sEnd ?_
                  refine WA.ret ?_
                  exact ret_fn (.inl rfl) rfl (VLe.of_eq (congrArg (V.int .i64) (by unfold wireK; (repeat' split); all_goals first | omega | simp_all))) rfl
              · try simp only [bnA] at h7
                try simp only [bnB] at h7
                refine WA.cond (b := true) rfl (fun _ => ?_) (fun h => absurd h (by decide))
                refine WA.skip ?_
                refine WA.cond (b := true) rfl (fun _ => ?_) (fun h => absurd h (by decide))
                refine WA.seq ?_
                refine WA.reg ?_
                refine sRet rfl rfl trivial ?_
                refine sEnd ?_
                refine WA.ret ?_
                exact ret_fn (.inl rfl) rfl (VLe.of_eq (congrArg (V.int .i64) (by unfold wireK; (repeat' split); all_goals first | omega | simp_all))) rfl
            · try simp only [bnA] at h6
              try simp only [bnB] at h6
              refine WA.cond (b := true) rfl (fun _ => ?_) (fun h => absurd h (by decide))
              refine WA.seq ?_
              refine WA.reg ?_
              refine sRet rfl rfl trivial ?_
              refine sEnd ?_
              refine WA.ret ?_
              exact ret_fn (.inl rfl) rfl (VLe.of_eq (congrArg (V.int .i64) (by unfold wireK; (repeat' split); all_goals first | omega | simp_all))) rfl
          · try simp only [bnA] at h5
            try simp only [bnB] at h5
            refine WA.cond (b := true) rfl (fun _ => ?_) (fun h => absurd h (by decide))
            refine WA.skip ?_
            refine WA.cond (b := true) rfl (fun _ => ?_) (fun h => absurd h (by decide))
            refine WA.seq ?_
            refine WA.reg ?_
            refine sRet rfl rfl trivial ?_
            refine sEnd ?_
            refine WA.ret ?_
            exact ret_fn (.inl rfl) rfl (VLe.of_eq (congrArg (V.int .i64) (by unfold wireK; (repeat' split); all_goals first | omega | simp_all))) rfl
        · try simp only [bnA] at h4
          try simp only [bnB] at h4
          refine WA.cond (b := true) rfl (fun _ => ?_) (fun h => absurd h (by decide))
          refine WA.skip ?_
          refine WA.cond (b := true) rfl (fun _ => ?_) (fun h => absurd h (by decide))
          refine WA.seq ?_
          refine WA.reg ?_
          refine sRet rfl rfl trivial ?_
          refine sEnd ?_
          refine WA.ret ?_
          exact ret_fn (.inl rfl) rfl (VLe.of_eq (congrArg (V.int .i64) (by unfold wireK; (repeat' split); all_goals first | omega | simp_all))) rfl
      · try simp only [bnA] at h3
        try simp only [bnB] at h3
        refine WA.cond (b := true) rfl (fun _ => ?_) (fun h => absurd h (by decide))
        refine WA.seq ?_
        refine WA.reg ?_
        refine sRet rfl rfl trivial ?_
        refine sEnd ?_
        refine WA.ret ?_
        exact ret_fn (.inl rfl) rfl (VLe.of_eq (congrArg (V.int .i64) (by unfold wireK; (repeat' split); all_goals first | omega | simp_all))) rfl
    · try simp only [bnA] at h2
      try simp only [bnB] at h2
      refine WA.cond (b := true) rfl (fun _ => ?_) (fun h => absurd h (by decide))
      refine WA.skip ?_
      refine WA.cond (b := true) rfl (fun _ => ?_) (fun h => absurd h (by decide))
      refine WA.seq ?_
      refine WA.reg ?_
      refine sRet rfl rfl trivial ?_
      refine sEnd ?_
      refine WA.ret ?_
      exact ret_fn (.inl rfl) rfl (VLe.of_eq (congrArg (V.int .i64) (by unfold wireK; (repeat' split); all_goals first | omega | simp_all))) rfl
  · try simp only [bnA] at h1
    try simp only [bnB] at h1
    refine WA.cond (b := true) rfl (fun _ => ?_) (fun h => absurd h (by decide))
    refine WA.skip ?_
    refine WA.cond (b := true) rfl (fun _ => ?_) (fun h => absurd h (by decide))
    refine WA.seq ?_
    refine WA.reg ?_
    refine sRet rfl rfl trivial ?_
    refine sEnd ?_
    refine WA.ret ?_
    exact ret_fn (.inl rfl) rfl (VLe.of_eq (congrArg (V.int .i64) (by unfold wireK; (repeat' split); all_goals first | omega | simp_all))) rfl

theorem w79 {C : Cx} (hC : C.P = Tryz.prog) {k : Int} : AFn C 79 [.int .i64 k] (.int .i64 (wireK k)) := by
  refine fn_of_WA (by rw [hC]; exact af79) (Nat.le_of_ble_eq_true rfl) rfl rfl fun B hB => ?_
  refine WA.seq ?_
  refine WA.reg ?_
  refine sRet rfl rfl trivial ?_
  refine sEnd ?_
  refine WA.seq ?_
  refine WA.seq ?_
  refine WA.reg ?_
  refine sRet rfl rfl trivial ?_
  refine sBool rfl rfl (by first | exact trivial | exact Nat.le_of_ble_eq_true rfl | decide | omega | (simp; done) | (simp; omega) | (constructor <;> omega)) fun b1 h1 => ?_
  refine sRet rfl rfl trivial ?_
  cases b1
  · try simp only [bnA] at h1
    try simp only [bnB] at h1
    refine sYes rfl rfl ?_
    refine sRet rfl rfl trivial ?_
    refine sYes rfl rfl ?_
    refine sBool rfl rfl (by first | exact trivial | exact Nat.le_of_ble_eq_true rfl | decide | omega | (simp; done) | (simp; omega) | (constructor <;> omega)) fun b2 h2 => ?_
    refine sRet rfl rfl trivial ?_
    refine sEnd ?_
    cases b2
    · try simp only [bnA] at h2
      try simp only [bnB] at h2
      refine WA.cond (b := false) rfl (fun h => absurd h (by decide)) (fun _ => ?_)
      refine WA.skip ?_
      refine WA.seq ?_
      refine WA.seq ?_
      refine WA.reg ?_
      refine sRet rfl rfl trivial ?_
      refine sBool rfl rfl (by first | exact trivial | exact Nat.le_of_ble_eq_true rfl | decide | omega | (simp; done) | (simp; omega) | (constructor <;> omega)) fun b3 h3 => ?_
      refine sRet rfl rfl trivial ?_
      cases b3
      · try simp only [bnA] at h3
        try simp only [bnB] at h3
        refine sYes rfl rfl ?_
        refine sRet rfl rfl trivial ?_
        refine sYes rfl rfl ?_
        refine sBool rfl rfl (by first | exact trivial | exact Nat.le_of_ble_eq_true rfl | decide | omega | (simp; done) | (simp; omega) | (constructor <;> omega)) fun b4 h4 => ?_
        refine sRet rfl rfl trivial ?_
        refine sRet rfl rfl trivial ?_
        cases b4
        · try simp only [bnA] at h4
          try simp only [bnB] at h4
          refine sYes rfl rfl ?_
          refine sRet rfl rfl trivial ?_
          refine sYes rfl rfl ?_
          refine sBool rfl rfl (by first | exact trivial | exact Nat.le_of_ble_eq_true rfl | decide | omega | (simp; done) | (simp; omega) | (constructor <;> omega)) fun b5 h5 => ?_
          refine sRet rfl rfl trivial ?_
          refine sEnd ?_
          cases b5
          · try simp only [bnA] at h5
            try simp only [bnB] at h5
            refine WA.cond (b := false) rfl (fun h => absurd h (by decide)) (fun _ => ?_)
            refine WA.skip ?_
            refine WA.seq ?_
            refine WA.seq ?_
            refine WA.reg ?_
            refine sRet rfl rfl trivial ?_
            refine sBool rfl rfl (by first | exact trivial | exact Nat.le_of_ble_eq_true rfl | decide | omega | (simp; done) | (simp; omega) | (constructor <;> omega)) fun b6 h6 => ?_
            refine sRet rfl rfl trivial ?_
            cases b6
            · try simp only [bnA] at h6
              try simp only [bnB] at h6
              refine sYes rfl rfl ?_
              refine sRet rfl rfl trivial ?_
              refine sYes rfl rfl ?_
              refine sBool rfl rfl (by first | exact trivial | exact Nat.le_of_ble_eq_true rfl | decide | omega | (simp; done) | (simp; omega) | (constructor <;> omega)) fun b7 h7 => ?_
              refine sRet rfl rfl trivial ?_
              refine sRet rfl rfl trivial ?_
              cases b7
              · try simp only [bnA] at h7
                try simp only [bnB] at h7
                refine sYes rfl rfl ?_
                refine sRet rfl rfl trivial ?_
                refine sYes rfl rfl ?_
                refine sBool rfl rfl (by first | exact trivial | exact Nat.le_of_ble_eq_true rfl | decide | omega | (simp; done) | (simp; omega) | (constructor <;> omega)) fun b8 h8 => ?_
                refine sRet rfl rfl trivial ?_
                refine sEnd ?_
                cases b8
                · try simp only [bnA] at h8
                  try simp only [bnB] at h8
                  refine WA.cond (b := false) rfl (fun h => absurd h (by decide)) (fun _ => ?_)
                  refine WA.skip ?_
                  refine WA.seq ?_
                  refine WA.seq ?_
                  refine WA.reg ?_
                  refine sRet rfl rfl trivial ?_
                  refine sBool rfl rfl (by first | exact trivial | exact Nat.le_of_ble_eq_true rfl | decide | omega | (simp; done) | (simp; omega) | (constructor <;> omega)) fun b9 h9 => ?_
                  refine sRet rfl rfl trivial ?_
                  cases b9
                  · try simp only [bnA] at h9
                    try simp only [bnB] at h9
                    refine sYes rfl rfl ?_
                    refine sRet rfl rfl trivial ?_
                    refine sYes rfl rfl ?_
                    refine sBool rfl rfl (by first | exact trivial | exact Nat.le_of_ble_eq_true rfl | decide | omega | (simp; done) | (simp; omega) | (constructor <;> omega)) fun b10 h10 => ?_
                    refine sRet rfl rfl trivial ?_
                    refine sRet rfl rfl trivial ?_
                    cases b10
                    · try simp only [bnA] at h10
                      try simp only [bnB] at h10
                      refine sYes rfl rfl ?_
                      refine sRet rfl rfl trivial ?_
                      refine sYes rfl rfl ?_
                      refine sBool rfl rfl (by first | exact trivial | exact Nat.le_of_ble_eq_true rfl | decide | omega | (simp; done) | (simp; omega) | (constructor <;> omega)) fun b11 h11 => ?_
                      refine sRet rfl rfl trivial ?_
                      refine sEnd ?_
                      cases b11
                      · try simp only [bnA] at h11
                        try simp only [bnB] at h11
                        refine WA.cond (b := false) rfl (fun h => absurd h (by decide)) (fun _ => ?_)
                        refine WA.skip ?_
                        refine WA.seq ?_
                        refine WA.reg ?_
                        refine sRet rfl rfl trivial ?_
                        refine sEnd ?_
                        refine WA.ret ?_
                        exact ret_fn (.inl rfl) rfl (VLe.of_eq (congrArg (V.int .i64) (by unfold wireK numK; (repeat' split); all_goals first | omega | (simp at *; omega) | simp_all | rfl))) rfl
                      · try simp only [bnA] at h11
                        try simp only [bnB] at h11
                        refine WA.cond (b := true) rfl (fun _ => ?_) (fun h => absurd h (by decide))
                        refine WA.seq ?_
                        refine WA.reg ?_
                        refine sRet rfl rfl trivial ?_
                        refine sEnd ?_
                        refine WA.ret ?_
                        exact ret_fn (.inl rfl) rfl (VLe.of_eq (congrArg (V.int .i64) (by unfold wireK numK; (repeat' split); all_goals first | omega | (simp at *; omega) | simp_all | rfl))) rfl
                    · try simp only [bnA] at h10
                      try simp only [bnB] at h10
                      refine sNo rfl rfl ?_
                      refine sNo rfl rfl ?_
                      refine sRet rfl rfl trivial ?_
                      refine sEnd ?_
                      refine WA.cond (b := true) rfl (fun _ => ?_) (fun h => absurd h (by decide))
                      refine WA.seq ?_
                      refine WA.reg ?_
                      refine sRet rfl rfl trivial ?_
                      refine sEnd ?_
                      refine WA.ret ?_
                      exact ret_fn (.inl rfl) rfl (VLe.of_eq (congrArg (V.int .i64) (by unfold wireK numK; (repeat' split); all_goals first | omega | (simp at *; omega) | simp_all | rfl))) rfl
                  · try simp only [bnA] at h9
                    try simp only [bnB] at h9
                    refine sNo rfl rfl ?_
                    refine sNo rfl rfl ?_
                    refine sRet rfl rfl trivial ?_
                    refine sRet rfl rfl trivial ?_
                    refine sNo rfl rfl ?_
                    refine sNo rfl rfl ?_
                    refine sRet rfl rfl trivial ?_
                    refine sEnd ?_
                    refine WA.cond (b := true) rfl (fun _ => ?_) (fun h => absurd h (by decide))
                    refine WA.seq ?_
                    refine WA.reg ?_
                    refine sRet rfl rfl trivial ?_
                    refine sEnd ?_
                    refine WA.ret ?_
                    exact ret_fn (.inl rfl) rfl (VLe.of_eq (congrArg (V.int .i64) (by unfold wireK numK; (repeat' split); all_goals first | omega | (simp at *; omega) | simp_all | rfl))) rfl
                · try simp only [bnA] at h8
                  try simp only [bnB] at h8
                  refine WA.cond (b := true) rfl (fun _ => ?_) (fun h => absurd h (by decide))
                  refine WA.seq ?_
                  refine WA.reg ?_
                  refine sRet rfl rfl trivial ?_
                  refine sEnd ?_
                  refine WA.ret ?_
                  exact ret_fn (.inl rfl) rfl (VLe.of_eq (congrArg (V.int .i64) (by unfold wireK numK; (repeat' split); all_goals first | omega | (simp at *; omega) | simp_all | rfl))) rfl
              · try simp only [bnA] at h7
                try simp only [bnB] at h7
                refine sNo rfl rfl ?_
                refine sNo rfl rfl ?_
                refine sRet rfl rfl trivial ?_
                refine sEnd ?_
                refine WA.cond (b := true) rfl (fun _ => ?_) (fun h => absurd h (by decide))
                refine WA.seq ?_
                refine WA.reg ?_
                refine sRet rfl rfl trivial ?_
                refine sEnd ?_
                refine WA.ret ?_
                exact ret_fn (.inl rfl) rfl (VLe.of_eq (congrArg (V.int .i64) (by unfold wireK numK; (repeat' split); all_goals first | omega | (simp at *; omega) | simp_all | rfl))) rfl
            · try simp only [bnA] at h6
              try simp only [bnB] at h6
              refine sNo rfl rfl ?_
              refine sNo rfl rfl ?_
              refine sRet rfl rfl trivial ?_
              refine sRet rfl rfl trivial ?_
              refine sNo rfl rfl ?_
              refine sNo rfl rfl ?_
              refine sRet rfl rfl trivial ?_
              refine sEnd ?_
              refine WA.cond (b := true) rfl (fun _ => ?_) (fun h => absurd h (by decide))
              refine WA.seq ?_
              refine WA.reg ?_
              refine sRet rfl rfl trivial ?_
              refine sEnd ?_
              refine WA.ret ?_
              exact ret_fn (.inl rfl) rfl (VLe.of_eq (congrArg (V.int .i64) (by unfold wireK numK; (repeat' split); all_goals first | omega | (simp at *; omega) | simp_all | rfl))) rfl
          · try simp only [bnA] at h5
            try simp only [bnB] at h5
            refine WA.cond (b := true) rfl (fun _ => ?_) (fun h => absurd h (by decide))
            refine WA.seq ?_
            refine WA.reg ?_
            refine sRet rfl rfl trivial ?_
            refine sEnd ?_
            refine WA.ret ?_
            exact ret_fn (.inl rfl) rfl (VLe.of_eq (congrArg (V.int .i64) (by unfold wireK numK; (repeat' split); all_goals first | omega | (simp at *; omega) | simp_all | rfl))) rfl
        · try simp only [bnA] at h4
          try simp only [bnB] at h4
          refine sNo rfl rfl ?_
          refine sNo rfl rfl ?_
          refine sRet rfl rfl trivial ?_
          refine sEnd ?_
          refine WA.cond (b := true) rfl (fun _ => ?_) (fun h => absurd h (by decide))
          refine WA.seq ?_
          refine WA.reg ?_
          refine sRet rfl rfl trivial ?_
          refine sEnd ?_
          refine WA.ret ?_
          exact ret_fn (.inl rfl) rfl (VLe.of_eq (congrArg (V.int .i64) (by unfold wireK numK; (repeat' split); all_goals first | omega | (simp at *; omega) | simp_all | rfl))) rfl
      · try simp only [bnA] at h3
        try simp only [bnB] at h3
        refine sNo rfl rfl ?_
        refine sNo rfl rfl ?_
        refine sRet rfl rfl trivial ?_
        refine sRet rfl rfl trivial ?_
        refine sNo rfl rfl ?_
        refine sNo rfl rfl ?_
        refine sRet rfl rfl trivial ?_
        refine sEnd ?_
        refine WA.cond (b := true) rfl (fun _ => ?_) (fun h => absurd h (by decide))
        refine WA.seq ?_
        refine WA.reg ?_
        refine sRet rfl rfl trivial ?_
        refine sEnd ?_
        refine WA.ret ?_
        exact ret_fn (.inl rfl) rfl (VLe.of_eq (congrArg (V.int .i64) (by unfold wireK numK; (repeat' split); all_goals first | omega | (simp at *; omega) | simp_all | rfl))) rfl
    · try simp only [bnA] at h2
      try simp only [bnB] at h2
      refine WA.cond (b := true) rfl (fun _ => ?_) (fun h => absurd h (by decide))
      refine WA.seq ?_
      refine WA.reg ?_
      refine sRet rfl rfl trivial ?_
      refine sEnd ?_
      refine WA.ret ?_
      exact ret_fn (.inl rfl) rfl (VLe.of_eq (congrArg (V.int .i64) (by unfold wireK numK; (repeat' split); all_goals first | omega | (simp at *; omega) | simp_all | rfl))) rfl
  · try simp only [bnA] at h1
    try simp only [bnB] at h1
    refine sNo rfl rfl ?_
    refine sNo rfl rfl ?_
    refine sRet rfl rfl trivial ?_
    refine sEnd ?_
    refine WA.cond (b := true) rfl (fun _ => ?_) (fun h => absurd h (by decide))
    refine WA.seq ?_
    refine WA.reg ?_
    refine sRet rfl rfl trivial ?_
    refine sEnd ?_
    refine WA.ret ?_
    exact ret_fn (.inl rfl) rfl (VLe.of_eq (congrArg (V.int .i64) (by unfold wireK numK; (repeat' split); all_goals first | omega | (simp at *; omega) | simp_all | rfl))) rfl

theorem w39 {C : Cx} (hC : C.P = Tryz.prog) {w : Int} : AFn C 39 [.int .i64 w] (.fn (.func (if w = 1 then 73 else if w = 5 then 74 else 76)) [] []) := by
  refine fn_of_WA (by rw [hC]; exact af39) (Nat.le_of_ble_eq_true rfl) rfl rfl fun B hB => ?_
  refine WA.seq ?_
  refine WA.reg ?_
  refine sRet rfl rfl trivial ?_
  refine sEnd ?_
  refine WA.seq ?_
  refine WA.seq ?_
  refine WA.reg ?_
  refine sRet rfl rfl trivial ?_
  refine sEnd ?_
  refine WA.block ?_
  refine WA.seq ?_
  refine WA.reg ?_
  refine sBool rfl rfl (by first | exact trivial | exact Nat.le_of_ble_eq_true rfl | decide | omega | (simp; done) | (simp; omega) | (constructor <;> omega)) fun b1 h1 => ?_
  refine sRet rfl rfl trivial ?_
  refine sEnd ?_
  cases b1
  · try simp only [bnA] at h1
    try simp only [bnB] at h1
    refine WA.cond (b := false) rfl (fun h => absurd h (by decide)) (fun _ => ?_)
    refine WA.seq ?_
    refine WA.reg ?_
    refine sBool rfl rfl (by first | exact trivial | exact Nat.le_of_ble_eq_true rfl | decide | omega | (simp; done) | (simp; omega) | (constructor <;> omega)) fun b2 h2 => ?_
    refine sRet rfl rfl trivial ?_
    refine sEnd ?_
    cases b2
    · try simp only [bnA] at h2
      try simp only [bnB] at h2
      refine WA.cond (b := false) rfl (fun h => absurd h (by decide)) (fun _ => ?_)
      refine WA.skip ?_
      refine WA.seq ?_
      refine WA.reg ?_
      refine sRet rfl rfl trivial ?_
      refine sEnd ?_
      refine WA.ret ?_
      exact ret_fn (.inl rfl) rfl (VLe.of_eq (by (repeat' split); all_goals first | omega | (simp_all; done) | rfl)) rfl
    · try simp only [bnA] at h2
      try simp only [bnB] at h2
      refine WA.cond (b := true) rfl (fun _ => ?_) (fun h => absurd h (by decide))
      refine WA.seq ?_
      refine WA.reg ?_
      refine sRet rfl rfl trivial ?_
      refine sEnd ?_
      refine WA.ret ?_
      exact ret_fn (.inl rfl) rfl (VLe.of_eq (by (repeat' split); all_goals first | omega | (simp_all; done) | rfl)) rfl
  · try simp only [bnA] at h1
    try simp only [bnB] at h1
    refine WA.cond (b := true) rfl (fun _ => ?_) (fun h => absurd h (by decide))
    refine WA.seq ?_
    refine WA.reg ?_
    refine sRet rfl rfl trivial ?_
    refine sEnd ?_
    refine WA.ret ?_
    exact ret_fn (.inl rfl) rfl (VLe.of_eq (by (repeat' split); all_goals first | omega | (simp_all; done) | rfl)) rfl

theorem w77 {C : Cx} (hC : C.P = Tryz.prog) {k : Int} : AFn C 77 [.int .i64 k] (.fn (.func (if k = 7 ∨ k = 8 then 136 else if k = 11 then 137 else if numK k = false then 138 else 139)) [] []) := by
  refine fn_of_WA (by rw [hC]; exact af77) (Nat.le_of_ble_eq_true rfl) rfl rfl fun B hB => ?_
  refine WA.seq ?_
  refine WA.reg ?_
  refine sRet rfl rfl trivial ?_
  refine sEnd ?_
  refine WA.seq ?_
  refine WA.seq ?_
  refine WA.reg ?_
  refine sRet rfl rfl trivial ?_
  refine sEnd ?_
  refine WA.block ?_
  refine WA.seq ?_
  refine WA.seq ?_
  refine WA.reg ?_
  refine sBool rfl rfl (by first | exact trivial | exact Nat.le_of_ble_eq_true rfl | decide | omega | (simp; done) | (simp; omega) | (constructor <;> omega)) fun b1 h1 => ?_
  refine sRet rfl rfl trivial ?_
  refine sEnd ?_
  cases b1
  · try simp only [bnA] at h1
    try simp only [bnB] at h1
    refine WA.cond (b := false) rfl (fun h => absurd h (by decide)) (fun _ => ?_)
    refine WA.reg ?_
    refine sBool rfl rfl (by first | exact trivial | exact Nat.le_of_ble_eq_true rfl | decide | omega | (simp; done) | (simp; omega) | (constructor <;> omega)) fun b2 h2 => ?_
    refine sRet rfl rfl trivial ?_
    refine sEnd ?_
    cases b2
    · try simp only [bnA] at h2
      try simp only [bnB] at h2
      refine WA.cond (b := false) rfl (fun h => absurd h (by decide)) (fun _ => ?_)
      refine WA.seq ?_
      refine WA.reg ?_
      refine sBool rfl rfl (by first | exact trivial | exact Nat.le_of_ble_eq_true rfl | decide | omega | (simp; done) | (simp; omega) | (constructor <;> omega)) fun b3 h3 => ?_
      refine sRet rfl rfl trivial ?_
      refine sEnd ?_
      cases b3
      · try simp only [bnA] at h3
        try simp only [bnB] at h3
        refine WA.cond (b := false) rfl (fun h => absurd h (by decide)) (fun _ => ?_)
        refine WA.skip ?_
        refine WA.seq ?_
        refine WA.seq ?_
        refine WA.reg ?_
        refine sRet rfl rfl trivial ?_
        refine sFnB rfl (w38 hC) fun b4 h4 => ?_
        refine sRet rfl rfl trivial ?_
        refine sEnd ?_
        cases b4
        · try simp only [bnA] at h4
          try simp only [bnB] at h4
          refine WA.cond (b := true) rfl (fun _ => ?_) (fun h => absurd h (by decide))
          refine WA.seq ?_
          refine WA.reg ?_
          refine sRet rfl rfl trivial ?_
          refine sEnd ?_
          refine WA.ret ?_
          exact ret_fn (.inl rfl) rfl (VLe.of_eq (by (repeat' split); all_goals first | omega | (simp_all; done) | rfl)) rfl
        · try simp only [bnA] at h4
          try simp only [bnB] at h4
          refine WA.cond (b := false) rfl (fun h => absurd h (by decide)) (fun _ => ?_)
          refine WA.skip ?_
          refine WA.seq ?_
          refine WA.reg ?_
          refine sRet rfl rfl trivial ?_
          refine sEnd ?_
          refine WA.ret ?_
          exact ret_fn (.inl rfl) rfl (VLe.of_eq (by (repeat' split); all_goals first | omega | (simp_all; done) | rfl)) rfl
      · try simp only [bnA] at h3
        try simp only [bnB] at h3
        refine WA.cond (b := true) rfl (fun _ => ?_) (fun h => absurd h (by decide))
        refine WA.seq ?_
        refine WA.reg ?_
        refine sRet rfl rfl trivial ?_
        refine sEnd ?_
        refine WA.ret ?_
        exact ret_fn (.inl rfl) rfl (VLe.of_eq (by (repeat' split); all_goals first | omega | (simp_all; done) | rfl)) rfl
    · try simp only [bnA] at h2
      try simp only [bnB] at h2
      refine WA.cond (b := true) rfl (fun _ => ?_) (fun h => absurd h (by decide))
      refine WA.seq ?_
      refine WA.reg ?_
      refine sRet rfl rfl trivial ?_
      refine sEnd ?_
      refine WA.ret ?_
      exact ret_fn (.inl rfl) rfl (VLe.of_eq (by (repeat' split); all_goals first | omega | (simp_all; done) | rfl)) rfl
  · try simp only [bnA] at h1
    try simp only [bnB] at h1
    refine WA.cond (b := true) rfl (fun _ => ?_) (fun h => absurd h (by decide))
    refine WA.skip ?_
    refine WA.cond (b := true) rfl (fun _ => ?_) (fun h => absurd h (by decide))
    refine WA.seq ?_
    refine WA.reg ?_
    refine sRet rfl rfl trivial ?_
    refine sEnd ?_
    refine WA.ret ?_
    exact ret_fn (.inl rfl) rfl (VLe.of_eq (by (repeat' split); all_goals first | omega | (simp_all; done) | rfl)) rfl

theorem w187 {C : Cx} (hC : C.P = Tryz.prog) {n : Nat} (hn : n < 18446744073709551616) : AFn C 187 [.int .i64 (IntKind.wrap .i64 n)] (.int .u64 (zigN n : Nat)) := by
  refine fn_of_WA (by rw [hC]; exact af187) (Nat.le_of_ble_eq_true rfl) rfl rfl fun B hB => ?_
  refine WA.seq ?_
  refine WA.reg ?_
  refine sRet rfl rfl trivial ?_
  refine sEnd ?_
  refine WA.seq ?_
  refine WA.reg ?_
  refine sRet rfl rfl trivial ?_
  refine sRet rfl rfl trivial ?_
  refine sRet rfl rfl (by first | exact trivial | exact Nat.le_of_ble_eq_true rfl | decide | omega | (simp; done) | (simp; omega) | (constructor <;> omega)) ?_
  refine sRet rfl rfl trivial ?_
  refine sRet rfl rfl (by first | exact trivial | exact Nat.le_of_ble_eq_true rfl | decide | omega | (simp; done) | (simp; omega) | (constructor <;> omega)) ?_
  refine sRet rfl rfl trivial ?_
  refine sRet rfl rfl trivial ?_
  refine sRet rfl rfl trivial ?_
  refine sEnd ?_
  refine WA.ret ?_
  exact ret_fn (.inl rfl) rfl (VLe.of_eq (congrArg (V.int .u64) (zig_xor hn))) rfl

theorem w136 {C : Cx} (hC : C.P = Tryz.prog) {n : Nat} (hn : n < 18446744073709551616) : AFn C 136 [.int .u64 n] (.int .u64 (zigN n : Nat)) := by
  refine fn_of_WA (by rw [hC]; exact af136) (Nat.le_of_ble_eq_true rfl) rfl rfl fun B hB => ?_
  refine WA.seq ?_
  refine WA.reg ?_
  refine sRet rfl rfl trivial ?_
  refine sEnd ?_
  refine WA.seq ?_
  refine WA.reg ?_
  refine sRet rfl rfl trivial ?_
  refine sRet rfl rfl trivial ?_
  refine sFn rfl (w187 hC hn) ?_
  refine sRet rfl rfl trivial ?_
  refine sEnd ?_
  refine WA.ret ?_
  exact ret_fn (.inl rfl) rfl (VLe.of_eq rfl) rfl

theorem w137 {C : Cx} (hC : C.P = Tryz.prog) {n : Nat} : AFn C 137 [.int .u64 n] (.int .u64 ((n % 4294967296 : Nat) : Int)) := by
  refine fn_of_WA (by rw [hC]; exact af137) (Nat.le_of_ble_eq_true rfl) rfl rfl fun B hB => ?_
  refine WA.seq ?_
  refine WA.reg ?_
  refine sRet rfl rfl trivial ?_
  refine sEnd ?_
  refine WA.seq ?_
  refine WA.reg ?_
  refine sRet rfl rfl trivial ?_
  refine sRet rfl rfl trivial ?_
  refine sRet rfl rfl trivial ?_
  refine sRet rfl rfl trivial ?_
  refine sEnd ?_
  refine WA.ret ?_
  exact ret_fn (.inl rfl) rfl (VLe.of_eq (congrArg (V.int .u64) (by rw [wrapU32, wrapU64 (by omega)]; omega))) rfl

theorem w138 {C : Cx} (hC : C.P = Tryz.prog) {n : Nat} : AFn C 138 [.int .u64 n] (.int .u64 0) := by
  refine fn_of_WA (by rw [hC]; exact af138) (Nat.le_of_ble_eq_true rfl) rfl rfl fun B hB => ?_
  refine WA.seq ?_
  refine WA.reg ?_
  refine sRet rfl rfl trivial ?_
  refine sEnd ?_
  refine WA.seq ?_
  refine WA.reg ?_
  refine sRet rfl rfl trivial ?_
  refine sEnd ?_
  refine WA.ret ?_
  exact ret_fn (.inl rfl) rfl (VLe.of_eq rfl) rfl

theorem w139 {C : Cx} (hC : C.P = Tryz.prog) {n : Nat} : AFn C 139 [.int .u64 n] (.int .u64 n) := by
  refine fn_of_WA (by rw [hC]; exact af139) (Nat.le_of_ble_eq_true rfl) rfl rfl fun B hB => ?_
  refine WA.seq ?_
  refine WA.reg ?_
  refine sRet rfl rfl trivial ?_
  refine sEnd ?_
  refine WA.seq ?_
  refine WA.reg ?_
  refine sRet rfl rfl trivial ?_
  refine sRet rfl rfl trivial ?_
  refine sEnd ?_
  refine WA.ret ?_
  exact ret_fn (.inl rfl) rfl (VLe.of_eq rfl) rfl

theorem fn136 : isFn Tryz.prog 136 = true := by kernel_rfl
theorem fn137 : isFn Tryz.prog 137 = true := by kernel_rfl
theorem fn138 : isFn Tryz.prog 138 = true := by kernel_rfl
theorem fn139 : isFn Tryz.prog 139 = true := by kernel_rfl
theorem fn73 : isFn Tryz.prog 73 = true := by kernel_rfl
theorem fn74 : isFn Tryz.prog 74 = true := by kernel_rfl
theorem fn76 : isFn Tryz.prog 76 = true := by kernel_rfl
/-- The function that a kind's numbers are written by. -/
theorem wback {C : Cx} (hC : C.P = Tryz.prog) {k : Int} {n : Nat} (hn : n < 18446744073709551616) :
    isFn C.P (if k = 7 ∨ k = 8 then 136 else if k = 11 then 137 else if numK k = false then 138 else 139) = true ∧ AFn C (if k = 7 ∨ k = 8 then 136 else if k = 11 then 137 else if numK k = false then 138 else 139) ([] ++ [.int .u64 n] ++ []) (.int .u64 (backK k n : Nat)) := by
  unfold backK
  by_cases h1 : k = 7 ∨ k = 8
  · have h2 : numK k = true := by unfold numK; simp; omega
    simp only [h1, h2, if_true, Bool.true_eq_false, if_false]
    exact ⟨by rw [hC]; exact fn136, w136 hC hn⟩
  · simp only [h1, if_false]
    by_cases h3 : k = 11
    · have h2 : numK k = true := by unfold numK; simp; omega
      simp only [h3, h2, if_true, Bool.true_eq_false, if_false]
      subst h3
      simp only [h2, Bool.true_eq_false, if_false]
      exact ⟨by rw [hC]; exact fn137, w137 hC⟩
    · simp only [h3, if_false]
      cases h4 : numK k
      · simp only [if_true]; exact ⟨by rw [hC]; exact fn138, w138 hC (n := n)⟩
      · simp only [Bool.true_eq_false, if_false]; exact ⟨by rw [hC]; exact fn139, w139 hC⟩

theorem w41 {C : Cx} (hC : C.P = Tryz.prog) {k : Int} {n : Nat} (hn : n < 18446744073709551616) : AFn C 41 [.int .i64 k, .int .u64 n] (.int .u64 (backK k n : Nat)) := by
  refine fn_of_WA (by rw [hC]; exact af41) (Nat.le_of_ble_eq_true rfl) rfl rfl fun B hB => ?_
  refine WA.seq ?_
  refine WA.reg ?_
  refine sRet rfl rfl trivial ?_
  refine sEnd ?_
  refine WA.seq ?_
  refine WA.reg ?_
  refine sRet rfl rfl trivial ?_
  refine sFn rfl (w77 hC) ?_
  refine sRet rfl rfl trivial ?_
  refine sDynFn rfl rfl (wback hC hn).1 (wback hC hn).2 ?_
  refine sRet rfl rfl trivial ?_
  refine sEnd ?_
  refine WA.ret ?_
  exact ret_fn (.inl rfl) rfl (VLe.of_eq rfl) rfl

theorem w135 {C : Cx} (hC : C.P = Tryz.prog)  : AFn C 135 [.raw (.slice none 0 0)] (.raw (.slice none 0 0)) := by
  refine fn_of_WA (by rw [hC]; exact af135) (Nat.le_of_ble_eq_true rfl) rfl rfl fun B hB => ?_
  refine WA.seq ?_
  refine WA.reg ?_
  refine sRet rfl rfl trivial ?_
  refine sEnd ?_
  refine WA.seq ?_
  refine WA.seq ?_
  refine WA.reg ?_
  refine sRet rfl rfl trivial ?_
  refine sRet rfl rfl trivial ?_
  refine sEnd ?_
  refine WA.cond (b := true) rfl (fun _ => ?_) (fun h => absurd h (by decide))
  refine WA.seq ?_
  refine WA.reg ?_
  refine sRet rfl rfl trivial ?_
  refine sEnd ?_
  refine WA.ret ?_
  exact ret_fn (.inl rfl) rfl (VLe.of_eq rfl) rfl

theorem w133 {C : Cx} (hC : C.P = Tryz.prog) {n m : Nat} (hm : m ≤ 8) : AFn C 133 [.raw (.slice none 0 0), .int .u64 n, .int .i64 (m : Nat)] (.sl none 1 ((leB n m).map encB)) := by
  refine fn_of_WA (by rw [hC]; exact af133) (Nat.le_of_ble_eq_true rfl) rfl rfl fun B hB => ?_
  refine WA.seq ?_
  refine WA.reg ?_
  refine sRet rfl rfl trivial ?_
  refine sEnd ?_
  refine WA.seq ?_
  refine WA.reg ?_
  refine sRet rfl rfl trivial ?_
  refine sFn rfl (w135 hC) ?_
  refine sRet rfl rfl trivial ?_
  refine sEnd ?_
  refine WA.seq ?_
  refine WA.seq ?_
  refine WA.reg ?_
  refine sRet rfl rfl trivial ?_
  refine sRet rfl rfl trivial ?_
  refine sEnd ?_
  refine WA.block ?_
  refine WA.gh (Gh.adoptSlot 7 5 1 (Nat.le_of_ble_eq_true rfl) rfl) ?_
  refine WA.loopF (σ := Nat × List UInt8) hB 7 (Nat.zero_le _) (fun x => [(1, .int .u64 n), (11, .int .i64 (m : Nat)), (12, .int .i64 (x.1 : Nat)), (7, .sl (some 6) 1 (x.2.map encB))]) (fun x => [(6, .tok 5 1 x.2.length)]) (fun x => x.2 = leB n x.1 ∧ x.1 ≤ m) (fun x => m - x.1) (0, []) (by repeat (first | exact FrLe.nil | refine FrLe.cons rfl (VLe.refl _) rfl ?_)) (by repeat (first | exact HpLe.nil | refine HpLe.cons rfl (by decide) rfl ?_)) ⟨rfl, Nat.zero_le _⟩ ?_
  rintro ⟨i, out⟩ ⟨hout, hi⟩
  simp only at hout hi
  subst hout
  refine WA.seq ?_
  refine WA.reg ?_
  refine sBool rfl rfl (by first | exact trivial | exact Nat.le_of_ble_eq_true rfl | decide | omega | (simp; done) | (simp; omega) | (constructor <;> omega)) fun b1 h1 => ?_
  refine sEnd ?_
  refine WA.seq ?_
  cases b1
  · try simp only [bnA] at h1
    try simp only [bnB] at h1
    refine WA.cond (b := false) rfl (fun h => absurd h (by decide)) (fun _ => ?_)
    refine WA.exit ?_
    refine WA.seq ?_
    refine WA.reg ?_
    refine sRet rfl rfl trivial ?_
    refine sRet rfl rfl trivial ?_
    refine sEnd ?_
    refine WA.ret ?_
    simp only [] at *
    have hm : i = m := by simp at *; omega
    subst hm
    exact ret_fn (.inl rfl) rfl (VLe.sl _ _ _) rfl
  · try simp only [bnA] at h1
    try simp only [bnB] at h1
    refine WA.cond (b := true) rfl (fun _ => ?_) (fun h => absurd h (by decide))
    refine WA.skip ?_
    refine WA.seq ?_
    refine WA.block ?_
    refine WA.seq ?_
    refine WA.reg ?_
    refine sRet rfl rfl trivial ?_
    refine sRet rfl rfl trivial ?_
    refine sEnd ?_
    refine WA.reg ?_
    refine sRet rfl rfl trivial ?_
    refine sRet rfl rfl trivial ?_
    refine sRet rfl rfl trivial ?_
    refine sRetE rfl rfl trivial (v' := .int .i64 ((8 * i : Nat) : Int)) (congrArg (V.int .i64) (by simp at *; rw [wrap64 (by omega)])) ?_
    refine sRetE rfl rfl (by show (0 : Int) ≤ _; omega) (v' := .int .u64 ((n / 256 ^ i : Nat) : Int)) (congrArg (V.int .u64) (shr_8 (by simp at *; omega))) ?_
    refine sRetE rfl rfl trivial (v' := encB (UInt8.ofNat (n / 256 ^ i))) (by rw [← encB_ofNat, wrapU8]; congr 1) ?_
    refine sEff rfl rfl rfl rfl ?_
    refine sApp encB (UInt8.ofNat (n / 256 ^ i)) rfl rfl rfl (by simp [leB_len] at *; omega) ?_
    refine sRet rfl rfl trivial ?_
    refine sEnd ?_
    refine WA.reg ?_
    refine sAdd rfl (by simp at *; omega) ?_
    refine sRet rfl rfl trivial ?_
    refine sEnd ?_
    refine Exists.intro (i + 1, leB n i ++ [UInt8.ofNat (n / 256 ^ i)]) ⟨⟨⟨rfl, ?_⟩, ?_⟩, ?_, ?_⟩
    · simp at *; omega
    · simp at *; omega
    · exact (by repeat (first | exact FrLe.nil | refine FrLe.cons rfl (VLe.refl _) rfl ?_))
    · exact (by repeat (first | exact HpLe.nil | refine HpLe.cons rfl (by decide) rfl ?_))

theorem w73 {C : Cx} (hC : C.P = Tryz.prog) {n : Nat} : AFn C 73 [.raw (.slice none 0 0), .int .u64 n] (.sl none 1 ((leB n 8).map encB)) := by
  refine fn_of_WA (by rw [hC]; exact af73) (Nat.le_of_ble_eq_true rfl) rfl rfl fun B hB => ?_
  refine WA.seq ?_
  refine WA.reg ?_
  refine sRet rfl rfl trivial ?_
  refine sEnd ?_
  refine WA.seq ?_
  refine WA.reg ?_
  refine sRet rfl rfl trivial ?_
  refine sRet rfl rfl trivial ?_
  refine sFn rfl (w133 hC (n := n) (m := 8) (by decide)) ?_
  refine sRet rfl rfl trivial ?_
  refine sEnd ?_
  refine WA.ret ?_
  exact ret_fn (.inl rfl) rfl (VLe.of_eq rfl) rfl

theorem w75 {C : Cx} (hC : C.P = Tryz.prog) {n : Nat} (hn : n < 4294967296) : AFn C 75 [.raw (.slice none 0 0), .int .u32 n] (.sl none 1 ((leB n 4).map encB)) := by
  refine fn_of_WA (by rw [hC]; exact af75) (Nat.le_of_ble_eq_true rfl) rfl rfl fun B hB => ?_
  refine WA.seq ?_
  refine WA.reg ?_
  refine sRet rfl rfl trivial ?_
  refine sEnd ?_
  refine WA.seq ?_
  refine WA.reg ?_
  refine sRet rfl rfl trivial ?_
  refine sRet rfl rfl trivial ?_
  refine sRetE rfl rfl trivial (v' := .int .u64 (n : Int)) (congrArg (V.int .u64) (wrapU64 (by omega))) ?_
  refine sFn rfl (w133 hC (n := n) (m := 4) (by decide)) ?_
  refine sRet rfl rfl trivial ?_
  refine sEnd ?_
  refine WA.ret ?_
  exact ret_fn (.inl rfl) rfl (VLe.of_eq rfl) rfl

theorem w74 {C : Cx} (hC : C.P = Tryz.prog) {n : Nat} : AFn C 74 [.raw (.slice none 0 0), .int .u64 n] (.sl none 1 ((leB (n % 4294967296) 4).map encB)) := by
  refine fn_of_WA (by rw [hC]; exact af74) (Nat.le_of_ble_eq_true rfl) rfl rfl fun B hB => ?_
  refine WA.seq ?_
  refine WA.reg ?_
  refine sRet rfl rfl trivial ?_
  refine sEnd ?_
  refine WA.seq ?_
  refine WA.reg ?_
  refine sRet rfl rfl trivial ?_
  refine sRet rfl rfl trivial ?_
  refine sRetE rfl rfl trivial (v' := .int .u32 ((n % 4294967296 : Nat) : Int)) (congrArg (V.int .u32) (by rw [wrapU32]; omega)) ?_
  refine sFn rfl (w75 hC (n := n % 4294967296) (by omega)) ?_
  refine sRet rfl rfl trivial ?_
  refine sEnd ?_
  refine WA.ret ?_
  exact ret_fn (.inl rfl) rfl (VLe.of_eq rfl) rfl

theorem w134 {C : Cx} (hC : C.P = Tryz.prog) {n : Nat} (hn : n < 18446744073709551616) : AFn C 134 [.raw (.slice none 0 0), .int .u64 n] (.sl none 1 ((vput n).map encB)) := by
  refine fn_of_WA (by rw [hC]; exact af134) (Nat.le_of_ble_eq_true rfl) rfl rfl fun B hB => ?_
  refine WA.seq ?_
  refine WA.reg ?_
  refine sRet rfl rfl trivial ?_
  refine sEnd ?_
  refine WA.seq ?_
  refine WA.block ?_
  refine WA.gh (Gh.adoptSlot 0 5 1 (Nat.le_of_ble_eq_true rfl) rfl) ?_
  refine WA.loopF (σ := Nat × List UInt8) hB 2 (Nat.zero_le _) (fun x => [(1, .int .u64 (x.1 : Nat)), (0, .sl (some 1) 1 (x.2.map encB))]) (fun x => [(1, .tok 5 1 x.2.length)]) (fun x => x.2 ++ vput x.1 = vput n ∧ x.1 ≤ n) (fun x => x.1) (n, []) (by repeat (first | exact FrLe.nil | refine FrLe.cons rfl (VLe.refl _) rfl ?_)) (by repeat (first | exact HpLe.nil | refine HpLe.cons rfl (by decide) rfl ?_)) ⟨rfl, Nat.le_refl _⟩ ?_
  rintro ⟨i, out⟩ ⟨hout, hi⟩
  simp only at hout hi
  have hlen : out.length + (vput i).length ≤ 10 := by rw [← List.length_append, hout]; exact vput_len hn
  refine WA.seq ?_
  refine WA.seq ?_
  refine WA.reg ?_
  refine sRet rfl rfl trivial ?_
  refine sBool rfl rfl (by first | exact trivial | exact Nat.le_of_ble_eq_true rfl | decide | omega | (simp; done) | (simp; omega) | (constructor <;> omega)) fun b1 h1 => ?_
  refine sEnd ?_
  cases b1
  · try simp only [bnA] at h1
    try simp only [bnB] at h1
    refine WA.cond (b := false) rfl (fun h => absurd h (by decide)) (fun _ => ?_)
    refine WA.exit ?_
    refine WA.seq ?_
    refine WA.reg ?_
    refine sRet rfl rfl trivial ?_
    refine sRet rfl rfl trivial ?_
    refine sRetE rfl rfl trivial (v' := encB (UInt8.ofNat i)) (by rw [← encB_ofNat, wrapU8]; congr 1) ?_
    refine sEff rfl rfl rfl rfl ?_
    refine sApp encB (UInt8.ofNat i) rfl rfl rfl (by simp at *; omega) ?_
    refine sRet rfl rfl trivial ?_
    refine sEnd ?_
    refine WA.ret ?_
    have hlt : i < 128 := by simp at *; omega
    have hvp := vput_lt hlt
    rw [hvp] at hout
    rw [← hout]
    exact ret_fn (.inl rfl) rfl (VLe.sl _ _ _) rfl
  · try simp only [bnA] at h1
    try simp only [bnB] at h1
    refine WA.cond (b := true) rfl (fun _ => ?_) (fun h => absurd h (by decide))
    refine WA.skip ?_
    refine WA.seq ?_
    refine WA.block ?_
    refine WA.reg ?_
    refine sRet rfl rfl trivial ?_
    refine sRet rfl rfl trivial ?_
    refine sRet rfl rfl trivial ?_
    refine sRetE rfl rfl trivial (v' := encB (UInt8.ofNat (i % 128 + 128))) (by rw [← encB_ofNat]; exact congrArg (V.int .u8) ((or_128 i).trans (by omega))) ?_
    refine sEff rfl rfl rfl rfl ?_
    refine sApp encB (UInt8.ofNat (i % 128 + 128)) rfl rfl rfl (by simp at *; omega) ?_
    refine sRet rfl rfl trivial ?_
    refine sEnd ?_
    refine WA.reg ?_
    refine sRet rfl rfl trivial ?_
    refine sRetE rfl rfl (by exact (by decide : (0 : Int) ≤ 7)) (v' := .int .u64 ((i / 128 : Nat) : Int)) (congrArg (V.int .u64) (by show (i : Int).fdiv (2 ^ 7) = _; rw [Int.fdiv_eq_ediv_of_nonneg _ (by omega)]; omega)) ?_
    refine sRet rfl rfl trivial ?_
    refine sEnd ?_
    have hge : ¬ i < 128 := by simp at *; omega
    have hvp := vput_ge hge
    refine Exists.intro (i / 128, out ++ [UInt8.ofNat (i % 128 + 128)]) ⟨⟨⟨?_, ?_⟩, ?_⟩, ?_, ?_⟩
    · rw [← hout, hvp]; simp
    · simp at *; omega
    · simp at *; omega
    · exact (by repeat (first | exact FrLe.nil | refine FrLe.cons rfl (VLe.refl _) rfl ?_))
    · exact (by repeat (first | exact HpLe.nil | refine HpLe.cons rfl (by decide) rfl ?_))

theorem w76 {C : Cx} (hC : C.P = Tryz.prog) {n : Nat} (hn : n < 18446744073709551616) : AFn C 76 [.raw (.slice none 0 0), .int .u64 n] (.sl none 1 ((vput n).map encB)) := by
  refine fn_of_WA (by rw [hC]; exact af76) (Nat.le_of_ble_eq_true rfl) rfl rfl fun B hB => ?_
  refine WA.seq ?_
  refine WA.reg ?_
  refine sRet rfl rfl trivial ?_
  refine sEnd ?_
  refine WA.seq ?_
  refine WA.reg ?_
  refine sRet rfl rfl trivial ?_
  refine sFn rfl (w135 hC) ?_
  refine sRet rfl rfl trivial ?_
  refine sFn rfl (w134 hC hn) ?_
  refine sRet rfl rfl trivial ?_
  refine sEnd ?_
  refine WA.ret ?_
  exact ret_fn (.inl rfl) rfl (VLe.of_eq rfl) rfl

theorem w78 {C : Cx} (hC : C.P = Tryz.prog) {k : Int} {n : Nat} (hn : n < 18446744073709551616) : AFn C 78 [.int .i64 k, .int .u64 n] (.int .u64 (backK k n : Nat)) := by
  refine fn_of_WA (by rw [hC]; exact af78) (Nat.le_of_ble_eq_true rfl) rfl rfl fun B hB => ?_
  refine WA.seq ?_
  refine WA.reg ?_
  refine sRet rfl rfl trivial ?_
  refine sEnd ?_
  refine WA.seq ?_
  refine WA.seq ?_
  refine WA.reg ?_
  refine sRet rfl rfl trivial ?_
  refine sFnB rfl (w37 hC) fun b1 h1 => ?_
  refine sRet rfl rfl trivial ?_
  refine sEnd ?_
  cases b1
  · try simp only [bnA] at h1
    try simp only [bnB] at h1
    refine WA.cond (b := true) rfl (fun _ => ?_) (fun h => absurd h (by decide))
    refine WA.seq ?_
    refine WA.reg ?_
    refine sRet rfl rfl trivial ?_
    refine sEnd ?_
    refine WA.ret ?_
    exact ret_fn (.inl rfl) rfl (VLe.of_eq (congrArg (V.int .u64) (by unfold backK zigN; (repeat' split); all_goals first | omega | simp_all | rfl))) rfl
  · try simp only [bnA] at h1
    try simp only [bnB] at h1
    refine WA.cond (b := false) rfl (fun h => absurd h (by decide)) (fun _ => ?_)
    refine WA.skip ?_
    refine WA.seq ?_
    refine WA.seq ?_
    refine WA.reg ?_
    refine sRet rfl rfl trivial ?_
    refine sBool rfl rfl (by first | exact trivial | exact Nat.le_of_ble_eq_true rfl | decide | omega | (simp; done) | (simp; omega) | (constructor <;> omega)) fun b2 h2 => ?_
    refine sRet rfl rfl trivial ?_
    cases b2
    · try simp only [bnA] at h2
      try simp only [bnB] at h2
      refine sYes rfl rfl ?_
      refine sRet rfl rfl trivial ?_
      refine sYes rfl rfl ?_
      refine sBool rfl rfl (by first | exact trivial | exact Nat.le_of_ble_eq_true rfl | decide | omega | (simp; done) | (simp; omega) | (constructor <;> omega)) fun b3 h3 => ?_
      refine sRet rfl rfl trivial ?_
      refine sEnd ?_
      cases b3
      · try simp only [bnA] at h3
        try simp only [bnB] at h3
        refine WA.cond (b := false) rfl (fun h => absurd h (by decide)) (fun _ => ?_)
        refine WA.skip ?_
        refine WA.seq ?_
        refine WA.seq ?_
        refine WA.reg ?_
        refine sRet rfl rfl trivial ?_
        refine sBool rfl rfl (by first | exact trivial | exact Nat.le_of_ble_eq_true rfl | decide | omega | (simp; done) | (simp; omega) | (constructor <;> omega)) fun b4 h4 => ?_
        refine sEnd ?_
        cases b4
        · try simp only [bnA] at h4
          try simp only [bnB] at h4
          refine WA.cond (b := false) rfl (fun h => absurd h (by decide)) (fun _ => ?_)
          refine WA.skip ?_
          refine WA.seq ?_
          refine WA.reg ?_
          refine sRet rfl rfl trivial ?_
          refine sRet rfl rfl trivial ?_
          refine sEnd ?_
          refine WA.ret ?_
          exact ret_fn (.inl rfl) rfl (VLe.of_eq (congrArg (V.int .u64) (by unfold backK zigN; (repeat' split); all_goals first | omega | simp_all | rfl))) rfl
        · try simp only [bnA] at h4
          try simp only [bnB] at h4
          refine WA.cond (b := true) rfl (fun _ => ?_) (fun h => absurd h (by decide))
          refine WA.seq ?_
          refine WA.reg ?_
          refine sRet rfl rfl trivial ?_
          refine sRetE rfl rfl (by exact (by decide : (4294967296 : Int) ≠ 0)) (v' := .int .u64 ((n % 4294967296 : Nat) : Int)) (congrArg (V.int .u64) (by rw [Int.tmod_eq_emod_of_nonneg (by omega)]; omega)) ?_
          refine sRet rfl rfl trivial ?_
          refine sEnd ?_
          refine WA.ret ?_
          exact ret_fn (.inl rfl) rfl (VLe.of_eq (congrArg (V.int .u64) (by unfold backK zigN; (repeat' split); all_goals first | omega | simp_all | rfl))) rfl
      · try simp only [bnA] at h3
        try simp only [bnB] at h3
        refine WA.cond (b := true) rfl (fun _ => ?_) (fun h => absurd h (by decide))
        refine WA.seq ?_
        refine WA.seq ?_
        refine WA.reg ?_
        refine sRet rfl rfl trivial ?_
        refine sBool rfl rfl (by first | exact trivial | exact Nat.le_of_ble_eq_true rfl | decide | omega | (simp; done) | (simp; omega) | (constructor <;> omega)) fun b5 h5 => ?_
        refine sEnd ?_
        cases b5
        · try simp only [bnA] at h5
          try simp only [bnB] at h5
          refine WA.cond (b := false) rfl (fun h => absurd h (by decide)) (fun _ => ?_)
          refine WA.skip ?_
          refine WA.seq ?_
          refine WA.reg ?_
          refine sRet rfl rfl trivial ?_
          refine sRetE rfl rfl trivial (v' := .int .u64 ((18446744073709551615 - n : Nat) : Int)) (congrArg (V.int .u64) (by simp at *; rw [wrapU64 (by omega)]; omega)) ?_
          refine sRetE rfl rfl trivial (v' := .int .u64 (((18446744073709551615 - n) * 2 : Nat) : Int)) (congrArg (V.int .u64) (by simp at *; rw [wrapU64 (by omega)]; try omega)) ?_
          refine sRetE rfl rfl trivial (v' := .int .u64 (((18446744073709551615 - n) * 2 + 1 : Nat) : Int)) (congrArg (V.int .u64) (by simp at *; rw [wrapU64 (by omega)]; try omega)) ?_
          refine sRet rfl rfl trivial ?_
          refine sEnd ?_
          refine WA.ret ?_
          exact ret_fn (.inl rfl) rfl (VLe.of_eq (congrArg (V.int .u64) (by unfold backK zigN; (repeat' split); all_goals first | omega | simp_all | rfl))) rfl
        · try simp only [bnA] at h5
          try simp only [bnB] at h5
          refine WA.cond (b := true) rfl (fun _ => ?_) (fun h => absurd h (by decide))
          refine WA.seq ?_
          refine WA.reg ?_
          refine sRet rfl rfl trivial ?_
          refine sRetE rfl rfl trivial (v' := .int .u64 ((n * 2 : Nat) : Int)) (congrArg (V.int .u64) (by simp at *; rw [wrapU64 (by omega)])) ?_
          refine sRet rfl rfl trivial ?_
          refine sEnd ?_
          refine WA.ret ?_
          exact ret_fn (.inl rfl) rfl (VLe.of_eq (congrArg (V.int .u64) (by unfold backK zigN; (repeat' split); all_goals first | omega | simp_all | rfl))) rfl
    · try simp only [bnA] at h2
      try simp only [bnB] at h2
      refine sNo rfl rfl ?_
      refine sNo rfl rfl ?_
      refine sRet rfl rfl trivial ?_
      refine sEnd ?_
      refine WA.cond (b := true) rfl (fun _ => ?_) (fun h => absurd h (by decide))
      refine WA.seq ?_
      refine WA.seq ?_
      refine WA.reg ?_
      refine sRet rfl rfl trivial ?_
      refine sBool rfl rfl (by first | exact trivial | exact Nat.le_of_ble_eq_true rfl | decide | omega | (simp; done) | (simp; omega) | (constructor <;> omega)) fun b6 h6 => ?_
      refine sEnd ?_
      cases b6
      · try simp only [bnA] at h6
        try simp only [bnB] at h6
        refine WA.cond (b := false) rfl (fun h => absurd h (by decide)) (fun _ => ?_)
        refine WA.skip ?_
        refine WA.seq ?_
        refine WA.reg ?_
        refine sRet rfl rfl trivial ?_
        refine sRetE rfl rfl trivial (v' := .int .u64 ((18446744073709551615 - n : Nat) : Int)) (congrArg (V.int .u64) (by simp at *; rw [wrapU64 (by omega)]; omega)) ?_
        refine sRetE rfl rfl trivial (v' := .int .u64 (((18446744073709551615 - n) * 2 : Nat) : Int)) (congrArg (V.int .u64) (by simp at *; rw [wrapU64 (by omega)]; try omega)) ?_
        refine sRetE rfl rfl trivial (v' := .int .u64 (((18446744073709551615 - n) * 2 + 1 : Nat) : Int)) (congrArg (V.int .u64) (by simp at *; rw [wrapU64 (by omega)]; try omega)) ?_
        refine sRet rfl rfl trivial ?_
        refine sEnd ?_
        refine WA.ret ?_
        exact ret_fn (.inl rfl) rfl (VLe.of_eq (congrArg (V.int .u64) (by unfold backK zigN; (repeat' split); all_goals first | omega | simp_all | rfl))) rfl
      · try simp only [bnA] at h6
        try simp only [bnB] at h6
        refine WA.cond (b := true) rfl (fun _ => ?_) (fun h => absurd h (by decide))
        refine WA.seq ?_
        refine WA.reg ?_
        refine sRet rfl rfl trivial ?_
        refine sRetE rfl rfl trivial (v' := .int .u64 ((n * 2 : Nat) : Int)) (congrArg (V.int .u64) (by simp at *; rw [wrapU64 (by omega)])) ?_
        refine sRet rfl rfl trivial ?_
        refine sEnd ?_
        refine WA.ret ?_
        exact ret_fn (.inl rfl) rfl (VLe.of_eq (congrArg (V.int .u64) (by unfold backK zigN; (repeat' split); all_goals first | omega | simp_all | rfl))) rfl

theorem w80 {C : Cx} (hC : C.P = Tryz.prog) {n m : Nat} (hm : m ≤ 8) (hn : n < 18446744073709551616) : AFn C 80 [.sl none 1 [], .int .u64 n, .int .i64 (m : Nat)] (.sl none 1 ((leB n m).map encB)) := by
  refine fn_of_WA (by rw [hC]; exact af80) (Nat.le_of_ble_eq_true rfl) rfl rfl fun B hB => ?_
  refine WA.seq ?_
  refine WA.reg ?_
  refine sRet rfl rfl trivial ?_
  refine sEnd ?_
  refine WA.seq ?_
  refine WA.reg ?_
  refine sEff rfl rfl rfl rfl ?_
  refine sRet rfl rfl trivial ?_
  refine sApps encB (l := ([] : List UInt8)) (r := []) rfl rfl (fun _ h => by cases h) (by decide) ?_
  refine sRet rfl rfl trivial ?_
  refine sEnd ?_
  refine WA.seq ?_
  refine WA.seq ?_
  refine WA.reg ?_
  refine sRet rfl rfl trivial ?_
  refine sEnd ?_
  refine WA.block ?_
  refine WA.loopF (σ := Nat × List UInt8) hB 6 (Nat.zero_le _) (fun x => [(1, .int .u64 ((n / 256 ^ x.1 : Nat) : Int)), (2, .int .i64 (m : Nat)), (8, .int .i64 (x.1 : Nat)), (7, .sl (some 1) 1 (x.2.map encB))]) (fun x => [(1, .tok 5 1 x.2.length)]) (fun x => x.2 = leB n x.1 ∧ x.1 ≤ m) (fun x => m - x.1) (0, []) ?_ (by repeat (first | exact HpLe.nil | refine HpLe.cons rfl (by decide) rfl ?_)) ⟨rfl, Nat.zero_le _⟩ ?_
  · simp only [Nat.pow_zero, Nat.div_one]; exact (by repeat (first | exact FrLe.nil | refine FrLe.cons rfl (VLe.refl _) rfl ?_))
  rintro ⟨i, out⟩ ⟨hout, hi⟩
  simp only at hout hi
  subst hout
  refine WA.seq ?_
  refine WA.seq ?_
  refine WA.reg ?_
  refine sRet rfl rfl trivial ?_
  refine sRet rfl rfl trivial ?_
  refine sBool rfl rfl (by first | exact trivial | exact Nat.le_of_ble_eq_true rfl | decide | omega | (simp; done) | (simp; omega) | (constructor <;> omega)) fun b1 h1 => ?_
  refine sEnd ?_
  cases b1
  · try simp only [bnA] at h1
    try simp only [bnB] at h1
    refine WA.cond (b := false) rfl (fun h => absurd h (by decide)) (fun _ => ?_)
    refine WA.exit ?_
    refine WA.seq ?_
    refine WA.reg ?_
    refine sRet rfl rfl trivial ?_
    refine sRet rfl rfl trivial ?_
    refine sEnd ?_
    refine WA.ret ?_
    have hm2 : i = m := by simp at *; omega
    subst hm2
    exact ret_fn (.inl rfl) rfl (VLe.sl _ _ _) rfl
  · try simp only [bnA] at h1
    try simp only [bnB] at h1
    refine WA.cond (b := true) rfl (fun _ => ?_) (fun h => absurd h (by decide))
    refine WA.skip ?_
    refine WA.seq ?_
    refine WA.block ?_
    refine WA.seq ?_
    refine WA.reg ?_
    refine sRet rfl rfl trivial ?_
    refine sRet rfl rfl trivial ?_
    refine sRetE rfl rfl (by exact (by decide : (256 : Int) ≠ 0)) (v' := .int .u64 ((n / 256 ^ i % 256 : Nat) : Int)) (congrArg (V.int .u64) (modU (n / 256 ^ i) 256)) ?_
    refine sRetE rfl rfl trivial (v' := encB (UInt8.ofNat (n / 256 ^ i))) (by rw [← encB_ofNat, wrapU8]; congr 1; omega) ?_
    refine sEff rfl rfl rfl rfl ?_
    refine sApp encB (UInt8.ofNat (n / 256 ^ i)) rfl rfl rfl (by simp [leB_len] at *; omega) ?_
    refine sRet rfl rfl trivial ?_
    refine sEnd ?_
    refine WA.reg ?_
    refine sRet rfl rfl trivial ?_
    refine sRetE rfl rfl (by exact (by decide : (256 : Int) ≠ 0)) (v' := .int .u64 ((n / 256 ^ i / 256 : Nat) : Int)) (congrArg (V.int .u64) (divU (n := n / 256 ^ i) (by have := Nat.div_le_self n (256 ^ i); omega) 256)) ?_
    refine sRet rfl rfl trivial ?_
    refine sEnd ?_
    refine WA.reg ?_
    refine sRet rfl rfl trivial ?_
    refine sAdd rfl (by simp at *; omega) ?_
    refine sRet rfl rfl trivial ?_
    refine sEnd ?_
    refine Exists.intro (i + 1, leB n i ++ [UInt8.ofNat (n / 256 ^ i)]) ⟨⟨⟨rfl, ?_⟩, ?_⟩, ?_, ?_⟩
    · simp at *; omega
    · simp at *; omega
    · simp only [Nat.pow_succ, ← Nat.div_div_eq_div_mul]; exact (by repeat (first | exact FrLe.nil | refine FrLe.cons rfl (VLe.refl _) rfl ?_))
    · exact (by repeat (first | exact HpLe.nil | refine HpLe.cons rfl (by decide) rfl ?_))

theorem w81 {C : Cx} (hC : C.P = Tryz.prog) : ∀ (n : Nat), n < 18446744073709551616 → AFn C 81 [.int .u64 n] (.sl none 1 ((vput n).map encB)) := by
  intro n
  induction n using Nat.strongRecOn with | _ n ih => ?_
  intro hn
  refine fn_of_WA (by rw [hC]; exact af81) (Nat.le_of_ble_eq_true rfl) rfl rfl fun B hB => ?_
  refine WA.seq ?_
  refine WA.reg ?_
  refine sRet rfl rfl trivial ?_
  refine sEnd ?_
  refine WA.seq ?_
  refine WA.seq ?_
  refine WA.reg ?_
  refine sRet rfl rfl trivial ?_
  refine sBool rfl rfl (by first | exact trivial | exact Nat.le_of_ble_eq_true rfl | decide | omega | (simp; done) | (simp; omega) | (constructor <;> omega)) fun b1 h1 => ?_
  refine sEnd ?_
  cases b1
  · try simp only [bnA] at h1
    try simp only [bnB] at h1
    refine WA.cond (b := false) rfl (fun h => absurd h (by decide)) (fun _ => ?_)
    refine WA.skip ?_
    refine WA.seq ?_
    refine WA.reg ?_
    refine sRet rfl rfl trivial ?_
    refine sRetE rfl rfl (by exact (by decide : (128 : Int) ≠ 0)) (v' := .int .u64 ((n % 128 : Nat) : Int)) (congrArg (V.int .u64) (by rw [Int.tmod_eq_emod_of_nonneg (by omega)]; omega)) ?_
    refine sRetE rfl rfl trivial (v' := .int .u64 ((n % 128 + 128 : Nat) : Int)) (congrArg (V.int .u64) (by rw [wrapU64 (by omega)]; omega)) ?_
    refine sRetE rfl rfl trivial (v' := encB (UInt8.ofNat (n % 128 + 128))) (by rw [← encB_ofNat, wrapU8]; congr 1) ?_
    refine sEff rfl rfl rfl rfl ?_
    refine sRet rfl rfl trivial ?_
    refine sRetE rfl rfl (by exact (by decide : (128 : Int) ≠ 0)) (v' := .int .u64 ((n / 128 : Nat) : Int)) (congrArg (V.int .u64) (by rw [Int.tdiv_eq_ediv_of_nonneg (by omega), wrapU64 (by omega)]; omega)) ?_
    refine sFn rfl (ih (n / 128) (by omega) (by omega)) ?_
    refine sApps encB (l := [UInt8.ofNat (n % 128 + 128)]) (r := vput (n / 128)) rfl rfl (fun _ _ => rfl) (by have := vput_len (n := n / 128) (by omega); simp at *; omega) ?_
    refine sRet rfl rfl trivial ?_
    refine sEnd ?_
    refine WA.ret ?_
    have hx : ¬ n < 128 := by omega
    have hvp := vput_ge hx
    rw [hvp]
    exact ret_fn (.inl rfl) rfl (VLe.sl _ _ _) rfl
  · try simp only [bnA] at h1
    try simp only [bnB] at h1
    refine WA.cond (b := true) rfl (fun _ => ?_) (fun h => absurd h (by decide))
    refine WA.seq ?_
    refine WA.reg ?_
    refine sRet rfl rfl trivial ?_
    refine sRetE rfl rfl trivial (v' := encB (UInt8.ofNat n)) (by rw [← encB_ofNat, wrapU8]; congr 1) ?_
    refine sEff rfl rfl rfl rfl ?_
    refine sRet rfl rfl trivial ?_
    refine sEnd ?_
    refine WA.ret ?_
    have hvp : vput n = [UInt8.ofNat n] := vput_lt (by omega)
    rw [hvp]
    exact ret_fn (.inl rfl) rfl (VLe.sl _ _ _) rfl

theorem w42 {C : Cx} (hC : C.P = Tryz.prog) {k : Int} {n : Nat} (hn : n < 18446744073709551616) : AFn C 42 [.int .i64 k, .int .u64 n] (.sl none 1 ((encN k n).map encB)) := by
  refine fn_of_WA (by rw [hC]; exact af42) (Nat.le_of_ble_eq_true rfl) rfl rfl fun B hB => ?_
  refine WA.seq ?_
  refine WA.reg ?_
  refine sRet rfl rfl trivial ?_
  refine sEnd ?_
  refine WA.seq ?_
  refine WA.reg ?_
  refine sRet rfl rfl trivial ?_
  refine sRet rfl rfl trivial ?_
  refine sFn rfl (w78 hC hn) ?_
  refine sRet rfl rfl trivial ?_
  refine sEnd ?_
  refine WA.seq ?_
  refine WA.seq ?_
  refine WA.reg ?_
  refine sRet rfl rfl trivial ?_
  refine sFn rfl (w79 hC) ?_
  refine sEnd ?_
  refine WA.block ?_
  refine WA.seq ?_
  refine WA.reg ?_
  refine sBool rfl rfl (by first | exact trivial | exact Nat.le_of_ble_eq_true rfl | decide | omega | (simp; done) | (simp; omega) | (constructor <;> omega)) fun b1 h1 => ?_
  refine sRet rfl rfl trivial ?_
  refine sEnd ?_
  cases b1
  · try simp only [bnA] at h1
    try simp only [bnB] at h1
    refine WA.cond (b := false) rfl (fun h => absurd h (by decide)) (fun _ => ?_)
    refine WA.seq ?_
    refine WA.reg ?_
    refine sBool rfl rfl (by first | exact trivial | exact Nat.le_of_ble_eq_true rfl | decide | omega | (simp; done) | (simp; omega) | (constructor <;> omega)) fun b2 h2 => ?_
    refine sRet rfl rfl trivial ?_
    refine sEnd ?_
    cases b2
    · try simp only [bnA] at h2
      try simp only [bnB] at h2
      refine WA.cond (b := false) rfl (fun h => absurd h (by decide)) (fun _ => ?_)
      refine WA.skip ?_
      refine WA.seq ?_
      refine WA.reg ?_
      refine sRet rfl rfl trivial ?_
      refine sFn rfl (w81 hC (backK k n) (backK_lt hn)) ?_
      refine sRet rfl rfl trivial ?_
      refine sEnd ?_
      refine WA.ret ?_
      have e : encN k n = vput (backK k n) := by unfold encN; rw [if_neg (by omega), if_neg (by omega)]
      rw [e]
      exact ret_fn (.inl rfl) rfl (VLe.of_eq rfl) rfl
    · try simp only [bnA] at h2
      try simp only [bnB] at h2
      refine WA.cond (b := true) rfl (fun _ => ?_) (fun h => absurd h (by decide))
      refine WA.seq ?_
      refine WA.reg ?_
      refine sRet rfl rfl trivial ?_
      refine sRetE rfl rfl (by exact (by decide : (4294967296 : Int) ≠ 0)) (v' := .int .u64 ((backK k n % 4294967296 : Nat) : Int)) (congrArg (V.int .u64) (by rw [Int.tmod_eq_emod_of_nonneg (by omega)]; omega)) ?_
      refine sFn rfl (AFn.le (w80 hC (n := backK k n % 4294967296) (m := 4) (by decide) (by omega)) (.cons (VLe.nil 1) (VLes.refl _))) ?_
      refine sRet rfl rfl trivial ?_
      refine sEnd ?_
      refine WA.ret ?_
      have e : encN k n = leB (backK k n % 4294967296) 4 := by unfold encN; rw [if_neg (by omega), if_pos (by omega)]
      rw [e]
      exact ret_fn (.inl rfl) rfl (VLe.of_eq rfl) rfl
  · try simp only [bnA] at h1
    try simp only [bnB] at h1
    refine WA.cond (b := true) rfl (fun _ => ?_) (fun h => absurd h (by decide))
    refine WA.seq ?_
    refine WA.reg ?_
    refine sRet rfl rfl trivial ?_
    refine sFn rfl (AFn.le (w80 hC (n := backK k n) (m := 8) (by decide) (backK_lt hn)) (.cons (VLe.nil 1) (VLes.refl _))) ?_
    refine sRet rfl rfl trivial ?_
    refine sEnd ?_
    refine WA.ret ?_
    have e : encN k n = leB (backK k n) 8 := by unfold encN; rw [if_pos (by omega)]
    rw [e]
    exact ret_fn (.inl rfl) rfl (VLe.of_eq rfl) rfl

/-- How a wire kind's bits are put. -/
theorem wput {C : Cx} (hC : C.P = Tryz.prog) {k : Int} {n : Nat} (hn : n < 18446744073709551616) :
    isFn C.P (if wireK k = 1 then 73 else if wireK k = 5 then 74 else 76) = true ∧ AFn C (if wireK k = 1 then 73 else if wireK k = 5 then 74 else 76) ([] ++ [.raw (.slice none 0 0), .int .u64 (backK k n : Nat)] ++ []) (.sl none 1 ((encN k n).map encB)) := by
  unfold encN
  split
  · exact ⟨by rw [hC]; exact fn73, w73 hC⟩
  · split
    · exact ⟨by rw [hC]; exact fn74, w74 hC⟩
    · exact ⟨by rw [hC]; exact fn76, w76 hC (backK_lt hn)⟩

theorem w18 {C : Cx} (hC : C.P = Tryz.prog) {k : Int} {l : List Nat} (hl : ∀ n ∈ l, n < 18446744073709551616) (h60 : l.length ≤ 60) : AFn C 18 [.int .i64 k, .sl none 1 (l.map encU)] (.sl none 1 ((rowK k l).map encB)) := by
  refine fn_of_WA (by rw [hC]; exact af18) (Nat.le_of_ble_eq_true rfl) rfl rfl fun B hB => ?_
  refine WA.seq ?_
  refine WA.reg ?_
  refine sRet rfl rfl trivial ?_
  refine sEnd ?_
  refine WA.seq ?_
  refine WA.seq ?_
  refine WA.reg ?_
  refine sRet rfl rfl trivial ?_
  refine sFnB rfl (w38 hC) fun b1 h1 => ?_
  refine sRet rfl rfl trivial ?_
  refine sEnd ?_
  cases b1
  · try simp only [bnA] at h1
    try simp only [bnB] at h1
    refine WA.cond (b := true) rfl (fun _ => ?_) (fun h => absurd h (by decide))
    refine WA.seq ?_
    refine WA.reg ?_
    refine sRet rfl rfl trivial ?_
    refine sEnd ?_
    refine WA.ret ?_
    have e : rowK k l = [] := by unfold rowK; simp_all
    rw [e]
    exact ret_fn (.inl rfl) rfl (VLe.nil 1) rfl
  · try simp only [bnA] at h1
    try simp only [bnB] at h1
    refine WA.cond (b := false) rfl (fun h => absurd h (by decide)) (fun _ => ?_)
    refine WA.skip ?_
    refine WA.seq ?_
    refine WA.reg ?_
    refine sRet rfl rfl trivial ?_
    refine sFn rfl (w40 hC) ?_
    refine sFn rfl (w39 hC) ?_
    refine sRet rfl rfl trivial ?_
    refine sEnd ?_
    refine WA.seq ?_
    refine WA.reg ?_
    refine sRet rfl rfl trivial ?_
    refine sEnd ?_
    refine WA.seq ?_
    refine WA.seq ?_
    refine WA.reg ?_
    refine sRet rfl rfl trivial ?_
    refine sRet rfl rfl trivial ?_
    refine sRet rfl rfl trivial ?_
    refine sEnd ?_
    refine WA.block ?_
    refine WA.gh (Gh.adoptSlot 6 5 1 (Nat.le_of_ble_eq_true rfl) rfl) ?_
    refine WA.loopF (σ := Nat × List UInt8) hB 13 (Nat.zero_le _) (fun x => [(0, .int .i64 k), (5, .fn (.func (if wireK k = 1 then 73 else if wireK k = 5 then 74 else 76)) [] []), (15, .sl none 1 (l.map encU)), (16, .int .i64 ((l.map encU).length : Nat)), (17, .int .i64 (x.1 : Nat)), (6, .sl (some 12) 1 (x.2.map encB))]) (fun x => [(12, .tok 5 1 x.2.length)]) (fun x => x.2 = (l.take x.1).flatMap (encN k) ∧ x.1 ≤ l.length) (fun x => l.length - x.1) (0, []) (by repeat (first | exact FrLe.nil | refine FrLe.cons rfl (VLe.refl _) rfl ?_)) (by repeat (first | exact HpLe.nil | refine HpLe.cons rfl (by decide) rfl ?_)) ⟨rfl, Nat.zero_le _⟩ ?_
    rintro ⟨i, out⟩ ⟨hout, hi⟩
    simp only at hout hi
    have hol := flat_len k l hl i
    rw [← hout] at hol
    refine WA.seq ?_
    refine WA.reg ?_
    refine sBool rfl rfl (by first | exact trivial | exact Nat.le_of_ble_eq_true rfl | decide | omega | (simp; done) | (simp; omega) | (constructor <;> omega)) fun b2 h2 => ?_
    refine sEnd ?_
    refine WA.seq ?_
    cases b2
    · try simp only [bnA] at h2
      try simp only [bnB] at h2
      refine WA.cond (b := false) rfl (fun h => absurd h (by decide)) (fun _ => ?_)
      refine WA.exit ?_
      refine WA.seq ?_
      refine WA.reg ?_
      refine sRet rfl rfl trivial ?_
      refine sRet rfl rfl trivial ?_
      refine sEnd ?_
      refine WA.ret ?_
      have hil : i = l.length := by simp at *; omega
      have e : rowK k l = out := by unfold rowK; rw [if_pos (by simp_all), hout, hil, List.take_length]
      rw [e]
      exact ret_fn (.inl rfl) rfl (VLe.sl _ _ _) rfl
    · try simp only [bnA] at h2
      try simp only [bnB] at h2
      refine WA.cond (b := true) rfl (fun _ => ?_) (fun h => absurd h (by decide))
      refine WA.skip ?_
      refine WA.seq ?_
      refine WA.block ?_
      refine WA.seq ?_
      refine WA.reg ?_
      have hlt : i < l.length := by simp at *; omega
      have hel := encN_len (k := k) (hl _ (getD_mem l i hlt))
      refine sIdx encU rfl hlt ?_
      refine sEff rfl rfl rfl (by first | exact trivial | exact Nat.le_of_ble_eq_true rfl | decide | omega | (simp; done) | (simp; omega) | (constructor <;> omega)) ?_
      refine sRet rfl rfl trivial ?_
      refine sEnd ?_
      refine WA.reg ?_
      refine sRet rfl rfl trivial ?_
      refine sRet rfl rfl trivial ?_
      refine sRet rfl rfl trivial ?_
      refine sRet rfl rfl trivial ?_
      refine sFn rfl (w41 hC (hl _ (getD_mem l i hlt))) ?_
      refine sDynFn rfl rfl (wput hC (hl _ (getD_mem l i hlt))).1 (wput hC (hl _ (getD_mem l i hlt))).2 ?_
      refine sApps encB (l := out) (r := encN k (l.getD i default)) rfl rfl (fun _ _ => rfl) (by simp at *; omega) ?_
      refine sRet rfl rfl trivial ?_
      refine sEnd ?_
      refine WA.reg ?_
      refine sAdd rfl (by simp at *; omega) ?_
      refine sRet rfl rfl trivial ?_
      refine sEnd ?_
      refine Exists.intro (i + 1, out ++ encN k (l.getD i default)) ⟨⟨⟨?_, ?_⟩, ?_⟩, ?_, ?_⟩
      · simp only; rw [take_flatMap _ l i hlt, hout]
      · exact hlt
      · simp only; omega
      · exact (by repeat (first | exact FrLe.nil | refine FrLe.cons rfl (VLe.refl _) rfl ?_))
      · exact (by repeat (first | exact HpLe.nil | refine HpLe.cons rfl (by decide) rfl ?_))

theorem w19 {C : Cx} (hC : C.P = Tryz.prog) {k : Int} {l : List Nat} (hl : ∀ n ∈ l, n < 18446744073709551616) (h60 : l.length ≤ 60) : AFn C 19 [.int .i64 k, .sl none 1 (l.map encU)] (.sl none 1 ((rowK k l).map encB)) := by
  refine fn_of_WA (by rw [hC]; exact af19) (Nat.le_of_ble_eq_true rfl) rfl rfl fun B hB => ?_
  refine WA.seq ?_
  refine WA.reg ?_
  refine sRet rfl rfl trivial ?_
  refine sEnd ?_
  refine WA.seq ?_
  refine WA.reg ?_
  refine sEff rfl rfl rfl rfl ?_
  refine sRet rfl rfl trivial ?_
  refine sEnd ?_
  refine WA.seq ?_
  refine WA.seq ?_
  refine WA.reg ?_
  refine sRet rfl rfl trivial ?_
  refine sRet rfl rfl trivial ?_
  refine sRet rfl rfl trivial ?_
  refine sEnd ?_
  refine WA.block ?_
  refine WA.loopF (σ := Nat × List UInt8) hB 6 (Nat.zero_le _) (fun x => [(0, .int .i64 k), (9, .sl none 1 (l.map encU)), (10, .int .i64 ((l.map encU).length : Nat)), (11, .int .i64 (x.1 : Nat)), (5, .sl (some 1) 1 (x.2.map encB))]) (fun x => [(1, .tok 5 1 x.2.length)]) (fun x => x.2 = rowK k (l.take x.1) ∧ x.1 ≤ l.length) (fun x => l.length - x.1) (0, []) (by repeat (first | exact FrLe.nil | refine FrLe.cons rfl (VLe.refl _) rfl ?_)) (by repeat (first | exact HpLe.nil | refine HpLe.cons rfl (by decide) rfl ?_)) ⟨by unfold rowK; simp, Nat.zero_le _⟩ ?_
  rintro ⟨i, out⟩ ⟨hout, hi⟩
  simp only at hout hi
  have hol : out.length ≤ 10 * i := by rw [hout]; unfold rowK; split; exact flat_len k l hl i; simp
  refine WA.seq ?_
  refine WA.reg ?_
  refine sBool rfl rfl (by first | exact trivial | exact Nat.le_of_ble_eq_true rfl | decide | omega | (simp; done) | (simp; omega) | (constructor <;> omega)) fun b1 h1 => ?_
  refine sEnd ?_
  refine WA.seq ?_
  cases b1
  · try simp only [bnA] at h1
    try simp only [bnB] at h1
    refine WA.cond (b := false) rfl (fun h => absurd h (by decide)) (fun _ => ?_)
    refine WA.exit ?_
    refine WA.seq ?_
    refine WA.reg ?_
    refine sRet rfl rfl trivial ?_
    refine sRet rfl rfl trivial ?_
    refine sEnd ?_
    refine WA.ret ?_
    have hil : i = l.length := by simp at *; omega
    have e : rowK k l = out := by rw [hout, hil, List.take_length]
    rw [e]
    exact ret_fn (.inl rfl) rfl (VLe.sl _ _ _) rfl
  · try simp only [bnA] at h1
    try simp only [bnB] at h1
    refine WA.cond (b := true) rfl (fun _ => ?_) (fun h => absurd h (by decide))
    refine WA.skip ?_
    refine WA.seq ?_
    refine WA.block ?_
    refine WA.seq ?_
    refine WA.reg ?_
    have hlt : i < l.length := by simp at *; omega
    have hel := encN_len (k := k) (hl _ (getD_mem l i hlt))
    refine sIdx encU rfl hlt ?_
    refine sEff rfl rfl rfl (by first | exact trivial | exact Nat.le_of_ble_eq_true rfl | decide | omega | (simp; done) | (simp; omega) | (constructor <;> omega)) ?_
    refine sRet rfl rfl trivial ?_
    refine sEnd ?_
    refine WA.seq ?_
    refine WA.reg ?_
    refine sRet rfl rfl trivial ?_
    refine sFnB rfl (w37 hC) fun b2 h2 => ?_
    refine sEnd ?_
    cases b2
    · try simp only [bnA] at h2
      try simp only [bnB] at h2
      refine WA.cond (b := false) rfl (fun h => absurd h (by decide)) (fun _ => ?_)
      refine WA.skip ?_
      refine WA.reg ?_
      refine sAdd rfl (by simp at *; omega) ?_
      refine sRet rfl rfl trivial ?_
      refine sEnd ?_
      refine Exists.intro (i + 1, out ++ (if numK k = true then encN k (l.getD i default) else [])) ⟨⟨⟨?_, ?_⟩, ?_⟩, ?_, ?_⟩
      · simp only; rw [hout]; unfold rowK; simp only [h2, if_true, Bool.false_eq_true, if_false, List.append_nil]; try rw [take_flatMap _ l i hlt]
      · exact hlt
      · simp only; omega
      · simp only [*, if_true, Bool.false_eq_true, if_false, List.append_nil]; exact (by repeat (first | exact FrLe.nil | refine FrLe.cons rfl (VLe.refl _) rfl ?_))
      · simp only [*, if_true, Bool.false_eq_true, if_false, List.append_nil]; exact (by repeat (first | exact HpLe.nil | refine HpLe.cons rfl (by decide) rfl ?_))
    · try simp only [bnA] at h2
      try simp only [bnB] at h2
      refine WA.cond (b := true) rfl (fun _ => ?_) (fun h => absurd h (by decide))
      refine WA.reg ?_
      refine sRet rfl rfl trivial ?_
      refine sRet rfl rfl trivial ?_
      refine sRet rfl rfl trivial ?_
      refine sFn rfl (w42 hC (hl _ (getD_mem l i hlt))) ?_
      refine sApps encB (l := out) (r := encN k (l.getD i default)) rfl rfl (fun _ _ => rfl) (by simp at *; omega) ?_
      refine sRet rfl rfl trivial ?_
      refine sEnd ?_
      refine WA.reg ?_
      refine sAdd rfl (by simp at *; omega) ?_
      refine sRet rfl rfl trivial ?_
      refine sEnd ?_
      refine Exists.intro (i + 1, out ++ (if numK k = true then encN k (l.getD i default) else [])) ⟨⟨⟨?_, ?_⟩, ?_⟩, ?_, ?_⟩
      · simp only; rw [hout]; unfold rowK; simp only [h2, if_true, Bool.false_eq_true, if_false, List.append_nil]; try rw [take_flatMap _ l i hlt]
      · exact hlt
      · simp only; omega
      · simp only [*, if_true, Bool.false_eq_true, if_false, List.append_nil]; exact (by repeat (first | exact FrLe.nil | refine FrLe.cons rfl (VLe.refl _) rfl ?_))
      · simp only [*, if_true, Bool.false_eq_true, if_false, List.append_nil]; exact (by repeat (first | exact HpLe.nil | refine HpLe.cons rfl (by decide) rfl ?_))
end Go.Proofs

