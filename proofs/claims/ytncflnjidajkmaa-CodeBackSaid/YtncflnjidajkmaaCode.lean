/- What the functions of package code do: Num, GetNum, Text, GetText, Sum, Seal, Open, and the statement's own function. -/
import Derived.Test.YtncflnjidajkmaaTy
import Derived.IntWalk
import Derived.Test.YtncflnjidajkmaaVaC
set_option linter.unnecessarySimpa false
set_option autoImplicit false
set_option linter.unusedVariables false
set_option linter.unusedSimpArgs false
namespace Go.Va.Try
open Go Go.Va Go.Proofs Go.IntWalk

def numTail (u : Nat) : List UInt8 := if h : 128 ≤ u then UInt8.ofNat (u % 128 + 128) :: numTail (u / 128) else [UInt8.ofNat u]
termination_by u
decreasing_by omega
def numU (n : Int) : Nat := if n < 0 then (-2 * n - 1).toNat else (2 * n).toNat
def num (n : Int) : List UInt8 := if n < -2147483648 ∨ 2147483647 < n then [] else numTail (numU n)

theorem encB_len (l : List UInt8) : (encB l).length = l.length := by simp [encB]
theorem encB_get (l : List UInt8) (i : Nat) : (encB l)[i]? = l[i]?.map fun b => [.lit (.int .u8 b.toNat)] := by simp [encB]
attribute [go_sem] encB_len encB_get
theorem encB_append (l m : List UInt8) : encB (l ++ m) = encB l ++ encB m := by simp [encB]
theorem encB_one (b : UInt8) : encB [b] = [[.lit (.int .u8 b.toNat)]] := rfl

theorem numTail_lt {u : Nat} (h : u < 128) : numTail u = [UInt8.ofNat u] := by
  unfold numTail; rw [dif_neg (by omega)]
theorem numTail_ge {u : Nat} (h : 128 ≤ u) : numTail u = UInt8.ofNat (u % 128 + 128) :: numTail (u / 128) := by
  conv => lhs; unfold numTail
  rw [dif_pos h]
theorem numTail_len : ∀ (k u : Nat), u < 128 ^ k → k ≠ 0 → (numTail u).length ≤ k
  | 0, _, _, h => absurd rfl h
  | k + 1, u, h, _ => by
    by_cases h1 : 128 ≤ u
    · rw [numTail_ge h1]
      have h2 : u / 128 < 128 ^ k := by rw [Nat.div_lt_iff_lt_mul (by decide)]; rw [Nat.pow_succ] at h; exact h
      have h3 : k ≠ 0 := by rintro rfl; simp at h; omega
      have := numTail_len k _ h2 h3
      simp; omega
    · rw [numTail_lt (by omega)]; simp

theorem Num_own (Φ) (n : Int) : ACallsR Try.prog Φ 23 [.int n] 5 (encB (num n)) := by
  refine ACallsR.stk 36 Try.func23 rfl rfl Try.ntmps23 (by simp) Try.results23 (fun w0 m0 => ?_)
  by_cases h1 : n < -2147483648
  · skip
    repeat (first
      | with_reducible refine AStk.seq ?_
      | (refine AStk.reg rfl fun K hK => ?_; simp -implicitDefEqProofs only [go_sem, Nat.reduceEqDiff, Nat.reduceAdd, Nat.reduceSub, Nat.reduceMul, Nat.reduceLeDiff, Nat.reduceLT, Nat.reduceBEq, Int.reduceToNat, Int.reduceLE, Int.reduceLT, Int.reduceEq, Int.reduceBEq, Int.reduceNe, Int.reduceNeg, Int.reduceBNe, Int.reduceAdd, Int.reduceSub, Int.reduceMul, reduceCtorEq, reduceIte, Bool.not_true, Bool.not_false, h1]; (first | refine hK _ ?_ | refine ⟨by omega, hK _ ?_⟩ | refine ⟨⟨by omega, by omega⟩, hK _ ?_⟩ | refine ⟨by omega, by omega, hK _ ?_⟩); clear hK K)
      | (refine AStk.drw rfl rfl fun K hK => ?_; simp -implicitDefEqProofs only [go_sem, Nat.reduceEqDiff, Nat.reduceAdd, Nat.reduceSub, Nat.reduceMul, Nat.reduceLeDiff, Nat.reduceLT, Nat.reduceBEq, Int.reduceToNat, Int.reduceLE, Int.reduceLT, Int.reduceEq, Int.reduceBEq, Int.reduceNe, Int.reduceNeg, Int.reduceBNe, Int.reduceAdd, Int.reduceSub, Int.reduceMul, reduceCtorEq, reduceIte, Bool.not_true, Bool.not_false, h1]; refine KD.mk rfl (hK _ ?_); clear hK K)
      | with_reducible refine AStk.block ?_
      | with_reducible refine AStk.skip ?_
      | with_reducible refine AStk.exit ?_
      | with_reducible refine AStk.ret ?_
      | with_reducible refine AStk.nil ?_
      | with_reducible refine Then.exit ?_
      | with_reducible refine Then.ret ?_
      | with_reducible refine Then.normal ?_
      | with_reducible refine Exits.normal ?_
      | with_reducible refine Exits.here ?_
      | with_reducible refine Exits.ret ?_
      | with_reducible refine Exits.there (by decide) ?_
      | refine AStk.condT rfl ?_
      | refine AStk.condF rfl ?_
      | with_reducible refine AStk.goto ?_
      | with_reducible refine Then.goto ?_
      | with_reducible refine Exits.goto ?_
      | with_reducible refine Jmp.normal ?_
      | with_reducible refine Jmp.ret ?_
      | with_reducible refine Jmp.exit ?_
      | with_reducible refine Jmp.goto ?_)
    simp only [num, h1, true_or, if_true]
    exact FPostR.sl rfl sz5 (.inr rfl)
  by_cases h2 : 2147483647 < n
  · skip
    repeat (first
      | with_reducible refine AStk.seq ?_
      | (refine AStk.reg rfl fun K hK => ?_; simp -implicitDefEqProofs only [go_sem, Nat.reduceEqDiff, Nat.reduceAdd, Nat.reduceSub, Nat.reduceMul, Nat.reduceLeDiff, Nat.reduceLT, Nat.reduceBEq, Int.reduceToNat, Int.reduceLE, Int.reduceLT, Int.reduceEq, Int.reduceBEq, Int.reduceNe, Int.reduceNeg, Int.reduceBNe, Int.reduceAdd, Int.reduceSub, Int.reduceMul, reduceCtorEq, reduceIte, Bool.not_true, Bool.not_false, h1, h2]; (first | refine hK _ ?_ | refine ⟨by omega, hK _ ?_⟩ | refine ⟨⟨by omega, by omega⟩, hK _ ?_⟩ | refine ⟨by omega, by omega, hK _ ?_⟩); clear hK K)
      | (refine AStk.drw rfl rfl fun K hK => ?_; simp -implicitDefEqProofs only [go_sem, Nat.reduceEqDiff, Nat.reduceAdd, Nat.reduceSub, Nat.reduceMul, Nat.reduceLeDiff, Nat.reduceLT, Nat.reduceBEq, Int.reduceToNat, Int.reduceLE, Int.reduceLT, Int.reduceEq, Int.reduceBEq, Int.reduceNe, Int.reduceNeg, Int.reduceBNe, Int.reduceAdd, Int.reduceSub, Int.reduceMul, reduceCtorEq, reduceIte, Bool.not_true, Bool.not_false, h1, h2]; refine KD.mk rfl (hK _ ?_); clear hK K)
      | with_reducible refine AStk.block ?_
      | with_reducible refine AStk.skip ?_
      | with_reducible refine AStk.exit ?_
      | with_reducible refine AStk.ret ?_
      | with_reducible refine AStk.nil ?_
      | with_reducible refine Then.exit ?_
      | with_reducible refine Then.ret ?_
      | with_reducible refine Then.normal ?_
      | with_reducible refine Exits.normal ?_
      | with_reducible refine Exits.here ?_
      | with_reducible refine Exits.ret ?_
      | with_reducible refine Exits.there (by decide) ?_
      | refine AStk.condT rfl ?_
      | refine AStk.condF rfl ?_
      | with_reducible refine AStk.goto ?_
      | with_reducible refine Then.goto ?_
      | with_reducible refine Exits.goto ?_
      | with_reducible refine Jmp.normal ?_
      | with_reducible refine Jmp.ret ?_
      | with_reducible refine Jmp.exit ?_
      | with_reducible refine Jmp.goto ?_)
    simp only [num, h2, or_true, if_true]
    exact FPostR.sl rfl sz5 (.inr rfl)
  have hn : num n = numTail (numU n) := by simp only [num, h1, h2, or_self, if_false]
  have hm : most = 140737488355328 := rfl
  have hu : numU n ≤ 4294967295 := by unfold numU; split <;> omega
  have join : ∀ (s : St) {C : Ctx} {l : List Code} {Q : Post} {c : Code}, get s.env 3 = some (.lit (.int .u64 (numU n))) → get s.env 4 = some (.sl true 0 []) → AStk C (c :: l) { env := [(3, .lit (.int .u64 (numU n))), (4, .sl true 0 [])], box := [], row := [] } Q → AStk C (c :: l) s Q := by
    intro s C l Q c h3 h4 h
    refine AStk.weak (Weak.of ?_ ?_ ?_ ?_ ?_) h (by simp)
    · simp [h3, h4, Le.refl]
    · simp
    · simp
    · simp [refOk]
    · simp
  have start : IntKind.u64.wrap (if n < 0 then IntKind.i64.wrap (IntKind.i64.wrap (-2 * n) - 1) else IntKind.i64.wrap (2 * n)) = numU n := by
    unfold numU
    split
    · rw [i64_in (-2 * n) (by omega), i64_in _ (by omega), u64_in _ (by omega)]; omega
    · rw [i64_in (2 * n) (by omega), u64_in _ (by omega)]; omega
  by_cases h3 : n < 0
  all_goals
    rw [hn]
    clear hn
    simp only [h3, if_true, if_false] at start
    repeat (first
      | with_reducible refine AStk.seq ?_
      | (refine AStk.reg rfl fun K hK => ?_; simp -implicitDefEqProofs only [go_sem, Nat.reduceEqDiff, Nat.reduceAdd, Nat.reduceSub, Nat.reduceMul, Nat.reduceLeDiff, Nat.reduceLT, Nat.reduceBEq, Int.reduceToNat, Int.reduceLE, Int.reduceLT, Int.reduceEq, Int.reduceBEq, Int.reduceNe, Int.reduceNeg, Int.reduceBNe, Int.reduceAdd, Int.reduceSub, Int.reduceMul, reduceCtorEq, reduceIte, Bool.not_true, Bool.not_false, h1, h2, h3, start]; (first | refine hK _ ?_ | refine ⟨by omega, hK _ ?_⟩ | refine ⟨⟨by omega, by omega⟩, hK _ ?_⟩ | refine ⟨by omega, by omega, hK _ ?_⟩); clear hK K)
      | (refine AStk.drw rfl rfl fun K hK => ?_; simp -implicitDefEqProofs only [go_sem, Nat.reduceEqDiff, Nat.reduceAdd, Nat.reduceSub, Nat.reduceMul, Nat.reduceLeDiff, Nat.reduceLT, Nat.reduceBEq, Int.reduceToNat, Int.reduceLE, Int.reduceLT, Int.reduceEq, Int.reduceBEq, Int.reduceNe, Int.reduceNeg, Int.reduceBNe, Int.reduceAdd, Int.reduceSub, Int.reduceMul, reduceCtorEq, reduceIte, Bool.not_true, Bool.not_false, h1, h2, h3, start]; refine KD.mk rfl (hK _ ?_); clear hK K)
      | with_reducible refine AStk.block ?_
      | with_reducible refine AStk.skip ?_
      | with_reducible refine AStk.exit ?_
      | with_reducible refine AStk.ret ?_
      | with_reducible refine AStk.nil ?_
      | with_reducible refine Then.exit ?_
      | with_reducible refine Then.ret ?_
      | with_reducible refine Then.normal ?_
      | with_reducible refine Exits.normal ?_
      | with_reducible refine Exits.here ?_
      | with_reducible refine Exits.ret ?_
      | with_reducible refine Exits.there (by decide) ?_
      | refine AStk.condT rfl ?_
      | refine AStk.condF rfl ?_
      | with_reducible refine AStk.goto ?_
      | with_reducible refine Then.goto ?_
      | with_reducible refine Exits.goto ?_
      | with_reducible refine Jmp.normal ?_
      | with_reducible refine Jmp.ret ?_
      | with_reducible refine Jmp.exit ?_
      | with_reducible refine Jmp.goto ?_)
    refine join _ rfl rfl ?_
    refine AStk.loop (ALoop.begin (t := 4) (r := 4) (T := 5) (z := 0) (xs := []) rfl rfl ⟨1, sz5, .inr rfl⟩ ?_)
    refine ALoop.ind (fun i : Nat × List UInt8 => { env := [(3, .lit (.int .u64 i.1)), (4, .row 4 i.2.length)], box := [], row := [(4, (5, encB i.2))] }) (fun i => i.1 ≤ 4294967295 ∧ i.2 ++ numTail i.1 = numTail (numU n)) (fun i => i.1) (numU n, []) ⟨hu, rfl⟩ ?_ ?_
    · refine Weak.of ?_ ?_ ?_ ?_ ?_ <;> simp [get_cons, refOk, Le.refl, encB]
    · rintro ⟨u, pre⟩ ⟨hu1, hu2⟩ K1 hK1
      simp only at hu1 hu2 hK1 ⊢
      have hlen : pre.length ≤ 5 := by
        have h5 := numTail_len 5 (numU n) (by omega) (by decide)
        rw [← hu2, List.length_append] at h5
        omega
      by_cases h4 : 128 ≤ (u : Int)
      · have e1 : IntKind.u8.wrap (IntKind.u8.wrap ((u : Int).tmod 128) + 128) = (UInt8.ofNat (u % 128 + 128)).toNat := by
          rw [Int.tmod_eq_emod_of_nonneg (by omega), u8_in ((u : Int) % 128) (by omega), u8_in _ (by omega)]
          simp; omega
        have e2 : IntKind.u64.wrap ((u : Int).tdiv 128) = (u / 128 : Nat) := by
          rw [u64_quo _ _ (by omega)]; simp
        repeat (first
          | with_reducible refine AStk.seq ?_
          | (refine AStk.reg rfl fun K hK => ?_; simp -implicitDefEqProofs only [go_sem, Nat.reduceEqDiff, Nat.reduceAdd, Nat.reduceSub, Nat.reduceMul, Nat.reduceLeDiff, Nat.reduceLT, Nat.reduceBEq, Int.reduceToNat, Int.reduceLE, Int.reduceLT, Int.reduceEq, Int.reduceBEq, Int.reduceNe, Int.reduceNeg, Int.reduceBNe, Int.reduceAdd, Int.reduceSub, Int.reduceMul, reduceCtorEq, reduceIte, Bool.not_true, Bool.not_false, h4, e1, e2]; (first | refine hK _ ?_ | refine ⟨by omega, hK _ ?_⟩ | refine ⟨⟨by omega, by omega⟩, hK _ ?_⟩ | refine ⟨by omega, by omega, hK _ ?_⟩); clear hK K)
          | (refine AStk.drw rfl rfl fun K hK => ?_; simp -implicitDefEqProofs only [go_sem, Nat.reduceEqDiff, Nat.reduceAdd, Nat.reduceSub, Nat.reduceMul, Nat.reduceLeDiff, Nat.reduceLT, Nat.reduceBEq, Int.reduceToNat, Int.reduceLE, Int.reduceLT, Int.reduceEq, Int.reduceBEq, Int.reduceNe, Int.reduceNeg, Int.reduceBNe, Int.reduceAdd, Int.reduceSub, Int.reduceMul, reduceCtorEq, reduceIte, Bool.not_true, Bool.not_false, h4, e1, e2]; refine KD.mk rfl (hK _ ?_); clear hK K)
          | with_reducible refine AStk.block ?_
          | with_reducible refine AStk.skip ?_
          | with_reducible refine AStk.exit ?_
          | with_reducible refine AStk.ret ?_
          | with_reducible refine AStk.nil ?_
          | with_reducible refine Then.exit ?_
          | with_reducible refine Then.ret ?_
          | with_reducible refine Then.normal ?_
          | with_reducible refine Exits.normal ?_
          | with_reducible refine Exits.here ?_
          | with_reducible refine Exits.ret ?_
          | with_reducible refine Exits.there (by decide) ?_
          | refine AStk.condT rfl ?_
          | refine AStk.condF rfl ?_
          | with_reducible refine AStk.goto ?_
          | with_reducible refine Then.goto ?_
          | with_reducible refine Exits.goto ?_
          | with_reducible refine Jmp.normal ?_
          | with_reducible refine Jmp.ret ?_
          | with_reducible refine Jmp.exit ?_
          | with_reducible refine Jmp.goto ?_)
        refine hK1 (u / 128, pre ++ [UInt8.ofNat (u % 128 + 128)]) _ ⟨by simp only; omega, ?_⟩ (by simp only; omega) ?_
        · simp only [List.append_assoc, List.singleton_append]
          rw [← numTail_ge (by omega)]; exact hu2
        refine Weak.of ?_ ?_ ?_ ?_ ?_ <;> simp [get_cons, refOk, Le.refl, encB]
      · have e1 : IntKind.u8.wrap (u : Int) = (UInt8.ofNat u).toNat := by
          rw [u8_in _ (by omega)]; simp; omega
        repeat (first
          | with_reducible refine AStk.seq ?_
          | (refine AStk.reg rfl fun K hK => ?_; simp -implicitDefEqProofs only [go_sem, Nat.reduceEqDiff, Nat.reduceAdd, Nat.reduceSub, Nat.reduceMul, Nat.reduceLeDiff, Nat.reduceLT, Nat.reduceBEq, Int.reduceToNat, Int.reduceLE, Int.reduceLT, Int.reduceEq, Int.reduceBEq, Int.reduceNe, Int.reduceNeg, Int.reduceBNe, Int.reduceAdd, Int.reduceSub, Int.reduceMul, reduceCtorEq, reduceIte, Bool.not_true, Bool.not_false, h4, e1]; (first | refine hK _ ?_ | refine ⟨by omega, hK _ ?_⟩ | refine ⟨⟨by omega, by omega⟩, hK _ ?_⟩ | refine ⟨by omega, by omega, hK _ ?_⟩); clear hK K)
          | (refine AStk.drw rfl rfl fun K hK => ?_; simp -implicitDefEqProofs only [go_sem, Nat.reduceEqDiff, Nat.reduceAdd, Nat.reduceSub, Nat.reduceMul, Nat.reduceLeDiff, Nat.reduceLT, Nat.reduceBEq, Int.reduceToNat, Int.reduceLE, Int.reduceLT, Int.reduceEq, Int.reduceBEq, Int.reduceNe, Int.reduceNeg, Int.reduceBNe, Int.reduceAdd, Int.reduceSub, Int.reduceMul, reduceCtorEq, reduceIte, Bool.not_true, Bool.not_false, h4, e1]; refine KD.mk rfl (hK _ ?_); clear hK K)
          | with_reducible refine AStk.block ?_
          | with_reducible refine AStk.skip ?_
          | with_reducible refine AStk.exit ?_
          | with_reducible refine AStk.ret ?_
          | with_reducible refine AStk.nil ?_
          | with_reducible refine Then.exit ?_
          | with_reducible refine Then.ret ?_
          | with_reducible refine Then.normal ?_
          | with_reducible refine Exits.normal ?_
          | with_reducible refine Exits.here ?_
          | with_reducible refine Exits.ret ?_
          | with_reducible refine Exits.there (by decide) ?_
          | refine AStk.condT rfl ?_
          | refine AStk.condF rfl ?_
          | with_reducible refine AStk.goto ?_
          | with_reducible refine Then.goto ?_
          | with_reducible refine Exits.goto ?_
          | with_reducible refine Jmp.normal ?_
          | with_reducible refine Jmp.ret ?_
          | with_reducible refine Jmp.exit ?_
          | with_reducible refine Jmp.goto ?_)
        rw [← hu2, numTail_lt (by omega), encB_append, encB_one]
        refine FPostR.row (r := 4) ?_ rfl
        simp only [List.length_append, encB_len]
        rfl
theorem Num_calls (Φ) (n : Int) : ACalls Try.prog Φ 23 [.int n] (.sl false 1 (encB (num n))) := (Num_own Φ n).to sz5
end Go.Va.Try
set_option autoImplicit false
set_option linter.unusedVariables false
set_option linter.unusedSimpArgs false
namespace Go.Va.Try
open Go Go.Va Go.Proofs Go.IntWalk

def getN (b : List UInt8) (u used : Nat) : Int × Int :=
  if h : used ≥ b.length ∨ used ≥ 5 then (0, 0) else
    let d := (b[used]'(by omega)).toNat
    let v := u + d % 128 * 2 ^ (7 * used)
    if 128 ≤ d then getN b v (used + 1) else
    if 4294967295 < v ∨ (d = 0 ∧ 1 < used + 1) then (0, 0) else
    if v % 2 = 1 then (-(v / 2 : Nat) - 1, (used + 1 : Nat)) else ((v / 2 : Nat), (used + 1 : Nat))
termination_by 5 - used
decreasing_by omega

theorem or_add {u d k : Nat} (hu : u < 2 ^ k) : u ||| d * 2 ^ k = u + d * 2 ^ k := by
  rw [Nat.or_comm, Nat.mul_comm d, ← Nat.two_pow_add_eq_or_of_lt hu]
  omega
theorem or_u64 {a b : Nat} (ha : a < 2 ^ 64) (hb : b < 2 ^ 64) : ior .u64 (a : Int) (b : Int) = ((a ||| b : Nat) : Int) := by
  have e : (BitVec.ofInt 64 (a : Int) ||| BitVec.ofInt 64 (b : Int)).toNat = a ||| b := by
    rw [BitVec.ofInt_natCast, BitVec.ofInt_natCast, BitVec.toNat_or, BitVec.toNat_ofNat, BitVec.toNat_ofNat, Nat.mod_eq_of_lt ha, Nat.mod_eq_of_lt hb]
  show IntKind.u64.wrap ((BitVec.ofInt 64 (a : Int) ||| BitVec.ofInt 64 (b : Int)).toNat : Int) = _
  rw [e, u64_in]
  have := Nat.or_lt_two_pow ha hb
  omega

set_option maxHeartbeats 2000000 in
theorem GetNum_calls (Φ) (b : List UInt8) : ACalls Try.prog Φ 24 [.sl false 1 (encB b)] (.tup [.int (getN b 0 0).1, .int (getN b 0 0).2]) := by
  refine ACallsP.to (ACallsP.stk 54 Try.func24 rfl rfl Try.ntmps24 (by simp) (fun w0 m0 => ?_))
  repeat (first
    | with_reducible refine AStk.seq ?_
    | (refine AStk.reg rfl fun K hK => ?_; simp -implicitDefEqProofs only [go_sem, Nat.reduceEqDiff, Nat.reduceAdd, Nat.reduceSub, Nat.reduceMul, Nat.reduceLeDiff, Nat.reduceLT, Nat.reduceBEq, Int.reduceToNat, Int.reduceLE, Int.reduceLT, Int.reduceEq, Int.reduceBEq, Int.reduceNe, Int.reduceNeg, Int.reduceBNe, Int.reduceAdd, Int.reduceSub, Int.reduceMul, reduceCtorEq, reduceIte, Bool.not_true, Bool.not_false]; (first | refine hK _ ?_ | refine ⟨by omega, hK _ ?_⟩ | refine ⟨⟨by omega, by omega⟩, hK _ ?_⟩ | refine ⟨by omega, by omega, hK _ ?_⟩); clear hK K)
    | (refine AStk.drw rfl rfl fun K hK => ?_; simp -implicitDefEqProofs only [go_sem, Nat.reduceEqDiff, Nat.reduceAdd, Nat.reduceSub, Nat.reduceMul, Nat.reduceLeDiff, Nat.reduceLT, Nat.reduceBEq, Int.reduceToNat, Int.reduceLE, Int.reduceLT, Int.reduceEq, Int.reduceBEq, Int.reduceNe, Int.reduceNeg, Int.reduceBNe, Int.reduceAdd, Int.reduceSub, Int.reduceMul, reduceCtorEq, reduceIte, Bool.not_true, Bool.not_false]; refine KD.mk rfl (hK _ ?_); clear hK K)
    | with_reducible refine AStk.block ?_
    | with_reducible refine AStk.skip ?_
    | with_reducible refine AStk.exit ?_
    | with_reducible refine AStk.ret ?_
    | with_reducible refine AStk.nil ?_
    | with_reducible refine Then.exit ?_
    | with_reducible refine Then.ret ?_
    | with_reducible refine Then.normal ?_
    | with_reducible refine Exits.normal ?_
    | with_reducible refine Exits.here ?_
    | with_reducible refine Exits.ret ?_
    | with_reducible refine Exits.there (by decide) ?_
    | refine AStk.condT rfl ?_
    | refine AStk.condF rfl ?_
    | with_reducible refine AStk.goto ?_
    | with_reducible refine Then.goto ?_
    | with_reducible refine Exits.goto ?_
    | with_reducible refine Jmp.normal ?_
    | with_reducible refine Jmp.ret ?_
    | with_reducible refine Jmp.exit ?_
    | with_reducible refine Jmp.goto ?_)
  refine AStk.scope2 0 (by exact rfl) (fun i : Nat × Nat × Nat => { env := [(0, .sl false 1 (encB b)), (4, .lit (.int .u64 i.1)), (5, .int i.2.1), (6, .lit (.int .u8 i.2.2))], box := [], row := [] }) (fun i => i.2.1 ≤ b.length ∧ i.2.1 ≤ 5 ∧ i.1 < 2 ^ (7 * i.2.1) ∧ getN b i.1 i.2.1 = getN b 0 0) (fun i => 5 - i.2.1) ?_ ?_
  case refine_1 =>
    rintro ⟨u, k, dg⟩ ⟨hk1, hk2, hu, hg⟩ J hJ
    simp only at hk1 hk2 hu hg hJ ⊢
    by_cases h1 : k = b.length
    · have f1 : ((k : Int) == (b.length : Int)) = true := by simp [h1]
      repeat (first
        | with_reducible refine AStk.seq ?_
        | (refine AStk.reg rfl fun K hK => ?_; simp -implicitDefEqProofs only [go_sem, Nat.reduceEqDiff, Nat.reduceAdd, Nat.reduceSub, Nat.reduceMul, Nat.reduceLeDiff, Nat.reduceLT, Nat.reduceBEq, Int.reduceToNat, Int.reduceLE, Int.reduceLT, Int.reduceEq, Int.reduceBEq, Int.reduceNe, Int.reduceNeg, Int.reduceBNe, Int.reduceAdd, Int.reduceSub, Int.reduceMul, reduceCtorEq, reduceIte, Bool.not_true, Bool.not_false, f1]; (first | refine hK _ ?_ | refine ⟨by omega, hK _ ?_⟩ | refine ⟨⟨by omega, by omega⟩, hK _ ?_⟩ | refine ⟨by omega, by omega, hK _ ?_⟩); clear hK K)
        | (refine AStk.drw rfl rfl fun K hK => ?_; simp -implicitDefEqProofs only [go_sem, Nat.reduceEqDiff, Nat.reduceAdd, Nat.reduceSub, Nat.reduceMul, Nat.reduceLeDiff, Nat.reduceLT, Nat.reduceBEq, Int.reduceToNat, Int.reduceLE, Int.reduceLT, Int.reduceEq, Int.reduceBEq, Int.reduceNe, Int.reduceNeg, Int.reduceBNe, Int.reduceAdd, Int.reduceSub, Int.reduceMul, reduceCtorEq, reduceIte, Bool.not_true, Bool.not_false, f1]; refine KD.mk rfl (hK _ ?_); clear hK K)
        | with_reducible refine AStk.block ?_
        | with_reducible refine AStk.skip ?_
        | with_reducible refine AStk.exit ?_
        | with_reducible refine AStk.ret ?_
        | with_reducible refine AStk.nil ?_
        | with_reducible refine Then.exit ?_
        | with_reducible refine Then.ret ?_
        | with_reducible refine Then.normal ?_
        | with_reducible refine Exits.normal ?_
        | with_reducible refine Exits.here ?_
        | with_reducible refine Exits.ret ?_
        | with_reducible refine Exits.there (by decide) ?_
        | refine AStk.condT rfl ?_
        | refine AStk.condF rfl ?_
        | with_reducible refine AStk.goto ?_
        | with_reducible refine Then.goto ?_
        | with_reducible refine Exits.goto ?_
        | with_reducible refine Jmp.normal ?_
        | with_reducible refine Jmp.ret ?_
        | with_reducible refine Jmp.exit ?_
        | with_reducible refine Jmp.goto ?_)
      refine FPost.ret (rs := #[.tmp 2, .tmp 3]) Try.results24 (by simp -implicitDefEqProofs only [go_sem, Nat.reduceEqDiff, Nat.reduceAdd, Nat.reduceSub, Nat.reduceMul, Nat.reduceLeDiff, Nat.reduceLT, Nat.reduceBEq, Int.reduceToNat, Int.reduceLE, Int.reduceLT, Int.reduceEq, Int.reduceBEq, Int.reduceNe, Int.reduceNeg, Int.reduceBNe, Int.reduceAdd, Int.reduceSub, Int.reduceMul, reduceCtorEq, reduceIte, Bool.not_true, Bool.not_false]; rfl) ?_
      rw [← hg, getN, dif_pos (by omega)]
      exact Le.refl _
    have f1 : ((k : Int) == (b.length : Int)) = false := by simp; omega
    by_cases h2 : k = 5
    · have f2 : ((k : Int) == 5) = true := by simp [h2]
      repeat (first
        | with_reducible refine AStk.seq ?_
        | (refine AStk.reg rfl fun K hK => ?_; simp -implicitDefEqProofs only [go_sem, Nat.reduceEqDiff, Nat.reduceAdd, Nat.reduceSub, Nat.reduceMul, Nat.reduceLeDiff, Nat.reduceLT, Nat.reduceBEq, Int.reduceToNat, Int.reduceLE, Int.reduceLT, Int.reduceEq, Int.reduceBEq, Int.reduceNe, Int.reduceNeg, Int.reduceBNe, Int.reduceAdd, Int.reduceSub, Int.reduceMul, reduceCtorEq, reduceIte, Bool.not_true, Bool.not_false, f1, f2]; (first | refine hK _ ?_ | refine ⟨by omega, hK _ ?_⟩ | refine ⟨⟨by omega, by omega⟩, hK _ ?_⟩ | refine ⟨by omega, by omega, hK _ ?_⟩); clear hK K)
        | (refine AStk.drw rfl rfl fun K hK => ?_; simp -implicitDefEqProofs only [go_sem, Nat.reduceEqDiff, Nat.reduceAdd, Nat.reduceSub, Nat.reduceMul, Nat.reduceLeDiff, Nat.reduceLT, Nat.reduceBEq, Int.reduceToNat, Int.reduceLE, Int.reduceLT, Int.reduceEq, Int.reduceBEq, Int.reduceNe, Int.reduceNeg, Int.reduceBNe, Int.reduceAdd, Int.reduceSub, Int.reduceMul, reduceCtorEq, reduceIte, Bool.not_true, Bool.not_false, f1, f2]; refine KD.mk rfl (hK _ ?_); clear hK K)
        | with_reducible refine AStk.block ?_
        | with_reducible refine AStk.skip ?_
        | with_reducible refine AStk.exit ?_
        | with_reducible refine AStk.ret ?_
        | with_reducible refine AStk.nil ?_
        | with_reducible refine Then.exit ?_
        | with_reducible refine Then.ret ?_
        | with_reducible refine Then.normal ?_
        | with_reducible refine Exits.normal ?_
        | with_reducible refine Exits.here ?_
        | with_reducible refine Exits.ret ?_
        | with_reducible refine Exits.there (by decide) ?_
        | refine AStk.condT rfl ?_
        | refine AStk.condF rfl ?_
        | with_reducible refine AStk.goto ?_
        | with_reducible refine Then.goto ?_
        | with_reducible refine Exits.goto ?_
        | with_reducible refine Jmp.normal ?_
        | with_reducible refine Jmp.ret ?_
        | with_reducible refine Jmp.exit ?_
        | with_reducible refine Jmp.goto ?_)
      refine FPost.ret (rs := #[.tmp 2, .tmp 3]) Try.results24 (by simp -implicitDefEqProofs only [go_sem, Nat.reduceEqDiff, Nat.reduceAdd, Nat.reduceSub, Nat.reduceMul, Nat.reduceLeDiff, Nat.reduceLT, Nat.reduceBEq, Int.reduceToNat, Int.reduceLE, Int.reduceLT, Int.reduceEq, Int.reduceBEq, Int.reduceNe, Int.reduceNeg, Int.reduceBNe, Int.reduceAdd, Int.reduceSub, Int.reduceMul, reduceCtorEq, reduceIte, Bool.not_true, Bool.not_false]; rfl) ?_
      rw [← hg, getN, dif_pos (by omega)]
      exact Le.refl _
    have f2 : ((k : Int) == 5) = false := by simp; omega
    have hk : k < b.length := by omega
    have hv : getN b u k = if 128 ≤ (b[k]).toNat then getN b (u + (b[k]).toNat % 128 * 2 ^ (7 * k)) (k + 1) else
        if 4294967295 < u + (b[k]).toNat % 128 * 2 ^ (7 * k) ∨ ((b[k]).toNat = 0 ∧ 1 < k + 1) then (0, 0) else
        if (u + (b[k]).toNat % 128 * 2 ^ (7 * k)) % 2 = 1 then (-((u + (b[k]).toNat % 128 * 2 ^ (7 * k)) / 2 : Nat) - 1, (k + 1 : Nat)) else (((u + (b[k]).toNat % 128 * 2 ^ (7 * k)) / 2 : Nat), (k + 1 : Nat)) := by
      rw [getN, dif_neg (by omega)]
    rw [hv] at hg
    clear hv
    have hd := (b[k]).toNat_lt
    have f0 : b[k]? = some b[k] := List.getElem?_eq_getElem hk
    have fd : ∃ d, (b[k]).toNat = d := ⟨_, rfl⟩
    obtain ⟨d, fd⟩ := fd
    rw [fd] at hd hg
    have hp : (2 : Nat) ^ (7 * k) ≤ 2 ^ 28 := Nat.pow_le_pow_right (by decide) (by omega)
    have hp0 : 0 < (2 : Nat) ^ (7 * k) := Nat.pow_pos (by decide)
    have hm : d % 128 * 2 ^ (7 * k) ≤ 127 * 2 ^ 28 := Nat.mul_le_mul (by omega) hp
    have hnext : u + d % 128 * 2 ^ (7 * k) < 2 ^ (7 * (k + 1)) := by
      have h3 : d % 128 * 2 ^ (7 * k) ≤ 127 * 2 ^ (7 * k) := Nat.mul_le_mul_right _ (by omega)
      have h4 : (2 : Nat) ^ (7 * (k + 1)) = 128 * 2 ^ (7 * k) := by rw [show 7 * (k + 1) = 7 * k + 7 by omega, Nat.pow_add]; omega
      omega
    have e1 : ((d : Int).tmod 128) = ((d % 128 : Nat) : Int) := by rw [Int.tmod_eq_emod_of_nonneg (by omega)]; omega
    have e2 : IntKind.u64.wrap ((d % 128 : Nat) : Int) = ((d % 128 : Nat) : Int) := u64_in _ (by omega)
    have e3 : IntKind.i64.wrap (7 * (k : Int)) = ((7 * k : Nat) : Int) := by rw [i64_in _ (by omega)]; omega
    have e4 : (((7 * k : Nat) : Int) < 0) = False := by simp; omega
    have e5 : IntKind.u64.wrap (((d % 128 : Nat) : Int) * 2 ^ min (7 * k) 64) = ((d % 128 * 2 ^ (7 * k) : Nat) : Int) := by
      rw [Nat.min_eq_left (show 7 * k ≤ 64 by omega), u64_in]
      · simp
      · have : (((d % 128 : Nat) : Int) * 2 ^ (7 * k)) = ((d % 128 * 2 ^ (7 * k) : Nat) : Int) := by simp
        rw [this]; omega
    have e6 : ior .u64 (u : Int) ((d % 128 * 2 ^ (7 * k) : Nat) : Int) = ((u + d % 128 * 2 ^ (7 * k) : Nat) : Int) := by
      rw [or_u64 (by omega) (by omega), or_add hu]
    have e7 : IntKind.i64.wrap ((k : Int) + 1) = ((k + 1 : Nat) : Int) := by rw [i64_in _ (by omega)]; simp
    generalize hv : u + d % 128 * 2 ^ (7 * k) = v at e6 hg hnext
    by_cases h3 : 128 ≤ (d : Int)
    · rw [if_pos (by omega)] at hg
      repeat (first
        | with_reducible refine AStk.seq ?_
        | (refine AStk.reg rfl fun K hK => ?_; simp -implicitDefEqProofs only [go_sem, Nat.reduceEqDiff, Nat.reduceAdd, Nat.reduceSub, Nat.reduceMul, Nat.reduceLeDiff, Nat.reduceLT, Nat.reduceBEq, Int.reduceToNat, Int.reduceLE, Int.reduceLT, Int.reduceEq, Int.reduceBEq, Int.reduceNe, Int.reduceNeg, Int.reduceBNe, Int.reduceAdd, Int.reduceSub, Int.reduceMul, reduceCtorEq, reduceIte, Bool.not_true, Bool.not_false, f1, f2, f0, fd, e1, e2, e3, e4, e5, e6, e7, h3]; (first | refine hK _ ?_ | refine ⟨by omega, hK _ ?_⟩ | refine ⟨⟨by omega, by omega⟩, hK _ ?_⟩ | refine ⟨by omega, by omega, hK _ ?_⟩); clear hK K)
        | (refine AStk.drw rfl rfl fun K hK => ?_; simp -implicitDefEqProofs only [go_sem, Nat.reduceEqDiff, Nat.reduceAdd, Nat.reduceSub, Nat.reduceMul, Nat.reduceLeDiff, Nat.reduceLT, Nat.reduceBEq, Int.reduceToNat, Int.reduceLE, Int.reduceLT, Int.reduceEq, Int.reduceBEq, Int.reduceNe, Int.reduceNeg, Int.reduceBNe, Int.reduceAdd, Int.reduceSub, Int.reduceMul, reduceCtorEq, reduceIte, Bool.not_true, Bool.not_false, f1, f2, f0, fd, e1, e2, e3, e4, e5, e6, e7, h3]; refine KD.mk rfl (hK _ ?_); clear hK K)
        | with_reducible refine AStk.block ?_
        | with_reducible refine AStk.skip ?_
        | with_reducible refine AStk.exit ?_
        | with_reducible refine AStk.ret ?_
        | with_reducible refine AStk.nil ?_
        | with_reducible refine Then.exit ?_
        | with_reducible refine Then.ret ?_
        | with_reducible refine Then.normal ?_
        | with_reducible refine Exits.normal ?_
        | with_reducible refine Exits.here ?_
        | with_reducible refine Exits.ret ?_
        | with_reducible refine Exits.there (by decide) ?_
        | refine AStk.condT rfl ?_
        | refine AStk.condF rfl ?_
        | with_reducible refine AStk.goto ?_
        | with_reducible refine Then.goto ?_
        | with_reducible refine Exits.goto ?_
        | with_reducible refine Jmp.normal ?_
        | with_reducible refine Jmp.ret ?_
        | with_reducible refine Jmp.exit ?_
        | with_reducible refine Jmp.goto ?_)
      refine hJ (v, k + 1, d) _ ⟨by simp only; omega, by simp only; omega, hnext, hg⟩ (by simp only; omega) ?_
      refine Weak.of ?_ ?_ ?_ ?_ ?_ <;> simp [get_cons, refOk, Le.refl]
    rw [if_neg (by omega)] at hg
    have e8 : (1 < ((k + 1 : Nat) : Int)) = (1 < k + 1) := by simp; omega
    by_cases h4 : 4294967295 < (v : Int)
    · rw [if_pos (.inl (by omega))] at hg
      repeat (first
        | with_reducible refine AStk.seq ?_
        | (refine AStk.reg rfl fun K hK => ?_; simp -implicitDefEqProofs only [go_sem, Nat.reduceEqDiff, Nat.reduceAdd, Nat.reduceSub, Nat.reduceMul, Nat.reduceLeDiff, Nat.reduceLT, Nat.reduceBEq, Int.reduceToNat, Int.reduceLE, Int.reduceLT, Int.reduceEq, Int.reduceBEq, Int.reduceNe, Int.reduceNeg, Int.reduceBNe, Int.reduceAdd, Int.reduceSub, Int.reduceMul, reduceCtorEq, reduceIte, Bool.not_true, Bool.not_false, f1, f2, f0, fd, e1, e2, e3, e4, e5, e6, e7, h3, h4]; (first | refine hK _ ?_ | refine ⟨by omega, hK _ ?_⟩ | refine ⟨⟨by omega, by omega⟩, hK _ ?_⟩ | refine ⟨by omega, by omega, hK _ ?_⟩); clear hK K)
        | (refine AStk.drw rfl rfl fun K hK => ?_; simp -implicitDefEqProofs only [go_sem, Nat.reduceEqDiff, Nat.reduceAdd, Nat.reduceSub, Nat.reduceMul, Nat.reduceLeDiff, Nat.reduceLT, Nat.reduceBEq, Int.reduceToNat, Int.reduceLE, Int.reduceLT, Int.reduceEq, Int.reduceBEq, Int.reduceNe, Int.reduceNeg, Int.reduceBNe, Int.reduceAdd, Int.reduceSub, Int.reduceMul, reduceCtorEq, reduceIte, Bool.not_true, Bool.not_false, f1, f2, f0, fd, e1, e2, e3, e4, e5, e6, e7, h3, h4]; refine KD.mk rfl (hK _ ?_); clear hK K)
        | with_reducible refine AStk.block ?_
        | with_reducible refine AStk.skip ?_
        | with_reducible refine AStk.exit ?_
        | with_reducible refine AStk.ret ?_
        | with_reducible refine AStk.nil ?_
        | with_reducible refine Then.exit ?_
        | with_reducible refine Then.ret ?_
        | with_reducible refine Then.normal ?_
        | with_reducible refine Exits.normal ?_
        | with_reducible refine Exits.here ?_
        | with_reducible refine Exits.ret ?_
        | with_reducible refine Exits.there (by decide) ?_
        | refine AStk.condT rfl ?_
        | refine AStk.condF rfl ?_
        | with_reducible refine AStk.goto ?_
        | with_reducible refine Then.goto ?_
        | with_reducible refine Exits.goto ?_
        | with_reducible refine Jmp.normal ?_
        | with_reducible refine Jmp.ret ?_
        | with_reducible refine Jmp.exit ?_
        | with_reducible refine Jmp.goto ?_)
      refine FPost.ret (rs := #[.tmp 2, .tmp 3]) Try.results24 (by simp -implicitDefEqProofs only [go_sem, Nat.reduceEqDiff, Nat.reduceAdd, Nat.reduceSub, Nat.reduceMul, Nat.reduceLeDiff, Nat.reduceLT, Nat.reduceBEq, Int.reduceToNat, Int.reduceLE, Int.reduceLT, Int.reduceEq, Int.reduceBEq, Int.reduceNe, Int.reduceNeg, Int.reduceBNe, Int.reduceAdd, Int.reduceSub, Int.reduceMul, reduceCtorEq, reduceIte, Bool.not_true, Bool.not_false]; rfl) ?_
      rw [← hg]
      exact Le.refl _
    have h4' : ¬ 4294967295 < v := by omega
    have e9 : ((v : Int).tmod 2) = ((v % 2 : Nat) : Int) := by rw [Int.tmod_eq_emod_of_nonneg (by omega)]; omega
    have e10 : IntKind.u64.wrap ((v : Int).tdiv 2) = (v / 2 : Nat) := by
      rw [u64_quo _ _ (by omega)]; simp
    have e11 : IntKind.i64.wrap ((v / 2 : Nat) : Int) = (v / 2 : Nat) := i64_in _ (by omega)
    have e12 : IntKind.i64.wrap (0 - ((v / 2 : Nat) : Int)) = - ((v / 2 : Nat) : Int) := by rw [i64_in _ (by omega)]; omega
    have e13 : IntKind.i64.wrap (- ((v / 2 : Nat) : Int) - 1) = - ((v / 2 : Nat) : Int) - 1 := i64_in _ (by omega)
    have fin : ¬ (d = 0 ∧ 1 < k + 1) → getN b 0 0 = if v % 2 = 1 then (-((v / 2 : Nat) : Int) - 1, ((k + 1 : Nat) : Int)) else (((v / 2 : Nat) : Int), ((k + 1 : Nat) : Int)) := by
      intro h
      rw [← hg, if_neg (by omega)]
    by_cases h6 : v % 2 = 1
    all_goals
      by_cases h5 : d = 0
      · have f3 : ((d : Int) == 0) = true := by simp [h5]
        by_cases h7 : 1 < k + 1
        · skip
          repeat (first
            | with_reducible refine AStk.seq ?_
            | (refine AStk.reg rfl fun K hK => ?_; simp -implicitDefEqProofs only [go_sem, Nat.reduceEqDiff, Nat.reduceAdd, Nat.reduceSub, Nat.reduceMul, Nat.reduceLeDiff, Nat.reduceLT, Nat.reduceBEq, Int.reduceToNat, Int.reduceLE, Int.reduceLT, Int.reduceEq, Int.reduceBEq, Int.reduceNe, Int.reduceNeg, Int.reduceBNe, Int.reduceAdd, Int.reduceSub, Int.reduceMul, reduceCtorEq, reduceIte, Bool.not_true, Bool.not_false, f1, f2, f0, fd, e1, e2, e3, e4, e5, e6, e7, h3, h4, f3, e8, h7]; (first | refine hK _ ?_ | refine ⟨by omega, hK _ ?_⟩ | refine ⟨⟨by omega, by omega⟩, hK _ ?_⟩ | refine ⟨by omega, by omega, hK _ ?_⟩); clear hK K)
            | (refine AStk.drw rfl rfl fun K hK => ?_; simp -implicitDefEqProofs only [go_sem, Nat.reduceEqDiff, Nat.reduceAdd, Nat.reduceSub, Nat.reduceMul, Nat.reduceLeDiff, Nat.reduceLT, Nat.reduceBEq, Int.reduceToNat, Int.reduceLE, Int.reduceLT, Int.reduceEq, Int.reduceBEq, Int.reduceNe, Int.reduceNeg, Int.reduceBNe, Int.reduceAdd, Int.reduceSub, Int.reduceMul, reduceCtorEq, reduceIte, Bool.not_true, Bool.not_false, f1, f2, f0, fd, e1, e2, e3, e4, e5, e6, e7, h3, h4, f3, e8, h7]; refine KD.mk rfl (hK _ ?_); clear hK K)
            | with_reducible refine AStk.block ?_
            | with_reducible refine AStk.skip ?_
            | with_reducible refine AStk.exit ?_
            | with_reducible refine AStk.ret ?_
            | with_reducible refine AStk.nil ?_
            | with_reducible refine Then.exit ?_
            | with_reducible refine Then.ret ?_
            | with_reducible refine Then.normal ?_
            | with_reducible refine Exits.normal ?_
            | with_reducible refine Exits.here ?_
            | with_reducible refine Exits.ret ?_
            | with_reducible refine Exits.there (by decide) ?_
            | refine AStk.condT rfl ?_
            | refine AStk.condF rfl ?_
            | with_reducible refine AStk.goto ?_
            | with_reducible refine Then.goto ?_
            | with_reducible refine Exits.goto ?_
            | with_reducible refine Jmp.normal ?_
            | with_reducible refine Jmp.ret ?_
            | with_reducible refine Jmp.exit ?_
            | with_reducible refine Jmp.goto ?_)
          rw [if_pos (.inr ⟨h5, h7⟩)] at hg
          refine FPost.ret (rs := #[.tmp 2, .tmp 3]) Try.results24 (by simp -implicitDefEqProofs only [go_sem, Nat.reduceEqDiff, Nat.reduceAdd, Nat.reduceSub, Nat.reduceMul, Nat.reduceLeDiff, Nat.reduceLT, Nat.reduceBEq, Int.reduceToNat, Int.reduceLE, Int.reduceLT, Int.reduceEq, Int.reduceBEq, Int.reduceNe, Int.reduceNeg, Int.reduceBNe, Int.reduceAdd, Int.reduceSub, Int.reduceMul, reduceCtorEq, reduceIte, Bool.not_true, Bool.not_false]; rfl) ?_
          rw [← hg]
          exact Le.refl _
        · have f4 : (((v % 2 : Nat) : Int) == 1) = decide (v % 2 = 1) := by rw [Bool.eq_iff_iff]; simp; omega
          have fin := fin (by omega)
          simp only [h6, if_true, if_false] at fin
          repeat (first
            | with_reducible refine AStk.seq ?_
            | (refine AStk.reg rfl fun K hK => ?_; simp -implicitDefEqProofs only [go_sem, Nat.reduceEqDiff, Nat.reduceAdd, Nat.reduceSub, Nat.reduceMul, Nat.reduceLeDiff, Nat.reduceLT, Nat.reduceBEq, Int.reduceToNat, Int.reduceLE, Int.reduceLT, Int.reduceEq, Int.reduceBEq, Int.reduceNe, Int.reduceNeg, Int.reduceBNe, Int.reduceAdd, Int.reduceSub, Int.reduceMul, reduceCtorEq, reduceIte, Bool.not_true, Bool.not_false, f1, f2, f0, fd, e1, e2, e3, e4, e5, e6, e7, h3, h4, f3, e8, h7, e9, f4, h6, e10, e11, e12, e13]; (first | refine hK _ ?_ | refine ⟨by omega, hK _ ?_⟩ | refine ⟨⟨by omega, by omega⟩, hK _ ?_⟩ | refine ⟨by omega, by omega, hK _ ?_⟩); clear hK K)
            | (refine AStk.drw rfl rfl fun K hK => ?_; simp -implicitDefEqProofs only [go_sem, Nat.reduceEqDiff, Nat.reduceAdd, Nat.reduceSub, Nat.reduceMul, Nat.reduceLeDiff, Nat.reduceLT, Nat.reduceBEq, Int.reduceToNat, Int.reduceLE, Int.reduceLT, Int.reduceEq, Int.reduceBEq, Int.reduceNe, Int.reduceNeg, Int.reduceBNe, Int.reduceAdd, Int.reduceSub, Int.reduceMul, reduceCtorEq, reduceIte, Bool.not_true, Bool.not_false, f1, f2, f0, fd, e1, e2, e3, e4, e5, e6, e7, h3, h4, f3, e8, h7, e9, f4, h6, e10, e11, e12, e13]; refine KD.mk rfl (hK _ ?_); clear hK K)
            | with_reducible refine AStk.block ?_
            | with_reducible refine AStk.skip ?_
            | with_reducible refine AStk.exit ?_
            | with_reducible refine AStk.ret ?_
            | with_reducible refine AStk.nil ?_
            | with_reducible refine Then.exit ?_
            | with_reducible refine Then.ret ?_
            | with_reducible refine Then.normal ?_
            | with_reducible refine Exits.normal ?_
            | with_reducible refine Exits.here ?_
            | with_reducible refine Exits.ret ?_
            | with_reducible refine Exits.there (by decide) ?_
            | refine AStk.condT rfl ?_
            | refine AStk.condF rfl ?_
            | with_reducible refine AStk.goto ?_
            | with_reducible refine Then.goto ?_
            | with_reducible refine Exits.goto ?_
            | with_reducible refine Jmp.normal ?_
            | with_reducible refine Jmp.ret ?_
            | with_reducible refine Jmp.exit ?_
            | with_reducible refine Jmp.goto ?_)
          refine FPost.ret (rs := #[.tmp 2, .tmp 3]) Try.results24 (by simp -implicitDefEqProofs only [go_sem, Nat.reduceEqDiff, Nat.reduceAdd, Nat.reduceSub, Nat.reduceMul, Nat.reduceLeDiff, Nat.reduceLT, Nat.reduceBEq, Int.reduceToNat, Int.reduceLE, Int.reduceLT, Int.reduceEq, Int.reduceBEq, Int.reduceNe, Int.reduceNeg, Int.reduceBNe, Int.reduceAdd, Int.reduceSub, Int.reduceMul, reduceCtorEq, reduceIte, Bool.not_true, Bool.not_false]; rfl) ?_
          rw [fin]
          exact Le.refl _
      · have f3 : ((d : Int) == 0) = false := by simp; omega
        have f4 : (((v % 2 : Nat) : Int) == 1) = decide (v % 2 = 1) := by rw [Bool.eq_iff_iff]; simp; omega
        have fin := fin (by omega)
        simp only [h6, if_true, if_false] at fin
        repeat (first
          | with_reducible refine AStk.seq ?_
          | (refine AStk.reg rfl fun K hK => ?_; simp -implicitDefEqProofs only [go_sem, Nat.reduceEqDiff, Nat.reduceAdd, Nat.reduceSub, Nat.reduceMul, Nat.reduceLeDiff, Nat.reduceLT, Nat.reduceBEq, Int.reduceToNat, Int.reduceLE, Int.reduceLT, Int.reduceEq, Int.reduceBEq, Int.reduceNe, Int.reduceNeg, Int.reduceBNe, Int.reduceAdd, Int.reduceSub, Int.reduceMul, reduceCtorEq, reduceIte, Bool.not_true, Bool.not_false, f1, f2, f0, fd, e1, e2, e3, e4, e5, e6, e7, h3, h4, f3, e8, e9, f4, h6, e10, e11, e12, e13]; (first | refine hK _ ?_ | refine ⟨by omega, hK _ ?_⟩ | refine ⟨⟨by omega, by omega⟩, hK _ ?_⟩ | refine ⟨by omega, by omega, hK _ ?_⟩); clear hK K)
          | (refine AStk.drw rfl rfl fun K hK => ?_; simp -implicitDefEqProofs only [go_sem, Nat.reduceEqDiff, Nat.reduceAdd, Nat.reduceSub, Nat.reduceMul, Nat.reduceLeDiff, Nat.reduceLT, Nat.reduceBEq, Int.reduceToNat, Int.reduceLE, Int.reduceLT, Int.reduceEq, Int.reduceBEq, Int.reduceNe, Int.reduceNeg, Int.reduceBNe, Int.reduceAdd, Int.reduceSub, Int.reduceMul, reduceCtorEq, reduceIte, Bool.not_true, Bool.not_false, f1, f2, f0, fd, e1, e2, e3, e4, e5, e6, e7, h3, h4, f3, e8, e9, f4, h6, e10, e11, e12, e13]; refine KD.mk rfl (hK _ ?_); clear hK K)
          | with_reducible refine AStk.block ?_
          | with_reducible refine AStk.skip ?_
          | with_reducible refine AStk.exit ?_
          | with_reducible refine AStk.ret ?_
          | with_reducible refine AStk.nil ?_
          | with_reducible refine Then.exit ?_
          | with_reducible refine Then.ret ?_
          | with_reducible refine Then.normal ?_
          | with_reducible refine Exits.normal ?_
          | with_reducible refine Exits.here ?_
          | with_reducible refine Exits.ret ?_
          | with_reducible refine Exits.there (by decide) ?_
          | refine AStk.condT rfl ?_
          | refine AStk.condF rfl ?_
          | with_reducible refine AStk.goto ?_
          | with_reducible refine Then.goto ?_
          | with_reducible refine Exits.goto ?_
          | with_reducible refine Jmp.normal ?_
          | with_reducible refine Jmp.ret ?_
          | with_reducible refine Jmp.exit ?_
          | with_reducible refine Jmp.goto ?_)
        refine FPost.ret (rs := #[.tmp 2, .tmp 3]) Try.results24 (by simp -implicitDefEqProofs only [go_sem, Nat.reduceEqDiff, Nat.reduceAdd, Nat.reduceSub, Nat.reduceMul, Nat.reduceLeDiff, Nat.reduceLT, Nat.reduceBEq, Int.reduceToNat, Int.reduceLE, Int.reduceLT, Int.reduceEq, Int.reduceBEq, Int.reduceNe, Int.reduceNeg, Int.reduceBNe, Int.reduceAdd, Int.reduceSub, Int.reduceMul, reduceCtorEq, reduceIte, Bool.not_true, Bool.not_false]; rfl) ?_
        rw [fin]
        exact Le.refl _
  case refine_2 =>
    intro pass J hJ
    repeat (first
      | with_reducible refine AStk.seq ?_
      | (refine AStk.reg rfl fun K hK => ?_; simp -implicitDefEqProofs only [go_sem, Nat.reduceEqDiff, Nat.reduceAdd, Nat.reduceSub, Nat.reduceMul, Nat.reduceLeDiff, Nat.reduceLT, Nat.reduceBEq, Int.reduceToNat, Int.reduceLE, Int.reduceLT, Int.reduceEq, Int.reduceBEq, Int.reduceNe, Int.reduceNeg, Int.reduceBNe, Int.reduceAdd, Int.reduceSub, Int.reduceMul, reduceCtorEq, reduceIte, Bool.not_true, Bool.not_false]; (first | refine hK _ ?_ | refine ⟨by omega, hK _ ?_⟩ | refine ⟨⟨by omega, by omega⟩, hK _ ?_⟩ | refine ⟨by omega, by omega, hK _ ?_⟩); clear hK K)
      | (refine AStk.drw rfl rfl fun K hK => ?_; simp -implicitDefEqProofs only [go_sem, Nat.reduceEqDiff, Nat.reduceAdd, Nat.reduceSub, Nat.reduceMul, Nat.reduceLeDiff, Nat.reduceLT, Nat.reduceBEq, Int.reduceToNat, Int.reduceLE, Int.reduceLT, Int.reduceEq, Int.reduceBEq, Int.reduceNe, Int.reduceNeg, Int.reduceBNe, Int.reduceAdd, Int.reduceSub, Int.reduceMul, reduceCtorEq, reduceIte, Bool.not_true, Bool.not_false]; refine KD.mk rfl (hK _ ?_); clear hK K)
      | with_reducible refine AStk.block ?_
      | with_reducible refine AStk.skip ?_
      | with_reducible refine AStk.exit ?_
      | with_reducible refine AStk.ret ?_
      | with_reducible refine AStk.nil ?_
      | with_reducible refine Then.exit ?_
      | with_reducible refine Then.ret ?_
      | with_reducible refine Then.normal ?_
      | with_reducible refine Exits.normal ?_
      | with_reducible refine Exits.here ?_
      | with_reducible refine Exits.ret ?_
      | with_reducible refine Exits.there (by decide) ?_
      | refine AStk.condT rfl ?_
      | refine AStk.condF rfl ?_
      | with_reducible refine AStk.goto ?_
      | with_reducible refine Then.goto ?_
      | with_reducible refine Exits.goto ?_
      | with_reducible refine Jmp.normal ?_
      | with_reducible refine Jmp.ret ?_
      | with_reducible refine Jmp.exit ?_
      | with_reducible refine Jmp.goto ?_)
    refine AStk.label ?_
    refine AStk.weak ?_ (pass (0, 0, 0) ⟨by simp, by simp, by simp, rfl⟩ J (fun j s' h1 _ h2 => hJ j s' h1 h2)) (by simp)
    refine Weak.of ?_ ?_ ?_ ?_ ?_ <;> simp [get_cons, refOk, Le.refl]
end Go.Va.Try
set_option autoImplicit false
set_option linter.unusedVariables false
set_option linter.unusedSimpArgs false
namespace Go.Va.Try
open Go Go.Va Go.Proofs Go.IntWalk

def text (s : ByteArray) : List UInt8 := if 8 < s.size then [] else num s.size ++ s.data.toList
theorem encB_fold (l : List UInt8) : (l.map fun b => [AVal.lit (.int .u8 b.toNat)]) = encB l := rfl
theorem encB_drop (l : List UInt8) (n : Nat) : (encB l).drop n = encB (l.drop n) := by simp [encB]
theorem encB_take (l : List UInt8) (n : Nat) : (encB l).take n = encB (l.take n) := by simp [encB]
attribute [go_sem] encB_fold encB_drop encB_take bytesOf_enc
theorem num_len (n : Int) : (num n).length ≤ 5 := by
  unfold num
  split
  · simp
  · refine numTail_len 5 _ ?_ (by decide)
    unfold numU; split <;> omega

theorem Text_own (Φ) (s : ByteArray) : ACallsR Try.prog Φ 25 [.str s] 5 (encB (text s)) := by
  have hm : most = 140737488355328 := rfl
  refine ACallsR.stk 11 Try.func25 rfl rfl Try.ntmps25 (by simp) Try.results25 (fun w0 m0 => ?_)
  by_cases h1 : (8 : Int) < s.size
  · skip
    repeat (first
      | with_reducible refine AStk.seq ?_
      | (refine AStk.reg rfl fun K hK => ?_; simp -implicitDefEqProofs only [go_sem, Nat.reduceEqDiff, Nat.reduceAdd, Nat.reduceSub, Nat.reduceMul, Nat.reduceLeDiff, Nat.reduceLT, Nat.reduceBEq, Int.reduceToNat, Int.reduceLE, Int.reduceLT, Int.reduceEq, Int.reduceBEq, Int.reduceNe, Int.reduceNeg, Int.reduceBNe, Int.reduceAdd, Int.reduceSub, Int.reduceMul, reduceCtorEq, reduceIte, Bool.not_true, Bool.not_false, h1]; (first | refine hK _ ?_ | refine ⟨by omega, hK _ ?_⟩ | refine ⟨⟨by omega, by omega⟩, hK _ ?_⟩ | refine ⟨by omega, by omega, hK _ ?_⟩); clear hK K)
      | (refine AStk.drw rfl rfl fun K hK => ?_; simp -implicitDefEqProofs only [go_sem, Nat.reduceEqDiff, Nat.reduceAdd, Nat.reduceSub, Nat.reduceMul, Nat.reduceLeDiff, Nat.reduceLT, Nat.reduceBEq, Int.reduceToNat, Int.reduceLE, Int.reduceLT, Int.reduceEq, Int.reduceBEq, Int.reduceNe, Int.reduceNeg, Int.reduceBNe, Int.reduceAdd, Int.reduceSub, Int.reduceMul, reduceCtorEq, reduceIte, Bool.not_true, Bool.not_false, h1]; refine KD.mk rfl (hK _ ?_); clear hK K)
      | with_reducible refine AStk.block ?_
      | with_reducible refine AStk.skip ?_
      | with_reducible refine AStk.exit ?_
      | with_reducible refine AStk.ret ?_
      | with_reducible refine AStk.nil ?_
      | with_reducible refine Then.exit ?_
      | with_reducible refine Then.ret ?_
      | with_reducible refine Then.normal ?_
      | with_reducible refine Exits.normal ?_
      | with_reducible refine Exits.here ?_
      | with_reducible refine Exits.ret ?_
      | with_reducible refine Exits.there (by decide) ?_
      | refine AStk.condT rfl ?_
      | refine AStk.condF rfl ?_
      | with_reducible refine AStk.goto ?_
      | with_reducible refine Then.goto ?_
      | with_reducible refine Exits.goto ?_
      | with_reducible refine Jmp.normal ?_
      | with_reducible refine Jmp.ret ?_
      | with_reducible refine Jmp.exit ?_
      | with_reducible refine Jmp.goto ?_)
    simp only [text, show 8 < s.size by omega, if_true]
    exact FPostR.sl rfl sz5 (.inr rfl)
  · have hl := num_len s.size
    have hs : s.data.toList.length ≤ 8 := by
      have : s.data.toList.length = s.size := rfl
      omega
    repeat (first
      | with_reducible refine AStk.seq ?_
      | (refine AStk.reg rfl fun K hK => ?_; simp -implicitDefEqProofs only [go_sem, Nat.reduceEqDiff, Nat.reduceAdd, Nat.reduceSub, Nat.reduceMul, Nat.reduceLeDiff, Nat.reduceLT, Nat.reduceBEq, Int.reduceToNat, Int.reduceLE, Int.reduceLT, Int.reduceEq, Int.reduceBEq, Int.reduceNe, Int.reduceNeg, Int.reduceBNe, Int.reduceAdd, Int.reduceSub, Int.reduceMul, reduceCtorEq, reduceIte, Bool.not_true, Bool.not_false, h1]; (first | refine hK _ ?_ | refine ⟨by omega, hK _ ?_⟩ | refine ⟨⟨by omega, by omega⟩, hK _ ?_⟩ | refine ⟨by omega, by omega, hK _ ?_⟩); clear hK K)
      | (refine AStk.drw rfl rfl fun K hK => ?_; simp -implicitDefEqProofs only [go_sem, Nat.reduceEqDiff, Nat.reduceAdd, Nat.reduceSub, Nat.reduceMul, Nat.reduceLeDiff, Nat.reduceLT, Nat.reduceBEq, Int.reduceToNat, Int.reduceLE, Int.reduceLT, Int.reduceEq, Int.reduceBEq, Int.reduceNe, Int.reduceNeg, Int.reduceBNe, Int.reduceAdd, Int.reduceSub, Int.reduceMul, reduceCtorEq, reduceIte, Bool.not_true, Bool.not_false, h1]; refine KD.mk rfl (hK _ ?_); clear hK K)
      | with_reducible refine AStk.block ?_
      | with_reducible refine AStk.skip ?_
      | with_reducible refine AStk.exit ?_
      | with_reducible refine AStk.ret ?_
      | with_reducible refine AStk.nil ?_
      | with_reducible refine Then.exit ?_
      | with_reducible refine Then.ret ?_
      | with_reducible refine Then.normal ?_
      | with_reducible refine Exits.normal ?_
      | with_reducible refine Exits.here ?_
      | with_reducible refine Exits.ret ?_
      | with_reducible refine Exits.there (by decide) ?_
      | refine AStk.condT rfl ?_
      | refine AStk.condF rfl ?_
      | with_reducible refine AStk.goto ?_
      | with_reducible refine Then.goto ?_
      | with_reducible refine Exits.goto ?_
      | with_reducible refine Jmp.normal ?_
      | with_reducible refine Jmp.ret ?_
      | with_reducible refine Jmp.exit ?_
      | with_reducible refine Jmp.goto ?_)
    refine AStk.reg rfl fun K hK => ?_
    simp -implicitDefEqProofs only [go_sem, Nat.reduceEqDiff, Nat.reduceAdd, Nat.reduceSub, Nat.reduceMul, Nat.reduceLeDiff, Nat.reduceLT, Nat.reduceBEq, Int.reduceToNat, Int.reduceLE, Int.reduceLT, Int.reduceEq, Int.reduceBEq, Int.reduceNe, Int.reduceNeg, Int.reduceBNe, Int.reduceAdd, Int.reduceSub, Int.reduceMul, reduceCtorEq, reduceIte, Bool.not_true, Bool.not_false, h1]
    refine KN.own (Num_own _ _) rfl ?_
    simp -implicitDefEqProofs only [go_sem, Nat.reduceEqDiff, Nat.reduceAdd, Nat.reduceSub, Nat.reduceMul, Nat.reduceLeDiff, Nat.reduceLT, Nat.reduceBEq, Int.reduceToNat, Int.reduceLE, Int.reduceLT, Int.reduceEq, Int.reduceBEq, Int.reduceNe, Int.reduceNeg, Int.reduceBNe, Int.reduceAdd, Int.reduceSub, Int.reduceMul, reduceCtorEq, reduceIte, Bool.not_true, Bool.not_false, h1]
    refine ⟨by omega, hK _ ?_⟩
    clear hK
    repeat (first
      | with_reducible refine AStk.seq ?_
      | (refine AStk.reg rfl fun K hK => ?_; simp -implicitDefEqProofs only [go_sem, Nat.reduceEqDiff, Nat.reduceAdd, Nat.reduceSub, Nat.reduceMul, Nat.reduceLeDiff, Nat.reduceLT, Nat.reduceBEq, Int.reduceToNat, Int.reduceLE, Int.reduceLT, Int.reduceEq, Int.reduceBEq, Int.reduceNe, Int.reduceNeg, Int.reduceBNe, Int.reduceAdd, Int.reduceSub, Int.reduceMul, reduceCtorEq, reduceIte, Bool.not_true, Bool.not_false]; (first | refine hK _ ?_ | refine ⟨by omega, hK _ ?_⟩ | refine ⟨⟨by omega, by omega⟩, hK _ ?_⟩ | refine ⟨by omega, by omega, hK _ ?_⟩); clear hK K)
      | (refine AStk.drw rfl rfl fun K hK => ?_; simp -implicitDefEqProofs only [go_sem, Nat.reduceEqDiff, Nat.reduceAdd, Nat.reduceSub, Nat.reduceMul, Nat.reduceLeDiff, Nat.reduceLT, Nat.reduceBEq, Int.reduceToNat, Int.reduceLE, Int.reduceLT, Int.reduceEq, Int.reduceBEq, Int.reduceNe, Int.reduceNeg, Int.reduceBNe, Int.reduceAdd, Int.reduceSub, Int.reduceMul, reduceCtorEq, reduceIte, Bool.not_true, Bool.not_false]; refine KD.mk rfl (hK _ ?_); clear hK K)
      | with_reducible refine AStk.block ?_
      | with_reducible refine AStk.skip ?_
      | with_reducible refine AStk.exit ?_
      | with_reducible refine AStk.ret ?_
      | with_reducible refine AStk.nil ?_
      | with_reducible refine Then.exit ?_
      | with_reducible refine Then.ret ?_
      | with_reducible refine Then.normal ?_
      | with_reducible refine Exits.normal ?_
      | with_reducible refine Exits.here ?_
      | with_reducible refine Exits.ret ?_
      | with_reducible refine Exits.there (by decide) ?_
      | refine AStk.condT rfl ?_
      | refine AStk.condF rfl ?_
      | with_reducible refine AStk.goto ?_
      | with_reducible refine Then.goto ?_
      | with_reducible refine Exits.goto ?_
      | with_reducible refine Jmp.normal ?_
      | with_reducible refine Jmp.ret ?_
      | with_reducible refine Jmp.exit ?_
      | with_reducible refine Jmp.goto ?_)
    simp only [text, show ¬ 8 < s.size by omega, if_false, encB_append]
    refine FPostR.row (r := 8) ?_ rfl
    simp only [List.length_append, encB_len]
    rfl
theorem Text_calls (Φ) (s : ByteArray) : ACalls Try.prog Φ 25 [.str s] (.sl false 1 (encB (text s))) := (Text_own Φ s).to sz5

def getText (b : List UInt8) : ByteArray × Int :=
  if (getN b 0 0).2 = 0 ∨ (getN b 0 0).1 < 0 ∨ 8 < (getN b 0 0).1 ∨ (b.length : Int) - (getN b 0 0).2 < (getN b 0 0).1 then (⟨#[]⟩, 0)
  else (⟨((b.drop (getN b 0 0).2.toNat).take (getN b 0 0).1.toNat).toArray⟩, (getN b 0 0).2 + (getN b 0 0).1)
theorem getN_used : ∀ (k : Nat) (b : List UInt8) (u used : Nat), 5 - used = k → 0 ≤ (getN b u used).2 ∧ (getN b u used).2 ≤ 5 ∧ (getN b u used).2 ≤ b.length := by
  intro k
  induction k with
  | zero =>
    intro b u used h
    rw [getN, dif_pos (by omega)]
    simp
  | succ k ih =>
    intro b u used h
    rw [getN]
    split
    · simp
    · rename_i hc
      simp only
      split
      · exact ih b _ _ (by omega)
      · split
        · simp
        · split <;> (simp only; omega)
theorem GetText_calls (Φ) (b : List UInt8) : ACalls Try.prog Φ 26 [.sl false 1 (encB b)] (.tup [.str (getText b).1, .int (getText b).2]) := by
  have hm : most = 140737488355328 := rfl
  refine ACallsP.to (ACallsP.stk 39 Try.func26 rfl rfl Try.ntmps26 (by simp) (fun w0 m0 => ?_))
  obtain ⟨hu0, hu5, hub⟩ := getN_used 5 b 0 0 rfl
  generalize hx : (getN b 0 0).1 = x at *
  generalize hy : (getN b 0 0).2 = y at *
  have cl : ACalls Try.prog Φ 24 [.sl false 1 (encB b)] (.tup [.int x, .int y]) := by
    have := GetNum_calls Φ b
    rwa [hx, hy] at this
  refine AStk.len 0 rfl (fun hl => ?_) (by simp)
  rw [encB_len] at hl
  repeat (first
    | with_reducible refine AStk.seq ?_
    | (refine AStk.reg rfl fun K hK => ?_; simp -implicitDefEqProofs only [go_sem, Nat.reduceEqDiff, Nat.reduceAdd, Nat.reduceSub, Nat.reduceMul, Nat.reduceLeDiff, Nat.reduceLT, Nat.reduceBEq, Int.reduceToNat, Int.reduceLE, Int.reduceLT, Int.reduceEq, Int.reduceBEq, Int.reduceNe, Int.reduceNeg, Int.reduceBNe, Int.reduceAdd, Int.reduceSub, Int.reduceMul, reduceCtorEq, reduceIte, Bool.not_true, Bool.not_false]; (first | refine hK _ ?_ | refine ⟨by omega, hK _ ?_⟩ | refine ⟨⟨by omega, by omega⟩, hK _ ?_⟩ | refine ⟨by omega, by omega, hK _ ?_⟩); clear hK K)
    | (refine AStk.drw rfl rfl fun K hK => ?_; simp -implicitDefEqProofs only [go_sem, Nat.reduceEqDiff, Nat.reduceAdd, Nat.reduceSub, Nat.reduceMul, Nat.reduceLeDiff, Nat.reduceLT, Nat.reduceBEq, Int.reduceToNat, Int.reduceLE, Int.reduceLT, Int.reduceEq, Int.reduceBEq, Int.reduceNe, Int.reduceNeg, Int.reduceBNe, Int.reduceAdd, Int.reduceSub, Int.reduceMul, reduceCtorEq, reduceIte, Bool.not_true, Bool.not_false]; refine KD.mk rfl (hK _ ?_); clear hK K)
    | with_reducible refine AStk.block ?_
    | with_reducible refine AStk.skip ?_
    | with_reducible refine AStk.exit ?_
    | with_reducible refine AStk.ret ?_
    | with_reducible refine AStk.nil ?_
    | with_reducible refine Then.exit ?_
    | with_reducible refine Then.ret ?_
    | with_reducible refine Then.normal ?_
    | with_reducible refine Exits.normal ?_
    | with_reducible refine Exits.here ?_
    | with_reducible refine Exits.ret ?_
    | with_reducible refine Exits.there (by decide) ?_
    | refine AStk.condT rfl ?_
    | refine AStk.condF rfl ?_
    | with_reducible refine AStk.goto ?_
    | with_reducible refine Then.goto ?_
    | with_reducible refine Exits.goto ?_
    | with_reducible refine Jmp.normal ?_
    | with_reducible refine Jmp.ret ?_
    | with_reducible refine Jmp.exit ?_
    | with_reducible refine Jmp.goto ?_)
  refine AStk.reg rfl fun K hK => ?_
  simp -implicitDefEqProofs only [go_sem, Nat.reduceEqDiff, Nat.reduceAdd, Nat.reduceSub, Nat.reduceMul, Nat.reduceLeDiff, Nat.reduceLT, Nat.reduceBEq, Int.reduceToNat, Int.reduceLE, Int.reduceLT, Int.reduceEq, Int.reduceBEq, Int.reduceNe, Int.reduceNeg, Int.reduceBNe, Int.reduceAdd, Int.reduceSub, Int.reduceMul, reduceCtorEq, reduceIte, Bool.not_true, Bool.not_false]
  refine KN.mk cl ?_
  simp -implicitDefEqProofs only [go_sem, Nat.reduceEqDiff, Nat.reduceAdd, Nat.reduceSub, Nat.reduceMul, Nat.reduceLeDiff, Nat.reduceLT, Nat.reduceBEq, Int.reduceToNat, Int.reduceLE, Int.reduceLT, Int.reduceEq, Int.reduceBEq, Int.reduceNe, Int.reduceNeg, Int.reduceBNe, Int.reduceAdd, Int.reduceSub, Int.reduceMul, reduceCtorEq, reduceIte, Bool.not_true, Bool.not_false]
  refine hK _ ?_
  clear hK K
  repeat (first
    | with_reducible refine AStk.seq ?_
    | (refine AStk.reg rfl fun K hK => ?_; simp -implicitDefEqProofs only [go_sem, Nat.reduceEqDiff, Nat.reduceAdd, Nat.reduceSub, Nat.reduceMul, Nat.reduceLeDiff, Nat.reduceLT, Nat.reduceBEq, Int.reduceToNat, Int.reduceLE, Int.reduceLT, Int.reduceEq, Int.reduceBEq, Int.reduceNe, Int.reduceNeg, Int.reduceBNe, Int.reduceAdd, Int.reduceSub, Int.reduceMul, reduceCtorEq, reduceIte, Bool.not_true, Bool.not_false]; (first | refine hK _ ?_ | refine ⟨by omega, hK _ ?_⟩ | refine ⟨⟨by omega, by omega⟩, hK _ ?_⟩ | refine ⟨by omega, by omega, hK _ ?_⟩); clear hK K)
    | (refine AStk.drw rfl rfl fun K hK => ?_; simp -implicitDefEqProofs only [go_sem, Nat.reduceEqDiff, Nat.reduceAdd, Nat.reduceSub, Nat.reduceMul, Nat.reduceLeDiff, Nat.reduceLT, Nat.reduceBEq, Int.reduceToNat, Int.reduceLE, Int.reduceLT, Int.reduceEq, Int.reduceBEq, Int.reduceNe, Int.reduceNeg, Int.reduceBNe, Int.reduceAdd, Int.reduceSub, Int.reduceMul, reduceCtorEq, reduceIte, Bool.not_true, Bool.not_false]; refine KD.mk rfl (hK _ ?_); clear hK K)
    | with_reducible refine AStk.block ?_
    | with_reducible refine AStk.skip ?_
    | with_reducible refine AStk.exit ?_
    | with_reducible refine AStk.ret ?_
    | with_reducible refine AStk.nil ?_
    | with_reducible refine Then.exit ?_
    | with_reducible refine Then.ret ?_
    | with_reducible refine Then.normal ?_
    | with_reducible refine Exits.normal ?_
    | with_reducible refine Exits.here ?_
    | with_reducible refine Exits.ret ?_
    | with_reducible refine Exits.there (by decide) ?_
    | refine AStk.condT rfl ?_
    | refine AStk.condF rfl ?_
    | with_reducible refine AStk.goto ?_
    | with_reducible refine Then.goto ?_
    | with_reducible refine Exits.goto ?_
    | with_reducible refine Jmp.normal ?_
    | with_reducible refine Jmp.ret ?_
    | with_reducible refine Jmp.exit ?_
    | with_reducible refine Jmp.goto ?_)
  have gt : ∀ (p : ByteArray × Int), getText b = p → Le (.tup [.str p.1, .int p.2]) (.tup [.str (getText b).1, .int (getText b).2]) := fun p hp => hp ▸ Le.refl _
  by_cases h1 : y = 0
  · have f1 : (y == 0) = true := by simp [h1]
    repeat (first
      | with_reducible refine AStk.seq ?_
      | (refine AStk.reg rfl fun K hK => ?_; simp -implicitDefEqProofs only [go_sem, Nat.reduceEqDiff, Nat.reduceAdd, Nat.reduceSub, Nat.reduceMul, Nat.reduceLeDiff, Nat.reduceLT, Nat.reduceBEq, Int.reduceToNat, Int.reduceLE, Int.reduceLT, Int.reduceEq, Int.reduceBEq, Int.reduceNe, Int.reduceNeg, Int.reduceBNe, Int.reduceAdd, Int.reduceSub, Int.reduceMul, reduceCtorEq, reduceIte, Bool.not_true, Bool.not_false, f1]; (first | refine hK _ ?_ | refine ⟨by omega, hK _ ?_⟩ | refine ⟨⟨by omega, by omega⟩, hK _ ?_⟩ | refine ⟨by omega, by omega, hK _ ?_⟩); clear hK K)
      | (refine AStk.drw rfl rfl fun K hK => ?_; simp -implicitDefEqProofs only [go_sem, Nat.reduceEqDiff, Nat.reduceAdd, Nat.reduceSub, Nat.reduceMul, Nat.reduceLeDiff, Nat.reduceLT, Nat.reduceBEq, Int.reduceToNat, Int.reduceLE, Int.reduceLT, Int.reduceEq, Int.reduceBEq, Int.reduceNe, Int.reduceNeg, Int.reduceBNe, Int.reduceAdd, Int.reduceSub, Int.reduceMul, reduceCtorEq, reduceIte, Bool.not_true, Bool.not_false, f1]; refine KD.mk rfl (hK _ ?_); clear hK K)
      | with_reducible refine AStk.block ?_
      | with_reducible refine AStk.skip ?_
      | with_reducible refine AStk.exit ?_
      | with_reducible refine AStk.ret ?_
      | with_reducible refine AStk.nil ?_
      | with_reducible refine Then.exit ?_
      | with_reducible refine Then.ret ?_
      | with_reducible refine Then.normal ?_
      | with_reducible refine Exits.normal ?_
      | with_reducible refine Exits.here ?_
      | with_reducible refine Exits.ret ?_
      | with_reducible refine Exits.there (by decide) ?_
      | refine AStk.condT rfl ?_
      | refine AStk.condF rfl ?_
      | with_reducible refine AStk.goto ?_
      | with_reducible refine Then.goto ?_
      | with_reducible refine Exits.goto ?_
      | with_reducible refine Jmp.normal ?_
      | with_reducible refine Jmp.ret ?_
      | with_reducible refine Jmp.exit ?_
      | with_reducible refine Jmp.goto ?_)
    refine FPost.ret (rs := #[.tmp 2, .tmp 3]) Try.results26 (by simp -implicitDefEqProofs only [go_sem, Nat.reduceEqDiff, Nat.reduceAdd, Nat.reduceSub, Nat.reduceMul, Nat.reduceLeDiff, Nat.reduceLT, Nat.reduceBEq, Int.reduceToNat, Int.reduceLE, Int.reduceLT, Int.reduceEq, Int.reduceBEq, Int.reduceNe, Int.reduceNeg, Int.reduceBNe, Int.reduceAdd, Int.reduceSub, Int.reduceMul, reduceCtorEq, reduceIte, Bool.not_true, Bool.not_false]; rfl) ?_
    exact gt (⟨#[]⟩, 0) (by unfold getText; rw [hx, hy, if_pos (.inl h1)])
  have f1 : (y == 0) = false := by simp [h1]
  by_cases h2 : x < 0
  · skip
    repeat (first
      | with_reducible refine AStk.seq ?_
      | (refine AStk.reg rfl fun K hK => ?_; simp -implicitDefEqProofs only [go_sem, Nat.reduceEqDiff, Nat.reduceAdd, Nat.reduceSub, Nat.reduceMul, Nat.reduceLeDiff, Nat.reduceLT, Nat.reduceBEq, Int.reduceToNat, Int.reduceLE, Int.reduceLT, Int.reduceEq, Int.reduceBEq, Int.reduceNe, Int.reduceNeg, Int.reduceBNe, Int.reduceAdd, Int.reduceSub, Int.reduceMul, reduceCtorEq, reduceIte, Bool.not_true, Bool.not_false, f1, h2]; (first | refine hK _ ?_ | refine ⟨by omega, hK _ ?_⟩ | refine ⟨⟨by omega, by omega⟩, hK _ ?_⟩ | refine ⟨by omega, by omega, hK _ ?_⟩); clear hK K)
      | (refine AStk.drw rfl rfl fun K hK => ?_; simp -implicitDefEqProofs only [go_sem, Nat.reduceEqDiff, Nat.reduceAdd, Nat.reduceSub, Nat.reduceMul, Nat.reduceLeDiff, Nat.reduceLT, Nat.reduceBEq, Int.reduceToNat, Int.reduceLE, Int.reduceLT, Int.reduceEq, Int.reduceBEq, Int.reduceNe, Int.reduceNeg, Int.reduceBNe, Int.reduceAdd, Int.reduceSub, Int.reduceMul, reduceCtorEq, reduceIte, Bool.not_true, Bool.not_false, f1, h2]; refine KD.mk rfl (hK _ ?_); clear hK K)
      | with_reducible refine AStk.block ?_
      | with_reducible refine AStk.skip ?_
      | with_reducible refine AStk.exit ?_
      | with_reducible refine AStk.ret ?_
      | with_reducible refine AStk.nil ?_
      | with_reducible refine Then.exit ?_
      | with_reducible refine Then.ret ?_
      | with_reducible refine Then.normal ?_
      | with_reducible refine Exits.normal ?_
      | with_reducible refine Exits.here ?_
      | with_reducible refine Exits.ret ?_
      | with_reducible refine Exits.there (by decide) ?_
      | refine AStk.condT rfl ?_
      | refine AStk.condF rfl ?_
      | with_reducible refine AStk.goto ?_
      | with_reducible refine Then.goto ?_
      | with_reducible refine Exits.goto ?_
      | with_reducible refine Jmp.normal ?_
      | with_reducible refine Jmp.ret ?_
      | with_reducible refine Jmp.exit ?_
      | with_reducible refine Jmp.goto ?_)
    refine FPost.ret (rs := #[.tmp 2, .tmp 3]) Try.results26 (by simp -implicitDefEqProofs only [go_sem, Nat.reduceEqDiff, Nat.reduceAdd, Nat.reduceSub, Nat.reduceMul, Nat.reduceLeDiff, Nat.reduceLT, Nat.reduceBEq, Int.reduceToNat, Int.reduceLE, Int.reduceLT, Int.reduceEq, Int.reduceBEq, Int.reduceNe, Int.reduceNeg, Int.reduceBNe, Int.reduceAdd, Int.reduceSub, Int.reduceMul, reduceCtorEq, reduceIte, Bool.not_true, Bool.not_false]; rfl) ?_
    exact gt (⟨#[]⟩, 0) (by unfold getText; rw [hx, hy, if_pos (.inr (.inl h2))])
  by_cases h3 : 8 < x
  · skip
    repeat (first
      | with_reducible refine AStk.seq ?_
      | (refine AStk.reg rfl fun K hK => ?_; simp -implicitDefEqProofs only [go_sem, Nat.reduceEqDiff, Nat.reduceAdd, Nat.reduceSub, Nat.reduceMul, Nat.reduceLeDiff, Nat.reduceLT, Nat.reduceBEq, Int.reduceToNat, Int.reduceLE, Int.reduceLT, Int.reduceEq, Int.reduceBEq, Int.reduceNe, Int.reduceNeg, Int.reduceBNe, Int.reduceAdd, Int.reduceSub, Int.reduceMul, reduceCtorEq, reduceIte, Bool.not_true, Bool.not_false, f1, h2, h3]; (first | refine hK _ ?_ | refine ⟨by omega, hK _ ?_⟩ | refine ⟨⟨by omega, by omega⟩, hK _ ?_⟩ | refine ⟨by omega, by omega, hK _ ?_⟩); clear hK K)
      | (refine AStk.drw rfl rfl fun K hK => ?_; simp -implicitDefEqProofs only [go_sem, Nat.reduceEqDiff, Nat.reduceAdd, Nat.reduceSub, Nat.reduceMul, Nat.reduceLeDiff, Nat.reduceLT, Nat.reduceBEq, Int.reduceToNat, Int.reduceLE, Int.reduceLT, Int.reduceEq, Int.reduceBEq, Int.reduceNe, Int.reduceNeg, Int.reduceBNe, Int.reduceAdd, Int.reduceSub, Int.reduceMul, reduceCtorEq, reduceIte, Bool.not_true, Bool.not_false, f1, h2, h3]; refine KD.mk rfl (hK _ ?_); clear hK K)
      | with_reducible refine AStk.block ?_
      | with_reducible refine AStk.skip ?_
      | with_reducible refine AStk.exit ?_
      | with_reducible refine AStk.ret ?_
      | with_reducible refine AStk.nil ?_
      | with_reducible refine Then.exit ?_
      | with_reducible refine Then.ret ?_
      | with_reducible refine Then.normal ?_
      | with_reducible refine Exits.normal ?_
      | with_reducible refine Exits.here ?_
      | with_reducible refine Exits.ret ?_
      | with_reducible refine Exits.there (by decide) ?_
      | refine AStk.condT rfl ?_
      | refine AStk.condF rfl ?_
      | with_reducible refine AStk.goto ?_
      | with_reducible refine Then.goto ?_
      | with_reducible refine Exits.goto ?_
      | with_reducible refine Jmp.normal ?_
      | with_reducible refine Jmp.ret ?_
      | with_reducible refine Jmp.exit ?_
      | with_reducible refine Jmp.goto ?_)
    refine FPost.ret (rs := #[.tmp 2, .tmp 3]) Try.results26 (by simp -implicitDefEqProofs only [go_sem, Nat.reduceEqDiff, Nat.reduceAdd, Nat.reduceSub, Nat.reduceMul, Nat.reduceLeDiff, Nat.reduceLT, Nat.reduceBEq, Int.reduceToNat, Int.reduceLE, Int.reduceLT, Int.reduceEq, Int.reduceBEq, Int.reduceNe, Int.reduceNeg, Int.reduceBNe, Int.reduceAdd, Int.reduceSub, Int.reduceMul, reduceCtorEq, reduceIte, Bool.not_true, Bool.not_false]; rfl) ?_
    exact gt (⟨#[]⟩, 0) (by unfold getText; rw [hx, hy, if_pos (.inr (.inr (.inl h3)))])
  have e1 : IntKind.i64.wrap ((b.length : Int) - y) = (b.length : Int) - y := i64_in _ (by omega)
  by_cases h4 : (b.length : Int) - y < x
  · skip
    repeat (first
      | with_reducible refine AStk.seq ?_
      | (refine AStk.reg rfl fun K hK => ?_; simp -implicitDefEqProofs only [go_sem, Nat.reduceEqDiff, Nat.reduceAdd, Nat.reduceSub, Nat.reduceMul, Nat.reduceLeDiff, Nat.reduceLT, Nat.reduceBEq, Int.reduceToNat, Int.reduceLE, Int.reduceLT, Int.reduceEq, Int.reduceBEq, Int.reduceNe, Int.reduceNeg, Int.reduceBNe, Int.reduceAdd, Int.reduceSub, Int.reduceMul, reduceCtorEq, reduceIte, Bool.not_true, Bool.not_false, f1, h2, h3, e1, h4]; (first | refine hK _ ?_ | refine ⟨by omega, hK _ ?_⟩ | refine ⟨⟨by omega, by omega⟩, hK _ ?_⟩ | refine ⟨by omega, by omega, hK _ ?_⟩); clear hK K)
      | (refine AStk.drw rfl rfl fun K hK => ?_; simp -implicitDefEqProofs only [go_sem, Nat.reduceEqDiff, Nat.reduceAdd, Nat.reduceSub, Nat.reduceMul, Nat.reduceLeDiff, Nat.reduceLT, Nat.reduceBEq, Int.reduceToNat, Int.reduceLE, Int.reduceLT, Int.reduceEq, Int.reduceBEq, Int.reduceNe, Int.reduceNeg, Int.reduceBNe, Int.reduceAdd, Int.reduceSub, Int.reduceMul, reduceCtorEq, reduceIte, Bool.not_true, Bool.not_false, f1, h2, h3, e1, h4]; refine KD.mk rfl (hK _ ?_); clear hK K)
      | with_reducible refine AStk.block ?_
      | with_reducible refine AStk.skip ?_
      | with_reducible refine AStk.exit ?_
      | with_reducible refine AStk.ret ?_
      | with_reducible refine AStk.nil ?_
      | with_reducible refine Then.exit ?_
      | with_reducible refine Then.ret ?_
      | with_reducible refine Then.normal ?_
      | with_reducible refine Exits.normal ?_
      | with_reducible refine Exits.here ?_
      | with_reducible refine Exits.ret ?_
      | with_reducible refine Exits.there (by decide) ?_
      | refine AStk.condT rfl ?_
      | refine AStk.condF rfl ?_
      | with_reducible refine AStk.goto ?_
      | with_reducible refine Then.goto ?_
      | with_reducible refine Exits.goto ?_
      | with_reducible refine Jmp.normal ?_
      | with_reducible refine Jmp.ret ?_
      | with_reducible refine Jmp.exit ?_
      | with_reducible refine Jmp.goto ?_)
    refine FPost.ret (rs := #[.tmp 2, .tmp 3]) Try.results26 (by simp -implicitDefEqProofs only [go_sem, Nat.reduceEqDiff, Nat.reduceAdd, Nat.reduceSub, Nat.reduceMul, Nat.reduceLeDiff, Nat.reduceLT, Nat.reduceBEq, Int.reduceToNat, Int.reduceLE, Int.reduceLT, Int.reduceEq, Int.reduceBEq, Int.reduceNe, Int.reduceNeg, Int.reduceBNe, Int.reduceAdd, Int.reduceSub, Int.reduceMul, reduceCtorEq, reduceIte, Bool.not_true, Bool.not_false]; rfl) ?_
    exact gt (⟨#[]⟩, 0) (by unfold getText; rw [hx, hy, if_pos (.inr (.inr (.inr h4)))])
  have e2 : IntKind.i64.wrap (y + x) = y + x := i64_in _ (by omega)
  have e3 : y + x - y = x := by omega
  have h5 : y ≤ y + x := by omega
  have h6 : y + x ≤ (b.length : Int) := by omega
  repeat (first
    | with_reducible refine AStk.seq ?_
    | (refine AStk.reg rfl fun K hK => ?_; simp -implicitDefEqProofs only [go_sem, Nat.reduceEqDiff, Nat.reduceAdd, Nat.reduceSub, Nat.reduceMul, Nat.reduceLeDiff, Nat.reduceLT, Nat.reduceBEq, Int.reduceToNat, Int.reduceLE, Int.reduceLT, Int.reduceEq, Int.reduceBEq, Int.reduceNe, Int.reduceNeg, Int.reduceBNe, Int.reduceAdd, Int.reduceSub, Int.reduceMul, reduceCtorEq, reduceIte, Bool.not_true, Bool.not_false, f1, h2, h3, e1, h4, e2, hu0, e3, h5, h6, Bool.false_and]; (first | refine hK _ ?_ | refine ⟨by omega, hK _ ?_⟩ | refine ⟨⟨by omega, by omega⟩, hK _ ?_⟩ | refine ⟨by omega, by omega, hK _ ?_⟩); clear hK K)
    | (refine AStk.drw rfl rfl fun K hK => ?_; simp -implicitDefEqProofs only [go_sem, Nat.reduceEqDiff, Nat.reduceAdd, Nat.reduceSub, Nat.reduceMul, Nat.reduceLeDiff, Nat.reduceLT, Nat.reduceBEq, Int.reduceToNat, Int.reduceLE, Int.reduceLT, Int.reduceEq, Int.reduceBEq, Int.reduceNe, Int.reduceNeg, Int.reduceBNe, Int.reduceAdd, Int.reduceSub, Int.reduceMul, reduceCtorEq, reduceIte, Bool.not_true, Bool.not_false, f1, h2, h3, e1, h4, e2, hu0, e3, h5, h6, Bool.false_and]; refine KD.mk rfl (hK _ ?_); clear hK K)
    | with_reducible refine AStk.block ?_
    | with_reducible refine AStk.skip ?_
    | with_reducible refine AStk.exit ?_
    | with_reducible refine AStk.ret ?_
    | with_reducible refine AStk.nil ?_
    | with_reducible refine Then.exit ?_
    | with_reducible refine Then.ret ?_
    | with_reducible refine Then.normal ?_
    | with_reducible refine Exits.normal ?_
    | with_reducible refine Exits.here ?_
    | with_reducible refine Exits.ret ?_
    | with_reducible refine Exits.there (by decide) ?_
    | refine AStk.condT rfl ?_
    | refine AStk.condF rfl ?_
    | with_reducible refine AStk.goto ?_
    | with_reducible refine Then.goto ?_
    | with_reducible refine Exits.goto ?_
    | with_reducible refine Jmp.normal ?_
    | with_reducible refine Jmp.ret ?_
    | with_reducible refine Jmp.exit ?_
    | with_reducible refine Jmp.goto ?_)
  refine FPost.ret (rs := #[.tmp 2, .tmp 3]) Try.results26 (by simp -implicitDefEqProofs only [go_sem, Nat.reduceEqDiff, Nat.reduceAdd, Nat.reduceSub, Nat.reduceMul, Nat.reduceLeDiff, Nat.reduceLT, Nat.reduceBEq, Int.reduceToNat, Int.reduceLE, Int.reduceLT, Int.reduceEq, Int.reduceBEq, Int.reduceNe, Int.reduceNeg, Int.reduceBNe, Int.reduceAdd, Int.reduceSub, Int.reduceMul, reduceCtorEq, reduceIte, Bool.not_true, Bool.not_false]; rfl) ?_
  exact gt (⟨((b.drop y.toNat).take x.toNat).toArray⟩, y + x) (by unfold getText; rw [hx, hy, if_neg (by omega)])
end Go.Va.Try
set_option autoImplicit false
set_option linter.unusedVariables false
set_option linter.unusedSimpArgs false
namespace Go.Va.Try
open Go Go.Va Go.Proofs Go.IntWalk

def crc1 (s : Int) : Int := if iand .u32 s 1 == 1 then ixor .u32 (s.fdiv (2 ^ min 1 32)) 3988292384 else s.fdiv (2 ^ min 1 32)
def crcN : Nat → Int → Int
  | 0, s => s
  | n + 1, s => crc1 (crcN n s)
def crcB (s : Int) (b : UInt8) : Int := crcN 8 (ixor .u32 s (IntKind.u32.wrap b.toNat))
def crc (b : List UInt8) : Int := ixor .u32 4294967295 (b.foldl crcB 4294967295)

theorem Sum_calls (Φ) (b : List UInt8) : ACalls Try.prog Φ 83 [.sl false 1 (encB b)] (.lit (.int .u32 (crc b))) := by
  refine ACallsP.to (ACallsP.stk 31 Try.func83 rfl rfl Try.ntmps83 (by simp) (fun w0 m0 => ?_))
  repeat (first
    | with_reducible refine AStk.seq ?_
    | (refine AStk.reg rfl fun K hK => ?_; simp -implicitDefEqProofs only [go_sem, Nat.reduceEqDiff, Nat.reduceAdd, Nat.reduceSub, Nat.reduceMul, Nat.reduceLeDiff, Nat.reduceLT, Nat.reduceBEq, Int.reduceToNat, Int.reduceLE, Int.reduceLT, Int.reduceEq, Int.reduceBEq, Int.reduceNe, Int.reduceNeg, Int.reduceBNe, Int.reduceAdd, Int.reduceSub, Int.reduceMul, reduceCtorEq, reduceIte, Bool.not_true, Bool.not_false]; (first | refine hK _ ?_ | refine ⟨by omega, hK _ ?_⟩ | refine ⟨⟨by omega, by omega⟩, hK _ ?_⟩ | refine ⟨by omega, by omega, hK _ ?_⟩); clear hK K)
    | (refine AStk.drw rfl rfl fun K hK => ?_; simp -implicitDefEqProofs only [go_sem, Nat.reduceEqDiff, Nat.reduceAdd, Nat.reduceSub, Nat.reduceMul, Nat.reduceLeDiff, Nat.reduceLT, Nat.reduceBEq, Int.reduceToNat, Int.reduceLE, Int.reduceLT, Int.reduceEq, Int.reduceBEq, Int.reduceNe, Int.reduceNeg, Int.reduceBNe, Int.reduceAdd, Int.reduceSub, Int.reduceMul, reduceCtorEq, reduceIte, Bool.not_true, Bool.not_false]; refine KD.mk rfl (hK _ ?_); clear hK K)
    | with_reducible refine AStk.block ?_
    | with_reducible refine AStk.skip ?_
    | with_reducible refine AStk.exit ?_
    | with_reducible refine AStk.ret ?_
    | with_reducible refine AStk.nil ?_
    | with_reducible refine Then.exit ?_
    | with_reducible refine Then.ret ?_
    | with_reducible refine Then.normal ?_
    | with_reducible refine Exits.normal ?_
    | with_reducible refine Exits.here ?_
    | with_reducible refine Exits.ret ?_
    | with_reducible refine Exits.there (by decide) ?_
    | refine AStk.condT rfl ?_
    | refine AStk.condF rfl ?_
    | with_reducible refine AStk.goto ?_
    | with_reducible refine Then.goto ?_
    | with_reducible refine Exits.goto ?_
    | with_reducible refine Jmp.normal ?_
    | with_reducible refine Jmp.ret ?_
    | with_reducible refine Jmp.exit ?_
    | with_reducible refine Jmp.goto ?_)
  refine AStk.len 7 rfl (fun hl => ?_) (by simp)
  rw [encB_len] at hl
  have hm : most = 140737488355328 := rfl
  refine AStk.loop ?_
  refine ALoop.ind (fun k : Nat => { env := [(3, .lit (.int .u32 ((b.take k).foldl crcB 4294967295))), (7, .sl false 1 (encB b)), (8, .int b.length), (9, .int k)], box := [], row := [] }) (fun k => k ≤ b.length) (fun k => b.length - k) 0 (by simp) ?_ ?_
  · refine Weak.of ?_ ?_ ?_ ?_ ?_ <;> simp [get_cons, refOk, Le.refl]
  intro k hk K1 hK1
  by_cases h1 : (k : Int) < b.length
  · have hk2 : k < b.length := by omega
    have f0 : b[k]? = some b[k] := List.getElem?_eq_getElem hk2
    repeat (first
      | with_reducible refine AStk.seq ?_
      | (refine AStk.reg rfl fun K hK => ?_; simp -implicitDefEqProofs only [go_sem, Nat.reduceEqDiff, Nat.reduceAdd, Nat.reduceSub, Nat.reduceMul, Nat.reduceLeDiff, Nat.reduceLT, Nat.reduceBEq, Int.reduceToNat, Int.reduceLE, Int.reduceLT, Int.reduceEq, Int.reduceBEq, Int.reduceNe, Int.reduceNeg, Int.reduceBNe, Int.reduceAdd, Int.reduceSub, Int.reduceMul, reduceCtorEq, reduceIte, Bool.not_true, Bool.not_false, h1, f0]; (first | refine hK _ ?_ | refine ⟨by omega, hK _ ?_⟩ | refine ⟨⟨by omega, by omega⟩, hK _ ?_⟩ | refine ⟨by omega, by omega, hK _ ?_⟩); clear hK K)
      | (refine AStk.drw rfl rfl fun K hK => ?_; simp -implicitDefEqProofs only [go_sem, Nat.reduceEqDiff, Nat.reduceAdd, Nat.reduceSub, Nat.reduceMul, Nat.reduceLeDiff, Nat.reduceLT, Nat.reduceBEq, Int.reduceToNat, Int.reduceLE, Int.reduceLT, Int.reduceEq, Int.reduceBEq, Int.reduceNe, Int.reduceNeg, Int.reduceBNe, Int.reduceAdd, Int.reduceSub, Int.reduceMul, reduceCtorEq, reduceIte, Bool.not_true, Bool.not_false, h1, f0]; refine KD.mk rfl (hK _ ?_); clear hK K)
      | with_reducible refine AStk.block ?_
      | with_reducible refine AStk.skip ?_
      | with_reducible refine AStk.exit ?_
      | with_reducible refine AStk.ret ?_
      | with_reducible refine AStk.nil ?_
      | with_reducible refine Then.exit ?_
      | with_reducible refine Then.ret ?_
      | with_reducible refine Then.normal ?_
      | with_reducible refine Exits.normal ?_
      | with_reducible refine Exits.here ?_
      | with_reducible refine Exits.ret ?_
      | with_reducible refine Exits.there (by decide) ?_
      | refine AStk.condT rfl ?_
      | refine AStk.condF rfl ?_
      | with_reducible refine AStk.goto ?_
      | with_reducible refine Then.goto ?_
      | with_reducible refine Exits.goto ?_
      | with_reducible refine Jmp.normal ?_
      | with_reducible refine Jmp.ret ?_
      | with_reducible refine Jmp.exit ?_
      | with_reducible refine Jmp.goto ?_)
    refine AStk.loop ?_
    refine ALoop.ind (fun j : Nat => { env := [(3, .lit (.int .u32 (crcN j (ixor .u32 ((b.take k).foldl crcB 4294967295) (IntKind.u32.wrap b[k].toNat))))), (7, .sl false 1 (encB b)), (8, .int b.length), (9, .int k), (17, .int j)], box := [], row := [] }) (fun j => j ≤ 8) (fun j => 8 - j) 0 (by simp) ?_ ?_
    · refine Weak.of ?_ ?_ ?_ ?_ ?_ <;> simp [get_cons, refOk, Le.refl, crcN]
    intro j hj K2 hK2
    have e7 : IntKind.i64.wrap ((j : Int) + 1) = ((j + 1 : Nat) : Int) := by rw [i64_in _ (by omega)]; simp
    by_cases h2 : (j : Int) < 8
    · generalize hs : crcN j (ixor .u32 ((b.take k).foldl crcB 4294967295) (IntKind.u32.wrap b[k].toNat)) = s0
      have hn : crcN (j + 1) (ixor .u32 ((b.take k).foldl crcB 4294967295) (IntKind.u32.wrap b[k].toNat)) = crc1 s0 := by rw [← hs]; rfl
      cases h3 : (iand .u32 s0 1 == 1)
      all_goals
        repeat (first
          | with_reducible refine AStk.seq ?_
          | (refine AStk.reg rfl fun K hK => ?_; simp -implicitDefEqProofs only [go_sem, Nat.reduceEqDiff, Nat.reduceAdd, Nat.reduceSub, Nat.reduceMul, Nat.reduceLeDiff, Nat.reduceLT, Nat.reduceBEq, Int.reduceToNat, Int.reduceLE, Int.reduceLT, Int.reduceEq, Int.reduceBEq, Int.reduceNe, Int.reduceNeg, Int.reduceBNe, Int.reduceAdd, Int.reduceSub, Int.reduceMul, reduceCtorEq, reduceIte, Bool.not_true, Bool.not_false, h2, h3, e7]; (first | refine hK _ ?_ | refine ⟨by omega, hK _ ?_⟩ | refine ⟨⟨by omega, by omega⟩, hK _ ?_⟩ | refine ⟨by omega, by omega, hK _ ?_⟩); clear hK K)
          | (refine AStk.drw rfl rfl fun K hK => ?_; simp -implicitDefEqProofs only [go_sem, Nat.reduceEqDiff, Nat.reduceAdd, Nat.reduceSub, Nat.reduceMul, Nat.reduceLeDiff, Nat.reduceLT, Nat.reduceBEq, Int.reduceToNat, Int.reduceLE, Int.reduceLT, Int.reduceEq, Int.reduceBEq, Int.reduceNe, Int.reduceNeg, Int.reduceBNe, Int.reduceAdd, Int.reduceSub, Int.reduceMul, reduceCtorEq, reduceIte, Bool.not_true, Bool.not_false, h2, h3, e7]; refine KD.mk rfl (hK _ ?_); clear hK K)
          | with_reducible refine AStk.block ?_
          | with_reducible refine AStk.skip ?_
          | with_reducible refine AStk.exit ?_
          | with_reducible refine AStk.ret ?_
          | with_reducible refine AStk.nil ?_
          | with_reducible refine Then.exit ?_
          | with_reducible refine Then.ret ?_
          | with_reducible refine Then.normal ?_
          | with_reducible refine Exits.normal ?_
          | with_reducible refine Exits.here ?_
          | with_reducible refine Exits.ret ?_
          | with_reducible refine Exits.there (by decide) ?_
          | refine AStk.condT rfl ?_
          | refine AStk.condF rfl ?_
          | with_reducible refine AStk.goto ?_
          | with_reducible refine Then.goto ?_
          | with_reducible refine Exits.goto ?_
          | with_reducible refine Jmp.normal ?_
          | with_reducible refine Jmp.ret ?_
          | with_reducible refine Jmp.exit ?_
          | with_reducible refine Jmp.goto ?_)
        refine hK2 (j + 1) _ (by omega) (by omega) ?_
        rw [hn]
        refine Weak.of ?_ ?_ ?_ ?_ ?_ <;> simp [get_cons, refOk, Le.refl, crc1, h3]
    · have hj8 : j = 8 := by omega
      subst hj8
      have e8 : IntKind.i64.wrap ((k : Int) + 1) = ((k + 1 : Nat) : Int) := by rw [i64_in _ (by omega)]; simp
      repeat (first
        | with_reducible refine AStk.seq ?_
        | (refine AStk.reg rfl fun K hK => ?_; simp -implicitDefEqProofs only [go_sem, Nat.reduceEqDiff, Nat.reduceAdd, Nat.reduceSub, Nat.reduceMul, Nat.reduceLeDiff, Nat.reduceLT, Nat.reduceBEq, Int.reduceToNat, Int.reduceLE, Int.reduceLT, Int.reduceEq, Int.reduceBEq, Int.reduceNe, Int.reduceNeg, Int.reduceBNe, Int.reduceAdd, Int.reduceSub, Int.reduceMul, reduceCtorEq, reduceIte, Bool.not_true, Bool.not_false, h2, e8]; (first | refine hK _ ?_ | refine ⟨by omega, hK _ ?_⟩ | refine ⟨⟨by omega, by omega⟩, hK _ ?_⟩ | refine ⟨by omega, by omega, hK _ ?_⟩); clear hK K)
        | (refine AStk.drw rfl rfl fun K hK => ?_; simp -implicitDefEqProofs only [go_sem, Nat.reduceEqDiff, Nat.reduceAdd, Nat.reduceSub, Nat.reduceMul, Nat.reduceLeDiff, Nat.reduceLT, Nat.reduceBEq, Int.reduceToNat, Int.reduceLE, Int.reduceLT, Int.reduceEq, Int.reduceBEq, Int.reduceNe, Int.reduceNeg, Int.reduceBNe, Int.reduceAdd, Int.reduceSub, Int.reduceMul, reduceCtorEq, reduceIte, Bool.not_true, Bool.not_false, h2, e8]; refine KD.mk rfl (hK _ ?_); clear hK K)
        | with_reducible refine AStk.block ?_
        | with_reducible refine AStk.skip ?_
        | with_reducible refine AStk.exit ?_
        | with_reducible refine AStk.ret ?_
        | with_reducible refine AStk.nil ?_
        | with_reducible refine Then.exit ?_
        | with_reducible refine Then.ret ?_
        | with_reducible refine Then.normal ?_
        | with_reducible refine Exits.normal ?_
        | with_reducible refine Exits.here ?_
        | with_reducible refine Exits.ret ?_
        | with_reducible refine Exits.there (by decide) ?_
        | refine AStk.condT rfl ?_
        | refine AStk.condF rfl ?_
        | with_reducible refine AStk.goto ?_
        | with_reducible refine Then.goto ?_
        | with_reducible refine Exits.goto ?_
        | with_reducible refine Jmp.normal ?_
        | with_reducible refine Jmp.ret ?_
        | with_reducible refine Jmp.exit ?_
        | with_reducible refine Jmp.goto ?_)
      refine hK1 (k + 1) _ (by omega) (by omega) ?_
      have hn : (b.take (k + 1)).foldl crcB 4294967295 = crcN 8 (ixor .u32 ((b.take k).foldl crcB 4294967295) (IntKind.u32.wrap b[k].toNat)) := by
        rw [List.take_succ_eq_append_getElem hk2, List.foldl_append]; rfl
      rw [hn]
      refine Weak.of ?_ ?_ ?_ ?_ ?_ <;> simp [get_cons, refOk, Le.refl]
  · have hk2 : k = b.length := by omega
    subst hk2
    repeat (first
      | with_reducible refine AStk.seq ?_
      | (refine AStk.reg rfl fun K hK => ?_; simp -implicitDefEqProofs only [go_sem, Nat.reduceEqDiff, Nat.reduceAdd, Nat.reduceSub, Nat.reduceMul, Nat.reduceLeDiff, Nat.reduceLT, Nat.reduceBEq, Int.reduceToNat, Int.reduceLE, Int.reduceLT, Int.reduceEq, Int.reduceBEq, Int.reduceNe, Int.reduceNeg, Int.reduceBNe, Int.reduceAdd, Int.reduceSub, Int.reduceMul, reduceCtorEq, reduceIte, Bool.not_true, Bool.not_false, h1]; (first | refine hK _ ?_ | refine ⟨by omega, hK _ ?_⟩ | refine ⟨⟨by omega, by omega⟩, hK _ ?_⟩ | refine ⟨by omega, by omega, hK _ ?_⟩); clear hK K)
      | (refine AStk.drw rfl rfl fun K hK => ?_; simp -implicitDefEqProofs only [go_sem, Nat.reduceEqDiff, Nat.reduceAdd, Nat.reduceSub, Nat.reduceMul, Nat.reduceLeDiff, Nat.reduceLT, Nat.reduceBEq, Int.reduceToNat, Int.reduceLE, Int.reduceLT, Int.reduceEq, Int.reduceBEq, Int.reduceNe, Int.reduceNeg, Int.reduceBNe, Int.reduceAdd, Int.reduceSub, Int.reduceMul, reduceCtorEq, reduceIte, Bool.not_true, Bool.not_false, h1]; refine KD.mk rfl (hK _ ?_); clear hK K)
      | with_reducible refine AStk.block ?_
      | with_reducible refine AStk.skip ?_
      | with_reducible refine AStk.exit ?_
      | with_reducible refine AStk.ret ?_
      | with_reducible refine AStk.nil ?_
      | with_reducible refine Then.exit ?_
      | with_reducible refine Then.ret ?_
      | with_reducible refine Then.normal ?_
      | with_reducible refine Exits.normal ?_
      | with_reducible refine Exits.here ?_
      | with_reducible refine Exits.ret ?_
      | with_reducible refine Exits.there (by decide) ?_
      | refine AStk.condT rfl ?_
      | refine AStk.condF rfl ?_
      | with_reducible refine AStk.goto ?_
      | with_reducible refine Then.goto ?_
      | with_reducible refine Exits.goto ?_
      | with_reducible refine Jmp.normal ?_
      | with_reducible refine Jmp.ret ?_
      | with_reducible refine Jmp.exit ?_
      | with_reducible refine Jmp.goto ?_)
    refine FPost.ret (rs := #[.tmp 2]) Try.results83 (by simp -implicitDefEqProofs only [go_sem, Nat.reduceEqDiff, Nat.reduceAdd, Nat.reduceSub, Nat.reduceMul, Nat.reduceLeDiff, Nat.reduceLT, Nat.reduceBEq, Int.reduceToNat, Int.reduceLE, Int.reduceLT, Int.reduceEq, Int.reduceBEq, Int.reduceNe, Int.reduceNeg, Int.reduceBNe, Int.reduceAdd, Int.reduceSub, Int.reduceMul, reduceCtorEq, reduceIte, Bool.not_true, Bool.not_false]; rfl) ?_
    rw [List.take_length]
    exact Le.refl _
end Go.Va.Try
set_option autoImplicit false
set_option linter.unusedVariables false
set_option linter.unusedSimpArgs false
namespace Go.Va.Try
open Go Go.Va Go.Proofs Go.IntWalk

def byteOf (n : Int) : UInt8 := UInt8.ofNat (IntKind.u8.wrap n).toNat
theorem byteOf_eq (n : Int) : IntKind.u8.wrap n = ((byteOf n).toNat : Int) := by
  have h : 0 ≤ IntKind.u8.wrap n ∧ IntKind.u8.wrap n < 256 := by rw [IntKind.wrap_u8]; omega
  unfold byteOf
  generalize IntKind.u8.wrap n = m at h
  simp
  omega
def tail4 (s : Int) : List UInt8 := [byteOf s, byteOf (s.fdiv (2 ^ min 8 32)), byteOf (s.fdiv (2 ^ min 16 32)), byteOf (s.fdiv (2 ^ min 24 32))]
def sealOf (b : List UInt8) : List UInt8 := b ++ tail4 (crc b)

theorem encB_tail4 (s : Int) : encB (tail4 s) = [[AVal.lit (.int .u8 (IntKind.u8.wrap s))], [AVal.lit (.int .u8 (IntKind.u8.wrap (s.fdiv (2 ^ min 8 32))))], [AVal.lit (.int .u8 (IntKind.u8.wrap (s.fdiv (2 ^ min 16 32))))], [AVal.lit (.int .u8 (IntKind.u8.wrap (s.fdiv (2 ^ min 24 32))))]] := by
  rw [byteOf_eq, byteOf_eq, byteOf_eq, byteOf_eq]; rfl
theorem Seal_calls (Φ) (b : List UInt8) (hb : b.length ≤ 1000000) : ACalls Try.prog Φ 28 [.sl false 1 (encB b)] (.sl false 1 (encB (sealOf b))) := by
  have hm : most = 140737488355328 := rfl
  refine ACallsP.to (ACallsP.stk 24 Try.func28 rfl rfl Try.ntmps28 (by simp) (fun w0 m0 => ?_))
  repeat (first
    | with_reducible refine AStk.seq ?_
    | (refine AStk.reg rfl fun K hK => ?_; simp -implicitDefEqProofs only [go_sem, Nat.reduceEqDiff, Nat.reduceAdd, Nat.reduceSub, Nat.reduceMul, Nat.reduceLeDiff, Nat.reduceLT, Nat.reduceBEq, Int.reduceToNat, Int.reduceLE, Int.reduceLT, Int.reduceEq, Int.reduceBEq, Int.reduceNe, Int.reduceNeg, Int.reduceBNe, Int.reduceAdd, Int.reduceSub, Int.reduceMul, reduceCtorEq, reduceIte, Bool.not_true, Bool.not_false]; (first | refine hK _ ?_ | refine ⟨by omega, hK _ ?_⟩ | refine ⟨⟨by omega, by omega⟩, hK _ ?_⟩ | refine ⟨by omega, by omega, hK _ ?_⟩); clear hK K)
    | (refine AStk.drw rfl rfl fun K hK => ?_; simp -implicitDefEqProofs only [go_sem, Nat.reduceEqDiff, Nat.reduceAdd, Nat.reduceSub, Nat.reduceMul, Nat.reduceLeDiff, Nat.reduceLT, Nat.reduceBEq, Int.reduceToNat, Int.reduceLE, Int.reduceLT, Int.reduceEq, Int.reduceBEq, Int.reduceNe, Int.reduceNeg, Int.reduceBNe, Int.reduceAdd, Int.reduceSub, Int.reduceMul, reduceCtorEq, reduceIte, Bool.not_true, Bool.not_false]; refine KD.mk rfl (hK _ ?_); clear hK K)
    | with_reducible refine AStk.block ?_
    | with_reducible refine AStk.skip ?_
    | with_reducible refine AStk.exit ?_
    | with_reducible refine AStk.ret ?_
    | with_reducible refine AStk.nil ?_
    | with_reducible refine Then.exit ?_
    | with_reducible refine Then.ret ?_
    | with_reducible refine Then.normal ?_
    | with_reducible refine Exits.normal ?_
    | with_reducible refine Exits.here ?_
    | with_reducible refine Exits.ret ?_
    | with_reducible refine Exits.there (by decide) ?_
    | refine AStk.condT rfl ?_
    | refine AStk.condF rfl ?_
    | with_reducible refine AStk.goto ?_
    | with_reducible refine Then.goto ?_
    | with_reducible refine Exits.goto ?_
    | with_reducible refine Jmp.normal ?_
    | with_reducible refine Jmp.ret ?_
    | with_reducible refine Jmp.exit ?_
    | with_reducible refine Jmp.goto ?_)
  refine AStk.reg rfl fun K hK => ?_
  simp -implicitDefEqProofs only [go_sem, Nat.reduceEqDiff, Nat.reduceAdd, Nat.reduceSub, Nat.reduceMul, Nat.reduceLeDiff, Nat.reduceLT, Nat.reduceBEq, Int.reduceToNat, Int.reduceLE, Int.reduceLT, Int.reduceEq, Int.reduceBEq, Int.reduceNe, Int.reduceNeg, Int.reduceBNe, Int.reduceAdd, Int.reduceSub, Int.reduceMul, reduceCtorEq, reduceIte, Bool.not_true, Bool.not_false]
  refine KN.mk (Sum_calls Φ b) ?_
  simp -implicitDefEqProofs only [go_sem, Nat.reduceEqDiff, Nat.reduceAdd, Nat.reduceSub, Nat.reduceMul, Nat.reduceLeDiff, Nat.reduceLT, Nat.reduceBEq, Int.reduceToNat, Int.reduceLE, Int.reduceLT, Int.reduceEq, Int.reduceBEq, Int.reduceNe, Int.reduceNeg, Int.reduceBNe, Int.reduceAdd, Int.reduceSub, Int.reduceMul, reduceCtorEq, reduceIte, Bool.not_true, Bool.not_false]
  refine hK _ ?_
  clear hK K
  repeat (first
    | with_reducible refine AStk.seq ?_
    | (refine AStk.reg rfl fun K hK => ?_; simp -implicitDefEqProofs only [go_sem, Nat.reduceEqDiff, Nat.reduceAdd, Nat.reduceSub, Nat.reduceMul, Nat.reduceLeDiff, Nat.reduceLT, Nat.reduceBEq, Int.reduceToNat, Int.reduceLE, Int.reduceLT, Int.reduceEq, Int.reduceBEq, Int.reduceNe, Int.reduceNeg, Int.reduceBNe, Int.reduceAdd, Int.reduceSub, Int.reduceMul, reduceCtorEq, reduceIte, Bool.not_true, Bool.not_false]; (first | refine hK _ ?_ | refine ⟨by omega, hK _ ?_⟩ | refine ⟨⟨by omega, by omega⟩, hK _ ?_⟩ | refine ⟨by omega, by omega, hK _ ?_⟩); clear hK K)
    | (refine AStk.drw rfl rfl fun K hK => ?_; simp -implicitDefEqProofs only [go_sem, Nat.reduceEqDiff, Nat.reduceAdd, Nat.reduceSub, Nat.reduceMul, Nat.reduceLeDiff, Nat.reduceLT, Nat.reduceBEq, Int.reduceToNat, Int.reduceLE, Int.reduceLT, Int.reduceEq, Int.reduceBEq, Int.reduceNe, Int.reduceNeg, Int.reduceBNe, Int.reduceAdd, Int.reduceSub, Int.reduceMul, reduceCtorEq, reduceIte, Bool.not_true, Bool.not_false]; refine KD.mk rfl (hK _ ?_); clear hK K)
    | with_reducible refine AStk.block ?_
    | with_reducible refine AStk.skip ?_
    | with_reducible refine AStk.exit ?_
    | with_reducible refine AStk.ret ?_
    | with_reducible refine AStk.nil ?_
    | with_reducible refine Then.exit ?_
    | with_reducible refine Then.ret ?_
    | with_reducible refine Then.normal ?_
    | with_reducible refine Exits.normal ?_
    | with_reducible refine Exits.here ?_
    | with_reducible refine Exits.ret ?_
    | with_reducible refine Exits.there (by decide) ?_
    | refine AStk.condT rfl ?_
    | refine AStk.condF rfl ?_
    | with_reducible refine AStk.goto ?_
    | with_reducible refine Then.goto ?_
    | with_reducible refine Exits.goto ?_
    | with_reducible refine Jmp.normal ?_
    | with_reducible refine Jmp.ret ?_
    | with_reducible refine Jmp.exit ?_
    | with_reducible refine Jmp.goto ?_)
  repeat (first
    | with_reducible refine AStk.seq ?_
    | (refine AStk.reg rfl fun K hK => ?_; simp -implicitDefEqProofs only [go_sem, Nat.reduceEqDiff, Nat.reduceAdd, Nat.reduceSub, Nat.reduceMul, Nat.reduceLeDiff, Nat.reduceLT, Nat.reduceBEq, Int.reduceToNat, Int.reduceLE, Int.reduceLT, Int.reduceEq, Int.reduceBEq, Int.reduceNe, Int.reduceNeg, Int.reduceBNe, Int.reduceAdd, Int.reduceSub, Int.reduceMul, reduceCtorEq, reduceIte, Bool.not_true, Bool.not_false, byteOf_eq]; (first | refine hK _ ?_ | refine ⟨by omega, hK _ ?_⟩ | refine ⟨⟨by omega, by omega⟩, hK _ ?_⟩ | refine ⟨by omega, by omega, hK _ ?_⟩); clear hK K)
    | (refine AStk.drw rfl rfl fun K hK => ?_; simp -implicitDefEqProofs only [go_sem, Nat.reduceEqDiff, Nat.reduceAdd, Nat.reduceSub, Nat.reduceMul, Nat.reduceLeDiff, Nat.reduceLT, Nat.reduceBEq, Int.reduceToNat, Int.reduceLE, Int.reduceLT, Int.reduceEq, Int.reduceBEq, Int.reduceNe, Int.reduceNeg, Int.reduceBNe, Int.reduceAdd, Int.reduceSub, Int.reduceMul, reduceCtorEq, reduceIte, Bool.not_true, Bool.not_false, byteOf_eq]; refine KD.mk rfl (hK _ ?_); clear hK K)
    | with_reducible refine AStk.block ?_
    | with_reducible refine AStk.skip ?_
    | with_reducible refine AStk.exit ?_
    | with_reducible refine AStk.ret ?_
    | with_reducible refine AStk.nil ?_
    | with_reducible refine Then.exit ?_
    | with_reducible refine Then.ret ?_
    | with_reducible refine Then.normal ?_
    | with_reducible refine Exits.normal ?_
    | with_reducible refine Exits.here ?_
    | with_reducible refine Exits.ret ?_
    | with_reducible refine Exits.there (by decide) ?_
    | refine AStk.condT rfl ?_
    | refine AStk.condF rfl ?_
    | with_reducible refine AStk.goto ?_
    | with_reducible refine Then.goto ?_
    | with_reducible refine Exits.goto ?_
    | with_reducible refine Jmp.normal ?_
    | with_reducible refine Jmp.ret ?_
    | with_reducible refine Jmp.exit ?_
    | with_reducible refine Jmp.goto ?_)
  refine FPost.ret (rs := #[.tmp 2]) Try.results28 (by simp -implicitDefEqProofs only [go_sem, Nat.reduceEqDiff, Nat.reduceAdd, Nat.reduceSub, Nat.reduceMul, Nat.reduceLeDiff, Nat.reduceLT, Nat.reduceBEq, Int.reduceToNat, Int.reduceLE, Int.reduceLT, Int.reduceEq, Int.reduceBEq, Int.reduceNe, Int.reduceNeg, Int.reduceBNe, Int.reduceAdd, Int.reduceSub, Int.reduceMul, reduceCtorEq, reduceIte, Bool.not_true, Bool.not_false]; rfl) ?_
  rw [List.take_of_length_le (by simp [encB])]
  have : encB (sealOf b) = encB b ++ encB (tail4 (crc b)) := encB_append _ _
  rw [this, encB_tail4]
  exact Le.refl _
end Go.Va.Try
set_option autoImplicit false
set_option linter.unusedVariables false
set_option linter.unusedSimpArgs false
namespace Go.Va.Try
open Go Go.Va Go.Proofs Go.IntWalk

/-- What was sealed is open. -/
theorem Open_calls (Φ) (b : List UInt8) (hb : b.length ≤ 100000) : ACalls Try.prog Φ 27 [.sl false 1 (encB (sealOf b))] (.tup [.sl false 1 (encB b), .lit .nilIface]) := by
  have hm : most = 140737488355328 := rfl
  refine ACallsP.to (ACallsP.stk 25 Try.func27 rfl rfl Try.ntmps27 (by simp) (fun w0 m0 => ?_))
  have hl : (sealOf b).length = b.length + 4 := by simp [sealOf, tail4]
  have e1 : IntKind.i64.wrap (((b.length + 4 : Nat) : Int) - 4) = (b.length : Int) := by rw [i64_in _ (by omega)]; omega
  have h1 : ¬ ((b.length : Int) < 0) := by omega
  have h2 : ((b.length : Int) ≤ ((b.length + 4 : Nat) : Int)) := by omega
  have e2 : ((b.length : Int) - 0).toNat = b.length := by omega
  have e3 : (sealOf b).take b.length = b := by simp [sealOf]
  repeat (first
    | with_reducible refine AStk.seq ?_
    | (refine AStk.reg rfl fun K hK => ?_; simp -implicitDefEqProofs only [go_sem, Nat.reduceEqDiff, Nat.reduceAdd, Nat.reduceSub, Nat.reduceMul, Nat.reduceLeDiff, Nat.reduceLT, Nat.reduceBEq, Int.reduceToNat, Int.reduceLE, Int.reduceLT, Int.reduceEq, Int.reduceBEq, Int.reduceNe, Int.reduceNeg, Int.reduceBNe, Int.reduceAdd, Int.reduceSub, Int.reduceMul, reduceCtorEq, reduceIte, Bool.not_true, Bool.not_false, hl, e1, h1]; (first | refine hK _ ?_ | refine ⟨by omega, hK _ ?_⟩ | refine ⟨⟨by omega, by omega⟩, hK _ ?_⟩ | refine ⟨by omega, by omega, hK _ ?_⟩); clear hK K)
    | (refine AStk.drw rfl rfl fun K hK => ?_; simp -implicitDefEqProofs only [go_sem, Nat.reduceEqDiff, Nat.reduceAdd, Nat.reduceSub, Nat.reduceMul, Nat.reduceLeDiff, Nat.reduceLT, Nat.reduceBEq, Int.reduceToNat, Int.reduceLE, Int.reduceLT, Int.reduceEq, Int.reduceBEq, Int.reduceNe, Int.reduceNeg, Int.reduceBNe, Int.reduceAdd, Int.reduceSub, Int.reduceMul, reduceCtorEq, reduceIte, Bool.not_true, Bool.not_false, hl, e1, h1]; refine KD.mk rfl (hK _ ?_); clear hK K)
    | with_reducible refine AStk.block ?_
    | with_reducible refine AStk.skip ?_
    | with_reducible refine AStk.exit ?_
    | with_reducible refine AStk.ret ?_
    | with_reducible refine AStk.nil ?_
    | with_reducible refine Then.exit ?_
    | with_reducible refine Then.ret ?_
    | with_reducible refine Then.normal ?_
    | with_reducible refine Exits.normal ?_
    | with_reducible refine Exits.here ?_
    | with_reducible refine Exits.ret ?_
    | with_reducible refine Exits.there (by decide) ?_
    | refine AStk.condT rfl ?_
    | refine AStk.condF rfl ?_
    | with_reducible refine AStk.goto ?_
    | with_reducible refine Then.goto ?_
    | with_reducible refine Exits.goto ?_
    | with_reducible refine Jmp.normal ?_
    | with_reducible refine Jmp.ret ?_
    | with_reducible refine Jmp.exit ?_
    | with_reducible refine Jmp.goto ?_)
  refine AStk.drw rfl rfl fun K hK => ?_
  simp -implicitDefEqProofs only [go_sem, Nat.reduceEqDiff, Nat.reduceAdd, Nat.reduceSub, Nat.reduceMul, Nat.reduceLeDiff, Nat.reduceLT, Nat.reduceBEq, Int.reduceToNat, Int.reduceLE, Int.reduceLT, Int.reduceEq, Int.reduceBEq, Int.reduceNe, Int.reduceNeg, Int.reduceBNe, Int.reduceAdd, Int.reduceSub, Int.reduceMul, reduceCtorEq, reduceIte, Bool.not_true, Bool.not_false, hl, e1, h1, h2, e2, e3, Bool.false_and]
  refine KC.mk (Seal_calls Φ b (by omega)) ?_
  simp -implicitDefEqProofs only [go_sem, Nat.reduceEqDiff, Nat.reduceAdd, Nat.reduceSub, Nat.reduceMul, Nat.reduceLeDiff, Nat.reduceLT, Nat.reduceBEq, Int.reduceToNat, Int.reduceLE, Int.reduceLT, Int.reduceEq, Int.reduceBEq, Int.reduceNe, Int.reduceNeg, Int.reduceBNe, Int.reduceAdd, Int.reduceSub, Int.reduceMul, reduceCtorEq, reduceIte, Bool.not_true, Bool.not_false, hl, e1, h1, h2, e2, e3, Bool.false_and, beq_self_eq_true]
  refine KD.mk rfl (hK _ ?_)
  clear hK
  repeat (first
    | with_reducible refine AStk.seq ?_
    | (refine AStk.reg rfl fun K hK => ?_; simp -implicitDefEqProofs only [go_sem, Nat.reduceEqDiff, Nat.reduceAdd, Nat.reduceSub, Nat.reduceMul, Nat.reduceLeDiff, Nat.reduceLT, Nat.reduceBEq, Int.reduceToNat, Int.reduceLE, Int.reduceLT, Int.reduceEq, Int.reduceBEq, Int.reduceNe, Int.reduceNeg, Int.reduceBNe, Int.reduceAdd, Int.reduceSub, Int.reduceMul, reduceCtorEq, reduceIte, Bool.not_true, Bool.not_false, hl, e1, h1, h2, e2, e3, Bool.false_and, beq_self_eq_true]; (first | refine hK _ ?_ | refine ⟨by omega, hK _ ?_⟩ | refine ⟨⟨by omega, by omega⟩, hK _ ?_⟩ | refine ⟨by omega, by omega, hK _ ?_⟩); clear hK K)
    | (refine AStk.drw rfl rfl fun K hK => ?_; simp -implicitDefEqProofs only [go_sem, Nat.reduceEqDiff, Nat.reduceAdd, Nat.reduceSub, Nat.reduceMul, Nat.reduceLeDiff, Nat.reduceLT, Nat.reduceBEq, Int.reduceToNat, Int.reduceLE, Int.reduceLT, Int.reduceEq, Int.reduceBEq, Int.reduceNe, Int.reduceNeg, Int.reduceBNe, Int.reduceAdd, Int.reduceSub, Int.reduceMul, reduceCtorEq, reduceIte, Bool.not_true, Bool.not_false, hl, e1, h1, h2, e2, e3, Bool.false_and, beq_self_eq_true]; refine KD.mk rfl (hK _ ?_); clear hK K)
    | with_reducible refine AStk.block ?_
    | with_reducible refine AStk.skip ?_
    | with_reducible refine AStk.exit ?_
    | with_reducible refine AStk.ret ?_
    | with_reducible refine AStk.nil ?_
    | with_reducible refine Then.exit ?_
    | with_reducible refine Then.ret ?_
    | with_reducible refine Then.normal ?_
    | with_reducible refine Exits.normal ?_
    | with_reducible refine Exits.here ?_
    | with_reducible refine Exits.ret ?_
    | with_reducible refine Exits.there (by decide) ?_
    | refine AStk.condT rfl ?_
    | refine AStk.condF rfl ?_
    | with_reducible refine AStk.goto ?_
    | with_reducible refine Then.goto ?_
    | with_reducible refine Exits.goto ?_
    | with_reducible refine Jmp.normal ?_
    | with_reducible refine Jmp.ret ?_
    | with_reducible refine Jmp.exit ?_
    | with_reducible refine Jmp.goto ?_)
  refine FPost.ret (rs := #[.tmp 2, .tmp 3]) Try.results27 (by simp -implicitDefEqProofs only [go_sem, Nat.reduceEqDiff, Nat.reduceAdd, Nat.reduceSub, Nat.reduceMul, Nat.reduceLeDiff, Nat.reduceLT, Nat.reduceBEq, Int.reduceToNat, Int.reduceLE, Int.reduceLT, Int.reduceEq, Int.reduceBEq, Int.reduceNe, Int.reduceNeg, Int.reduceBNe, Int.reduceAdd, Int.reduceSub, Int.reduceMul, reduceCtorEq, reduceIte, Bool.not_true, Bool.not_false]; rfl) ?_
  rw [List.take_of_length_le (by simp [encB])]
  exact Le.refl _
end Go.Va.Try
set_option autoImplicit false
set_option linter.unusedVariables false
set_option linter.unusedSimpArgs false
namespace Go.Va.Try
open Go Go.Va Go.Proofs Go.IntWalk

theorem num_m1 : num (-1) = [1] := by
  simp [num, numU, numTail]
theorem num_64 : num 64 = [128, 1] := by
  simp [num, numU, numTail]
theorem num_2 : num 2 = [4] := by
  simp [num, numU, numTail]
theorem get_m1 : getN [1] 0 0 = (-1, 1) := by
  simp [getN]
theorem text_ab : text ⟨#[97, 98]⟩ = [4, 97, 98] := by
  have : (ByteArray.mk #[97, 98]).size = 2 := rfl
  simp [text, this, num_2]
theorem getText_ab : getText [4, 97, 98] = (⟨#[97, 98]⟩, 3) := by
  have : getN [4, 97, 98] 0 0 = (2, 1) := by simp [getN]
  simp [getText, this]
theorem crc_up : crc [49, 50, 51, 52, 53, 54, 55, 56, 57] = 3421780262 := by kernel_rfl
end Go.Va.Try
set_option autoImplicit false
set_option linter.unusedVariables false
set_option linter.unusedSimpArgs false
namespace Go.Va.Try
open Go Go.Va Go.Proofs Go.IntWalk

def dec (v : Nat) : Int := if v % 2 = 1 then -((v / 2 : Nat) : Int) - 1 else ((v / 2 : Nat) : Int)

theorem dec_numU (n : Int) : dec (numU n) = n := by
  unfold dec numU
  split <;> split <;> omega
theorem numU_dec (v : Nat) : numU (dec v) = v := by
  unfold dec numU
  split <;> split <;> omega
theorem numU_lt (n : Int) (h : -2147483648 ≤ n) (h2 : n ≤ 2147483647) : numU n ≤ 4294967295 := by
  unfold numU; split <;> omega
theorem dec_range (v : Nat) (h : v ≤ 4294967295) : -2147483648 ≤ dec v ∧ dec v ≤ 2147483647 := by
  unfold dec; split <;> omega
theorem numTail_pos (u : Nat) : 1 ≤ (numTail u).length := by
  by_cases h : 128 ≤ u
  · rw [numTail_ge h]; simp
  · rw [numTail_lt (by omega)]; simp
theorem pow_step (k : Nat) : (2 : Nat) ^ (7 * (k + 1)) = 128 * 2 ^ (7 * k) := by rw [show 7 * (k + 1) = 7 * k + 7 by omega, Nat.pow_add]; omega

theorem getN_step (b : List UInt8) (a k : Nat) (hk : k < b.length) (h5 : k < 5) : getN b a k = if 128 ≤ (b[k]).toNat then getN b (a + (b[k]).toNat % 128 * 2 ^ (7 * k)) (k + 1) else
    if 4294967295 < a + (b[k]).toNat % 128 * 2 ^ (7 * k) ∨ ((b[k]).toNat = 0 ∧ 1 < k + 1) then (0, 0) else (dec (a + (b[k]).toNat % 128 * 2 ^ (7 * k)), (k + 1 : Nat)) := by
  rw [getN, dif_neg (by omega)]
  simp only [dec]
  split
  · rfl
  · split
    · rfl
    · split <;> rfl

theorem ofNat_toNat8 (n : Nat) (h : n < 256) : (UInt8.ofNat n).toNat = n := by
  rw [UInt8.toNat_ofNat']; exact Nat.mod_eq_of_lt h

/-- What was put is got. -/
theorem getN_put : ∀ (u : Nat) (pre b : List UInt8) (a : Nat), a + u * 2 ^ (7 * pre.length) ≤ 4294967295 → pre.length + (numTail u).length ≤ 5 → (u = 0 → pre.length = 0) →
    getN (pre ++ (numTail u ++ b)) a pre.length = (dec (a + u * 2 ^ (7 * pre.length)), ((pre.length + (numTail u).length : Nat) : Int)) := by
  intro u
  induction u using Nat.strongRecOn with
  | _ u ih =>
    intro pre b a hv hl h0
    by_cases h : 128 ≤ u
    · have hh := numTail_ge h
      have hpos := numTail_pos (u / 128)
      have hlen : (numTail u).length = (numTail (u / 128)).length + 1 := by rw [hh]; simp
      have hb : (pre ++ (numTail u ++ b))[pre.length]? = some (UInt8.ofNat (u % 128 + 128)) := by
        rw [List.getElem?_append_right (Nat.le_refl _), hh]; simp
      obtain ⟨hlt, hget⟩ := List.getElem?_eq_some_iff.1 hb
      rw [getN_step _ _ _ hlt (by omega), hget, ofNat_toNat8 _ (by omega), if_pos (by omega)]
      have e1 : (u % 128 + 128) % 128 = u % 128 := by omega
      rw [e1]
      have e2 : pre ++ (numTail u ++ b) = (pre ++ [UInt8.ofNat (u % 128 + 128)]) ++ (numTail (u / 128) ++ b) := by rw [hh]; simp
      have e3 : (pre ++ [UInt8.ofNat (u % 128 + 128)]).length = pre.length + 1 := by simp
      have e4 : a + u % 128 * 2 ^ (7 * pre.length) + u / 128 * 2 ^ (7 * (pre.length + 1)) = a + u * 2 ^ (7 * pre.length) := by
        rw [pow_step, ← Nat.mul_assoc, Nat.add_assoc, ← Nat.add_mul]
        congr 2
        omega
      have := ih (u / 128) (by omega) (pre ++ [UInt8.ofNat (u % 128 + 128)]) b (a + u % 128 * 2 ^ (7 * pre.length)) (by rw [e3, e4]; exact hv) (by rw [e3]; omega) (by omega)
      rw [e3, e4] at this
      rw [e2, this, hlen]
      congr 2
      omega
    · have hh := numTail_lt (u := u) (by omega)
      have hb : (pre ++ (numTail u ++ b))[pre.length]? = some (UInt8.ofNat u) := by
        rw [List.getElem?_append_right (Nat.le_refl _), hh]; simp
      obtain ⟨hlt, hget⟩ := List.getElem?_eq_some_iff.1 hb
      rw [hh] at hl ⊢
      simp only [List.length_singleton] at hl ⊢
      have hlt' : pre.length < (pre ++ ([UInt8.ofNat u] ++ b)).length := by simp
      have hget' : (pre ++ ([UInt8.ofNat u] ++ b))[pre.length] = UInt8.ofNat u := by simp
      rw [getN_step _ _ _ hlt' (by omega), hget', ofNat_toNat8 _ (by omega), if_neg (by omega), Nat.mod_eq_of_lt (by omega), if_neg (by omega)]

theorem getN_num (n : Int) (h : -2147483648 ≤ n) (h2 : n ≤ 2147483647) (b : List UInt8) : getN (num n ++ b) 0 0 = (n, ((num n).length : Int)) := by
  have e : num n = numTail (numU n) := by unfold num; rw [if_neg (by omega)]
  have hl : (numTail (numU n)).length ≤ 5 := numTail_len 5 _ (by have := numU_lt n h h2; omega) (by omega)
  have := getN_put (numU n) [] b 0 (by have := numU_lt n h h2; simpa using this) (by simpa using hl) (fun _ => rfl)
  rw [e]
  simpa [dec_numU] using this

/-- What is got, put, is those bytes. -/
theorem getN_got (b : List UInt8) : ∀ (m k a : Nat), 5 - k = m → 0 < (getN b a k).2 →
    ∃ u, (getN b a k).1 = dec (a + u * 2 ^ (7 * k)) ∧ a + u * 2 ^ (7 * k) ≤ 4294967295 ∧ (getN b a k).2 = ((k + (numTail u).length : Nat) : Int) ∧ (b.drop k).take (numTail u).length = numTail u ∧ (u = 0 → k = 0) := by
  intro m
  induction m with
  | zero =>
    intro k a hm hp
    rw [getN, dif_pos (by omega)] at hp
    simp at hp
  | succ m ih =>
    intro k a hm hp
    by_cases hk : k < b.length
    · rw [getN_step _ _ _ hk (by omega)] at hp ⊢
      have hd := (b[k]).toNat_lt
      have hdrop : b.drop k = b[k] :: b.drop (k + 1) := List.drop_eq_getElem_cons hk
      have hofn : UInt8.ofNat (b[k]).toNat = b[k] := UInt8.ofNat_toNat
      generalize hdd : (b[k]).toNat = d at hp hd hofn ⊢
      by_cases h1 : 128 ≤ d
      · rw [if_pos h1] at hp ⊢
        obtain ⟨u, h2, h3, h4, h5, h6⟩ := ih (k + 1) (a + d % 128 * 2 ^ (7 * k)) (by omega) hp
        have e4 : a + d % 128 * 2 ^ (7 * k) + u * 2 ^ (7 * (k + 1)) = a + (d % 128 + 128 * u) * 2 ^ (7 * k) := by
          rw [pow_step, ← Nat.mul_assoc, Nat.add_assoc, ← Nat.add_mul, Nat.mul_comm u 128]
        rw [e4] at h2 h3
        have hu : u ≠ 0 := fun h => by have := h6 h; omega
        have hh : numTail (d % 128 + 128 * u) = b[k] :: numTail u := by
          rw [numTail_ge (by omega)]
          congr 1
          · rw [← hofn]; congr 1; omega
          · congr 1; omega
        refine ⟨d % 128 + 128 * u, h2, h3, ?_, ?_, by omega⟩
        · rw [h4, hh]; simp; omega
        · rw [hh, hdrop, List.length_cons, List.take_succ_cons, h5]
      · rw [if_neg h1] at hp ⊢
        by_cases h2 : 4294967295 < a + d % 128 * 2 ^ (7 * k) ∨ (d = 0 ∧ 1 < k + 1)
        · rw [if_pos h2] at hp; simp at hp
        · rw [if_neg h2]
          rw [Nat.mod_eq_of_lt (by omega)] at h2 ⊢
          have hh : numTail d = [b[k]] := by rw [numTail_lt (by omega), hofn]
          refine ⟨d, rfl, by omega, ?_, ?_, by omega⟩
          · rw [hh]; rfl
          · rw [hh, hdrop, List.length_singleton, List.take_succ_cons, List.take_zero]
    · rw [getN, dif_pos (by omega)] at hp
      simp at hp

theorem num_got (b : List UInt8) (h : 0 < (getN b 0 0).2) : num (getN b 0 0).1 = b.take (getN b 0 0).2.toNat := by
  obtain ⟨u, h1, h2, h3, h4, h5⟩ := getN_got b 5 0 0 rfl h
  simp only [Nat.mul_zero, Nat.pow_zero, Nat.mul_one, Nat.zero_add, List.drop_zero] at h1 h2 h3 h4
  have hr := dec_range u h2
  rw [h1, h3, Int.toNat_natCast, h4]
  unfold num
  rw [if_neg (by omega), numU_dec]

theorem numTail_two (n : Nat) (h : n ≤ 8) : num n = [UInt8.ofNat (2 * n)] := by
  unfold num
  rw [if_neg (by omega)]
  have : numU (n : Int) = 2 * n := by unfold numU; rw [if_neg (by omega)]; omega
  rw [this, numTail_lt (by omega)]
theorem text_len (s : ByteArray) (h : s.size ≤ 8) : (text s).length = s.size + 1 := by
  unfold text
  rw [if_neg (by omega), numTail_two _ h]
  simp
theorem text_long (s : ByteArray) (h : 8 < s.size) : text s = [] := by
  unfold text; rw [if_pos h]
theorem getText_put (s : ByteArray) (h : s.size ≤ 8) (b : List UInt8) : getText (text s ++ b) = (s, (s.size : Int) + 1) := by
  have e : text s ++ b = num s.size ++ (s.data.toList ++ b) := by unfold text; rw [if_neg (by omega), List.append_assoc]
  have h1 := getN_num (s.size : Int) (by omega) (by omega) (s.data.toList ++ b)
  have h2 : (num (s.size : Int)).length = 1 := by rw [numTail_two _ h]; rfl
  have hsz : s.data.toList.length = s.size := by rw [Array.length_toList]; rfl
  rw [h2] at h1
  unfold getText
  rw [e, h1]
  simp only [List.length_append, h2, hsz]
  rw [if_neg (by omega)]
  congr 1
  · have : ((num (s.size : Int) ++ (s.data.toList ++ b)).drop ((1 : Nat) : Int).toNat).take ((s.size : Nat) : Int).toNat = s.data.toList := by
      rw [Int.toNat_natCast, Int.toNat_natCast, List.drop_append_of_le_length (by omega), List.drop_of_length_le (by omega), List.nil_append, List.take_append_of_le_length (by omega), List.take_of_length_le (by omega)]
    rw [this]
  · simp; omega
theorem text_got (b : List UInt8) (h : 0 < (getText b).2) : text (getText b).1 = b.take (getText b).2.toNat := by
  have hu := getN_used 5 b 0 0 rfl
  unfold getText at h ⊢
  by_cases hc : (getN b 0 0).2 = 0 ∨ (getN b 0 0).1 < 0 ∨ 8 < (getN b 0 0).1 ∨ (b.length : Int) - (getN b 0 0).2 < (getN b 0 0).1
  · rw [if_pos hc] at h; simp at h
  · rw [if_neg hc]
    simp only
    have hg := num_got b (by omega)
    generalize hx : (getN b 0 0).1 = x at hc hg
    generalize hy : (getN b 0 0).2 = y at hc hg hu
    obtain ⟨n, rfl⟩ := Int.eq_ofNat_of_zero_le (show 0 ≤ x by omega)
    obtain ⟨m, rfl⟩ := Int.eq_ofNat_of_zero_le (show 0 ≤ y by omega)
    simp only [Int.toNat_natCast] at hg ⊢
    have hlen : ((b.drop m).take n).length = n := by simp; omega
    have hs : (⟨((b.drop m).take n).toArray⟩ : ByteArray).size = n := by
      show ((b.drop m).take n).toArray.size = n
      simpa using hlen
    unfold text
    rw [hs, if_neg (by omega), hg]
    show b.take m ++ ((b.drop m).take n).toArray.toList = _
    have : ((m : Int) + (n : Int)).toNat = m + n := by omega
    rw [this, List.take_add]
theorem getText_used (b : List UInt8) : 0 ≤ (getText b).2 ∧ (getText b).2 ≤ b.length := by
  have hu := getN_used 5 b 0 0 rfl
  unfold getText
  split
  · simp
  · simp only; omega
end Go.Va.Try
set_option autoImplicit false
set_option linter.unusedVariables false
set_option linter.unusedSimpArgs false
namespace Go.Va.Try
open Go Go.Va Go.Proofs Go.IntWalk

theorem codeUp_calls (Φ) : ACalls Try.prog Φ 22 [] (.bool true) := by
  refine ACallsP.to (ACallsP.stk 42 Try.func22 rfl rfl Try.ntmps22 (by simp) (fun w0 m0 => ?_))
  repeat (first
    | with_reducible refine AStk.seq ?_
    | (refine AStk.reg rfl fun K hK => ?_; simp -implicitDefEqProofs only [go_sem, Nat.reduceEqDiff, Nat.reduceAdd, Nat.reduceSub, Nat.reduceMul, Nat.reduceLeDiff, Nat.reduceLT, Nat.reduceBEq, Int.reduceToNat, Int.reduceLE, Int.reduceLT, Int.reduceEq, Int.reduceBEq, Int.reduceNe, Int.reduceNeg, Int.reduceBNe, Int.reduceAdd, Int.reduceSub, Int.reduceMul, reduceCtorEq, reduceIte, Bool.not_true, Bool.not_false]; (first | refine hK _ ?_ | refine ⟨by omega, hK _ ?_⟩ | refine ⟨⟨by omega, by omega⟩, hK _ ?_⟩ | refine ⟨by omega, by omega, hK _ ?_⟩); clear hK K)
    | (refine AStk.drw rfl rfl fun K hK => ?_; simp -implicitDefEqProofs only [go_sem, Nat.reduceEqDiff, Nat.reduceAdd, Nat.reduceSub, Nat.reduceMul, Nat.reduceLeDiff, Nat.reduceLT, Nat.reduceBEq, Int.reduceToNat, Int.reduceLE, Int.reduceLT, Int.reduceEq, Int.reduceBEq, Int.reduceNe, Int.reduceNeg, Int.reduceBNe, Int.reduceAdd, Int.reduceSub, Int.reduceMul, reduceCtorEq, reduceIte, Bool.not_true, Bool.not_false]; refine KD.mk rfl (hK _ ?_); clear hK K)
    | with_reducible refine AStk.block ?_
    | with_reducible refine AStk.skip ?_
    | with_reducible refine AStk.exit ?_
    | with_reducible refine AStk.ret ?_
    | with_reducible refine AStk.nil ?_
    | with_reducible refine Then.exit ?_
    | with_reducible refine Then.ret ?_
    | with_reducible refine Then.normal ?_
    | with_reducible refine Exits.normal ?_
    | with_reducible refine Exits.here ?_
    | with_reducible refine Exits.ret ?_
    | with_reducible refine Exits.there (by decide) ?_
    | refine AStk.condT rfl ?_
    | refine AStk.condF rfl ?_
    | with_reducible refine AStk.goto ?_
    | with_reducible refine Then.goto ?_
    | with_reducible refine Exits.goto ?_
    | with_reducible refine Jmp.normal ?_
    | with_reducible refine Jmp.ret ?_
    | with_reducible refine Jmp.exit ?_
    | with_reducible refine Jmp.goto ?_)
  refine AStk.reg rfl fun K hK => ?_
  simp -implicitDefEqProofs only [go_sem, Nat.reduceEqDiff, Nat.reduceAdd, Nat.reduceSub, Nat.reduceMul, Nat.reduceLeDiff, Nat.reduceLT, Nat.reduceBEq, Int.reduceToNat, Int.reduceLE, Int.reduceLT, Int.reduceEq, Int.reduceBEq, Int.reduceNe, Int.reduceNeg, Int.reduceBNe, Int.reduceAdd, Int.reduceSub, Int.reduceMul, reduceCtorEq, reduceIte, Bool.not_true, Bool.not_false]
  refine KN.mk (Num_calls Φ (-1)) ?_
  simp -implicitDefEqProofs only [go_sem, Nat.reduceEqDiff, Nat.reduceAdd, Nat.reduceSub, Nat.reduceMul, Nat.reduceLeDiff, Nat.reduceLT, Nat.reduceBEq, Int.reduceToNat, Int.reduceLE, Int.reduceLT, Int.reduceEq, Int.reduceBEq, Int.reduceNe, Int.reduceNeg, Int.reduceBNe, Int.reduceAdd, Int.reduceSub, Int.reduceMul, reduceCtorEq, reduceIte, Bool.not_true, Bool.not_false, num_m1]
  refine KN.mk (GetNum_calls Φ [1]) ?_
  simp -implicitDefEqProofs only [go_sem, Nat.reduceEqDiff, Nat.reduceAdd, Nat.reduceSub, Nat.reduceMul, Nat.reduceLeDiff, Nat.reduceLT, Nat.reduceBEq, Int.reduceToNat, Int.reduceLE, Int.reduceLT, Int.reduceEq, Int.reduceBEq, Int.reduceNe, Int.reduceNeg, Int.reduceBNe, Int.reduceAdd, Int.reduceSub, Int.reduceMul, reduceCtorEq, reduceIte, Bool.not_true, Bool.not_false, get_m1]
  refine hK _ ?_
  clear hK K
  repeat (first
    | with_reducible refine AStk.seq ?_
    | (refine AStk.reg rfl fun K hK => ?_; simp -implicitDefEqProofs only [go_sem, Nat.reduceEqDiff, Nat.reduceAdd, Nat.reduceSub, Nat.reduceMul, Nat.reduceLeDiff, Nat.reduceLT, Nat.reduceBEq, Int.reduceToNat, Int.reduceLE, Int.reduceLT, Int.reduceEq, Int.reduceBEq, Int.reduceNe, Int.reduceNeg, Int.reduceBNe, Int.reduceAdd, Int.reduceSub, Int.reduceMul, reduceCtorEq, reduceIte, Bool.not_true, Bool.not_false, get_m1]; (first | refine hK _ ?_ | refine ⟨by omega, hK _ ?_⟩ | refine ⟨⟨by omega, by omega⟩, hK _ ?_⟩ | refine ⟨by omega, by omega, hK _ ?_⟩); clear hK K)
    | (refine AStk.drw rfl rfl fun K hK => ?_; simp -implicitDefEqProofs only [go_sem, Nat.reduceEqDiff, Nat.reduceAdd, Nat.reduceSub, Nat.reduceMul, Nat.reduceLeDiff, Nat.reduceLT, Nat.reduceBEq, Int.reduceToNat, Int.reduceLE, Int.reduceLT, Int.reduceEq, Int.reduceBEq, Int.reduceNe, Int.reduceNeg, Int.reduceBNe, Int.reduceAdd, Int.reduceSub, Int.reduceMul, reduceCtorEq, reduceIte, Bool.not_true, Bool.not_false, get_m1]; refine KD.mk rfl (hK _ ?_); clear hK K)
    | with_reducible refine AStk.block ?_
    | with_reducible refine AStk.skip ?_
    | with_reducible refine AStk.exit ?_
    | with_reducible refine AStk.ret ?_
    | with_reducible refine AStk.nil ?_
    | with_reducible refine Then.exit ?_
    | with_reducible refine Then.ret ?_
    | with_reducible refine Then.normal ?_
    | with_reducible refine Exits.normal ?_
    | with_reducible refine Exits.here ?_
    | with_reducible refine Exits.ret ?_
    | with_reducible refine Exits.there (by decide) ?_
    | refine AStk.condT rfl ?_
    | refine AStk.condF rfl ?_
    | with_reducible refine AStk.goto ?_
    | with_reducible refine Then.goto ?_
    | with_reducible refine Exits.goto ?_
    | with_reducible refine Jmp.normal ?_
    | with_reducible refine Jmp.ret ?_
    | with_reducible refine Jmp.exit ?_
    | with_reducible refine Jmp.goto ?_)
  refine AStk.reg rfl fun K hK => ?_
  simp -implicitDefEqProofs only [go_sem, Nat.reduceEqDiff, Nat.reduceAdd, Nat.reduceSub, Nat.reduceMul, Nat.reduceLeDiff, Nat.reduceLT, Nat.reduceBEq, Int.reduceToNat, Int.reduceLE, Int.reduceLT, Int.reduceEq, Int.reduceBEq, Int.reduceNe, Int.reduceNeg, Int.reduceBNe, Int.reduceAdd, Int.reduceSub, Int.reduceMul, reduceCtorEq, reduceIte, Bool.not_true, Bool.not_false]
  refine KN.mk (Text_calls Φ _) ?_
  simp -implicitDefEqProofs only [go_sem, Nat.reduceEqDiff, Nat.reduceAdd, Nat.reduceSub, Nat.reduceMul, Nat.reduceLeDiff, Nat.reduceLT, Nat.reduceBEq, Int.reduceToNat, Int.reduceLE, Int.reduceLT, Int.reduceEq, Int.reduceBEq, Int.reduceNe, Int.reduceNeg, Int.reduceBNe, Int.reduceAdd, Int.reduceSub, Int.reduceMul, reduceCtorEq, reduceIte, Bool.not_true, Bool.not_false, text_ab]
  refine KN.mk (GetText_calls Φ [4, 97, 98]) ?_
  simp -implicitDefEqProofs only [go_sem, Nat.reduceEqDiff, Nat.reduceAdd, Nat.reduceSub, Nat.reduceMul, Nat.reduceLeDiff, Nat.reduceLT, Nat.reduceBEq, Int.reduceToNat, Int.reduceLE, Int.reduceLT, Int.reduceEq, Int.reduceBEq, Int.reduceNe, Int.reduceNeg, Int.reduceBNe, Int.reduceAdd, Int.reduceSub, Int.reduceMul, reduceCtorEq, reduceIte, Bool.not_true, Bool.not_false, getText_ab]
  refine hK _ ?_
  clear hK K
  repeat (first
    | with_reducible refine AStk.seq ?_
    | (refine AStk.reg rfl fun K hK => ?_; simp -implicitDefEqProofs only [go_sem, Nat.reduceEqDiff, Nat.reduceAdd, Nat.reduceSub, Nat.reduceMul, Nat.reduceLeDiff, Nat.reduceLT, Nat.reduceBEq, Int.reduceToNat, Int.reduceLE, Int.reduceLT, Int.reduceEq, Int.reduceBEq, Int.reduceNe, Int.reduceNeg, Int.reduceBNe, Int.reduceAdd, Int.reduceSub, Int.reduceMul, reduceCtorEq, reduceIte, Bool.not_true, Bool.not_false, getText_ab]; (first | refine hK _ ?_ | refine ⟨by omega, hK _ ?_⟩ | refine ⟨⟨by omega, by omega⟩, hK _ ?_⟩ | refine ⟨by omega, by omega, hK _ ?_⟩); clear hK K)
    | (refine AStk.drw rfl rfl fun K hK => ?_; simp -implicitDefEqProofs only [go_sem, Nat.reduceEqDiff, Nat.reduceAdd, Nat.reduceSub, Nat.reduceMul, Nat.reduceLeDiff, Nat.reduceLT, Nat.reduceBEq, Int.reduceToNat, Int.reduceLE, Int.reduceLT, Int.reduceEq, Int.reduceBEq, Int.reduceNe, Int.reduceNeg, Int.reduceBNe, Int.reduceAdd, Int.reduceSub, Int.reduceMul, reduceCtorEq, reduceIte, Bool.not_true, Bool.not_false, getText_ab]; refine KD.mk rfl (hK _ ?_); clear hK K)
    | with_reducible refine AStk.block ?_
    | with_reducible refine AStk.skip ?_
    | with_reducible refine AStk.exit ?_
    | with_reducible refine AStk.ret ?_
    | with_reducible refine AStk.nil ?_
    | with_reducible refine Then.exit ?_
    | with_reducible refine Then.ret ?_
    | with_reducible refine Then.normal ?_
    | with_reducible refine Exits.normal ?_
    | with_reducible refine Exits.here ?_
    | with_reducible refine Exits.ret ?_
    | with_reducible refine Exits.there (by decide) ?_
    | refine AStk.condT rfl ?_
    | refine AStk.condF rfl ?_
    | with_reducible refine AStk.goto ?_
    | with_reducible refine Then.goto ?_
    | with_reducible refine Exits.goto ?_
    | with_reducible refine Jmp.normal ?_
    | with_reducible refine Jmp.ret ?_
    | with_reducible refine Jmp.exit ?_
    | with_reducible refine Jmp.goto ?_)
  refine AStk.drwP (i := 22) (c := 22) (p := 37) (q := 38) (t := 68) (n := 9) ⟨rfl, rfl, rfl, rfl, rfl, rfl, rfl⟩ rfl rfl (by kernel_rfl) (Nat.le_refl _) ?_ el68 tk5 fun K hK => ?_
  · intro j want h
    cases h
    exact of_decide_eq_true (by kernel_rfl)
  simp -implicitDefEqProofs only [go_sem, Nat.reduceEqDiff, Nat.reduceAdd, Nat.reduceSub, Nat.reduceMul, Nat.reduceLeDiff, Nat.reduceLT, Nat.reduceBEq, Int.reduceToNat, Int.reduceLE, Int.reduceLT, Int.reduceEq, Int.reduceBEq, Int.reduceNe, Int.reduceNeg, Int.reduceBNe, Int.reduceAdd, Int.reduceSub, Int.reduceMul, reduceCtorEq, reduceIte, Bool.not_true, Bool.not_false]
  refine KC.mk (Num_calls Φ 64) ?_
  have fb : bytesOf [[AVal.lit (Value.int IntKind.u8 128)], [AVal.lit (Value.int IntKind.u8 1)]] = some [128, 1] := rfl
  simp -implicitDefEqProofs only [go_sem, Nat.reduceEqDiff, Nat.reduceAdd, Nat.reduceSub, Nat.reduceMul, Nat.reduceLeDiff, Nat.reduceLT, Nat.reduceBEq, Int.reduceToNat, Int.reduceLE, Int.reduceLT, Int.reduceEq, Int.reduceBEq, Int.reduceNe, Int.reduceNeg, Int.reduceBNe, Int.reduceAdd, Int.reduceSub, Int.reduceMul, reduceCtorEq, reduceIte, Bool.not_true, Bool.not_false, num_64, bytesOf_enc, fb, beq_self_eq_true]
  refine KF.mk (by kernel_rfl) ?_
  refine ⟨_, _, by simp -implicitDefEqProofs only [go_sem, Nat.reduceEqDiff, Nat.reduceAdd, Nat.reduceSub, Nat.reduceMul, Nat.reduceLeDiff, Nat.reduceLT, Nat.reduceBEq, Int.reduceToNat, Int.reduceLE, Int.reduceLT, Int.reduceEq, Int.reduceBEq, Int.reduceNe, Int.reduceNeg, Int.reduceBNe, Int.reduceAdd, Int.reduceSub, Int.reduceMul, reduceCtorEq, reduceIte, Bool.not_true, Bool.not_false]; rfl, by simp -implicitDefEqProofs only [go_sem, Nat.reduceEqDiff, Nat.reduceAdd, Nat.reduceSub, Nat.reduceMul, Nat.reduceLeDiff, Nat.reduceLT, Nat.reduceBEq, Int.reduceToNat, Int.reduceLE, Int.reduceLT, Int.reduceEq, Int.reduceBEq, Int.reduceNe, Int.reduceNeg, Int.reduceBNe, Int.reduceAdd, Int.reduceSub, Int.reduceMul, reduceCtorEq, reduceIte, Bool.not_true, Bool.not_false]; rfl, by exact rfl, ?_⟩
  simp -implicitDefEqProofs only [go_sem, Nat.reduceEqDiff, Nat.reduceAdd, Nat.reduceSub, Nat.reduceMul, Nat.reduceLeDiff, Nat.reduceLT, Nat.reduceBEq, Int.reduceToNat, Int.reduceLE, Int.reduceLT, Int.reduceEq, Int.reduceBEq, Int.reduceNe, Int.reduceNeg, Int.reduceBNe, Int.reduceAdd, Int.reduceSub, Int.reduceMul, reduceCtorEq, reduceIte, Bool.not_true, Bool.not_false]
  refine KN.mk ((Sum_calls Φ [49, 50, 51, 52, 53, 54, 55, 56, 57]).args (LeL.cons (Le.slz (.inl rfl) (fun h => by cases h)) LeL.nil)) ?_
  simp -implicitDefEqProofs only [go_sem, Nat.reduceEqDiff, Nat.reduceAdd, Nat.reduceSub, Nat.reduceMul, Nat.reduceLeDiff, Nat.reduceLT, Nat.reduceBEq, Int.reduceToNat, Int.reduceLE, Int.reduceLT, Int.reduceEq, Int.reduceBEq, Int.reduceNe, Int.reduceNeg, Int.reduceBNe, Int.reduceAdd, Int.reduceSub, Int.reduceMul, reduceCtorEq, reduceIte, Bool.not_true, Bool.not_false, crc_up]
  refine hK _ ?_
  clear hK K
  repeat (first
    | with_reducible refine AStk.seq ?_
    | (refine AStk.reg rfl fun K hK => ?_; simp -implicitDefEqProofs only [go_sem, Nat.reduceEqDiff, Nat.reduceAdd, Nat.reduceSub, Nat.reduceMul, Nat.reduceLeDiff, Nat.reduceLT, Nat.reduceBEq, Int.reduceToNat, Int.reduceLE, Int.reduceLT, Int.reduceEq, Int.reduceBEq, Int.reduceNe, Int.reduceNeg, Int.reduceBNe, Int.reduceAdd, Int.reduceSub, Int.reduceMul, reduceCtorEq, reduceIte, Bool.not_true, Bool.not_false, crc_up]; (first | refine hK _ ?_ | refine ⟨by omega, hK _ ?_⟩ | refine ⟨⟨by omega, by omega⟩, hK _ ?_⟩ | refine ⟨by omega, by omega, hK _ ?_⟩); clear hK K)
    | (refine AStk.drw rfl rfl fun K hK => ?_; simp -implicitDefEqProofs only [go_sem, Nat.reduceEqDiff, Nat.reduceAdd, Nat.reduceSub, Nat.reduceMul, Nat.reduceLeDiff, Nat.reduceLT, Nat.reduceBEq, Int.reduceToNat, Int.reduceLE, Int.reduceLT, Int.reduceEq, Int.reduceBEq, Int.reduceNe, Int.reduceNeg, Int.reduceBNe, Int.reduceAdd, Int.reduceSub, Int.reduceMul, reduceCtorEq, reduceIte, Bool.not_true, Bool.not_false, crc_up]; refine KD.mk rfl (hK _ ?_); clear hK K)
    | with_reducible refine AStk.block ?_
    | with_reducible refine AStk.skip ?_
    | with_reducible refine AStk.exit ?_
    | with_reducible refine AStk.ret ?_
    | with_reducible refine AStk.nil ?_
    | with_reducible refine Then.exit ?_
    | with_reducible refine Then.ret ?_
    | with_reducible refine Then.normal ?_
    | with_reducible refine Exits.normal ?_
    | with_reducible refine Exits.here ?_
    | with_reducible refine Exits.ret ?_
    | with_reducible refine Exits.there (by decide) ?_
    | refine AStk.condT rfl ?_
    | refine AStk.condF rfl ?_
    | with_reducible refine AStk.goto ?_
    | with_reducible refine Then.goto ?_
    | with_reducible refine Exits.goto ?_
    | with_reducible refine Jmp.normal ?_
    | with_reducible refine Jmp.ret ?_
    | with_reducible refine Jmp.exit ?_
    | with_reducible refine Jmp.goto ?_)
  refine FPost.ret (rs := #[.tmp 0]) Try.results22 (by simp -implicitDefEqProofs only [go_sem, Nat.reduceEqDiff, Nat.reduceAdd, Nat.reduceSub, Nat.reduceMul, Nat.reduceLeDiff, Nat.reduceLT, Nat.reduceBEq, Int.reduceToNat, Int.reduceLE, Int.reduceLT, Int.reduceEq, Int.reduceBEq, Int.reduceNe, Int.reduceNeg, Int.reduceBNe, Int.reduceAdd, Int.reduceSub, Int.reduceMul, reduceCtorEq, reduceIte, Bool.not_true, Bool.not_false]; rfl) ?_
  exact Le.refl _
end Go.Va.Try
set_option autoImplicit false
set_option linter.unusedVariables false
set_option linter.unusedSimpArgs false
namespace Go.Va.Try
open Go Go.Va Go.Proofs Go.IntWalk

set_option maxHeartbeats 4000000 in
set_option maxRecDepth 10000 in
theorem CodeBack_calls (Φ) (n : Int) (s : ByteArray) (b : List UInt8) : ACalls Try.prog Φ 5 [.int n, .str s, .sl false 1 (encB b)] (.bool true) := by
  have hm : most = 140737488355328 := rfl
  refine ACallsP.to (ACallsP.stk 194 Try.func5 rfl rfl Try.ntmps5 (by simp) (fun w0 m0 => ?_))
  repeat (first
    | with_reducible refine AStk.seq ?_
    | (refine AStk.reg rfl fun K hK => ?_; simp (maxSteps := 2000000) -implicitDefEqProofs only [go_sem, Nat.reduceEqDiff, Nat.reduceAdd, Nat.reduceSub, Nat.reduceMul, Nat.reduceLeDiff, Nat.reduceLT, Nat.reduceBEq, Int.reduceToNat, Int.reduceLE, Int.reduceLT, Int.reduceEq, Int.reduceBEq, Int.reduceNe, Int.reduceNeg, Int.reduceBNe, Int.reduceAdd, Int.reduceSub, Int.reduceMul, reduceCtorEq, reduceIte, Bool.not_true, Bool.not_false]; (first | refine hK _ ?_ | refine ⟨by omega, hK _ ?_⟩ | refine ⟨⟨by omega, by omega⟩, hK _ ?_⟩ | refine ⟨by omega, by omega, hK _ ?_⟩); clear hK K)
    | (refine AStk.drw rfl rfl fun K hK => ?_; simp (maxSteps := 2000000) -implicitDefEqProofs only [go_sem, Nat.reduceEqDiff, Nat.reduceAdd, Nat.reduceSub, Nat.reduceMul, Nat.reduceLeDiff, Nat.reduceLT, Nat.reduceBEq, Int.reduceToNat, Int.reduceLE, Int.reduceLT, Int.reduceEq, Int.reduceBEq, Int.reduceNe, Int.reduceNeg, Int.reduceBNe, Int.reduceAdd, Int.reduceSub, Int.reduceMul, reduceCtorEq, reduceIte, Bool.not_true, Bool.not_false]; refine KD.mk rfl (hK _ ?_); clear hK K)
    | with_reducible refine AStk.block ?_
    | with_reducible refine AStk.skip ?_
    | with_reducible refine AStk.exit ?_
    | with_reducible refine AStk.ret ?_
    | with_reducible refine AStk.nil ?_
    | with_reducible refine Then.exit ?_
    | with_reducible refine Then.ret ?_
    | with_reducible refine Then.normal ?_
    | with_reducible refine Exits.normal ?_
    | with_reducible refine Exits.here ?_
    | with_reducible refine Exits.ret ?_
    | with_reducible refine Exits.there (by decide) ?_
    | refine AStk.condT rfl ?_
    | refine AStk.condF rfl ?_
    | with_reducible refine AStk.goto ?_
    | with_reducible refine Then.goto ?_
    | with_reducible refine Exits.goto ?_
    | with_reducible refine Jmp.normal ?_
    | with_reducible refine Jmp.ret ?_
    | with_reducible refine Jmp.exit ?_
    | with_reducible refine Jmp.goto ?_)
  refine AStk.reg rfl fun K hK => ?_
  simp (maxSteps := 2000000) -implicitDefEqProofs only [go_sem, Nat.reduceEqDiff, Nat.reduceAdd, Nat.reduceSub, Nat.reduceMul, Nat.reduceLeDiff, Nat.reduceLT, Nat.reduceBEq, Int.reduceToNat, Int.reduceLE, Int.reduceLT, Int.reduceEq, Int.reduceBEq, Int.reduceNe, Int.reduceNeg, Int.reduceBNe, Int.reduceAdd, Int.reduceSub, Int.reduceMul, reduceCtorEq, reduceIte, Bool.not_true, Bool.not_false]
  refine KN.mk (codeUp_calls Φ) ?_
  by_cases hl : 10000 < (b.length : Int)
  · skip
    simp (maxSteps := 2000000) -implicitDefEqProofs only [go_sem, Nat.reduceEqDiff, Nat.reduceAdd, Nat.reduceSub, Nat.reduceMul, Nat.reduceLeDiff, Nat.reduceLT, Nat.reduceBEq, Int.reduceToNat, Int.reduceLE, Int.reduceLT, Int.reduceEq, Int.reduceBEq, Int.reduceNe, Int.reduceNeg, Int.reduceBNe, Int.reduceAdd, Int.reduceSub, Int.reduceMul, reduceCtorEq, reduceIte, Bool.not_true, Bool.not_false, encB_len, hl]
    refine hK _ ?_
    clear hK K
    repeat (first
      | with_reducible refine AStk.seq ?_
      | (refine AStk.reg rfl fun K hK => ?_; simp (maxSteps := 2000000) -implicitDefEqProofs only [go_sem, Nat.reduceEqDiff, Nat.reduceAdd, Nat.reduceSub, Nat.reduceMul, Nat.reduceLeDiff, Nat.reduceLT, Nat.reduceBEq, Int.reduceToNat, Int.reduceLE, Int.reduceLT, Int.reduceEq, Int.reduceBEq, Int.reduceNe, Int.reduceNeg, Int.reduceBNe, Int.reduceAdd, Int.reduceSub, Int.reduceMul, reduceCtorEq, reduceIte, Bool.not_true, Bool.not_false, encB_len, hl]; (first | refine hK _ ?_ | refine ⟨by omega, hK _ ?_⟩ | refine ⟨⟨by omega, by omega⟩, hK _ ?_⟩ | refine ⟨by omega, by omega, hK _ ?_⟩); clear hK K)
      | (refine AStk.drw rfl rfl fun K hK => ?_; simp (maxSteps := 2000000) -implicitDefEqProofs only [go_sem, Nat.reduceEqDiff, Nat.reduceAdd, Nat.reduceSub, Nat.reduceMul, Nat.reduceLeDiff, Nat.reduceLT, Nat.reduceBEq, Int.reduceToNat, Int.reduceLE, Int.reduceLT, Int.reduceEq, Int.reduceBEq, Int.reduceNe, Int.reduceNeg, Int.reduceBNe, Int.reduceAdd, Int.reduceSub, Int.reduceMul, reduceCtorEq, reduceIte, Bool.not_true, Bool.not_false, encB_len, hl]; refine KD.mk rfl (hK _ ?_); clear hK K)
      | with_reducible refine AStk.block ?_
      | with_reducible refine AStk.skip ?_
      | with_reducible refine AStk.exit ?_
      | with_reducible refine AStk.ret ?_
      | with_reducible refine AStk.nil ?_
      | with_reducible refine Then.exit ?_
      | with_reducible refine Then.ret ?_
      | with_reducible refine Then.normal ?_
      | with_reducible refine Exits.normal ?_
      | with_reducible refine Exits.here ?_
      | with_reducible refine Exits.ret ?_
      | with_reducible refine Exits.there (by decide) ?_
      | refine AStk.condT rfl ?_
      | refine AStk.condF rfl ?_
      | with_reducible refine AStk.goto ?_
      | with_reducible refine Then.goto ?_
      | with_reducible refine Exits.goto ?_
      | with_reducible refine Jmp.normal ?_
      | with_reducible refine Jmp.ret ?_
      | with_reducible refine Jmp.exit ?_
      | with_reducible refine Jmp.goto ?_)
    refine FPost.ret (rs := #[.tmp 6]) Try.results5 (by simp (maxSteps := 2000000) -implicitDefEqProofs only [go_sem, Nat.reduceEqDiff, Nat.reduceAdd, Nat.reduceSub, Nat.reduceMul, Nat.reduceLeDiff, Nat.reduceLT, Nat.reduceBEq, Int.reduceToNat, Int.reduceLE, Int.reduceLT, Int.reduceEq, Int.reduceBEq, Int.reduceNe, Int.reduceNeg, Int.reduceBNe, Int.reduceAdd, Int.reduceSub, Int.reduceMul, reduceCtorEq, reduceIte, Bool.not_true, Bool.not_false]; rfl) ?_
    exact Le.refl _
  simp (maxSteps := 2000000) -implicitDefEqProofs only [go_sem, Nat.reduceEqDiff, Nat.reduceAdd, Nat.reduceSub, Nat.reduceMul, Nat.reduceLeDiff, Nat.reduceLT, Nat.reduceBEq, Int.reduceToNat, Int.reduceLE, Int.reduceLT, Int.reduceEq, Int.reduceBEq, Int.reduceNe, Int.reduceNeg, Int.reduceBNe, Int.reduceAdd, Int.reduceSub, Int.reduceMul, reduceCtorEq, reduceIte, Bool.not_true, Bool.not_false, encB_len, hl]
  refine hK _ ?_
  clear hK K
  repeat (first
    | with_reducible refine AStk.seq ?_
    | (refine AStk.reg rfl fun K hK => ?_; simp (maxSteps := 2000000) -implicitDefEqProofs only [go_sem, Nat.reduceEqDiff, Nat.reduceAdd, Nat.reduceSub, Nat.reduceMul, Nat.reduceLeDiff, Nat.reduceLT, Nat.reduceBEq, Int.reduceToNat, Int.reduceLE, Int.reduceLT, Int.reduceEq, Int.reduceBEq, Int.reduceNe, Int.reduceNeg, Int.reduceBNe, Int.reduceAdd, Int.reduceSub, Int.reduceMul, reduceCtorEq, reduceIte, Bool.not_true, Bool.not_false, encB_len, hl]; (first | refine hK _ ?_ | refine ⟨by omega, hK _ ?_⟩ | refine ⟨⟨by omega, by omega⟩, hK _ ?_⟩ | refine ⟨by omega, by omega, hK _ ?_⟩); clear hK K)
    | (refine AStk.drw rfl rfl fun K hK => ?_; simp (maxSteps := 2000000) -implicitDefEqProofs only [go_sem, Nat.reduceEqDiff, Nat.reduceAdd, Nat.reduceSub, Nat.reduceMul, Nat.reduceLeDiff, Nat.reduceLT, Nat.reduceBEq, Int.reduceToNat, Int.reduceLE, Int.reduceLT, Int.reduceEq, Int.reduceBEq, Int.reduceNe, Int.reduceNeg, Int.reduceBNe, Int.reduceAdd, Int.reduceSub, Int.reduceMul, reduceCtorEq, reduceIte, Bool.not_true, Bool.not_false, encB_len, hl]; refine KD.mk rfl (hK _ ?_); clear hK K)
    | with_reducible refine AStk.block ?_
    | with_reducible refine AStk.skip ?_
    | with_reducible refine AStk.exit ?_
    | with_reducible refine AStk.ret ?_
    | with_reducible refine AStk.nil ?_
    | with_reducible refine Then.exit ?_
    | with_reducible refine Then.ret ?_
    | with_reducible refine Then.normal ?_
    | with_reducible refine Exits.normal ?_
    | with_reducible refine Exits.here ?_
    | with_reducible refine Exits.ret ?_
    | with_reducible refine Exits.there (by decide) ?_
    | refine AStk.condT rfl ?_
    | refine AStk.condF rfl ?_
    | with_reducible refine AStk.goto ?_
    | with_reducible refine Then.goto ?_
    | with_reducible refine Exits.goto ?_
    | with_reducible refine Jmp.normal ?_
    | with_reducible refine Jmp.ret ?_
    | with_reducible refine Jmp.exit ?_
    | with_reducible refine Jmp.goto ?_)
  refine AStk.reg rfl fun K hK => ?_
  simp (maxSteps := 2000000) -implicitDefEqProofs only [go_sem, Nat.reduceEqDiff, Nat.reduceAdd, Nat.reduceSub, Nat.reduceMul, Nat.reduceLeDiff, Nat.reduceLT, Nat.reduceBEq, Int.reduceToNat, Int.reduceLE, Int.reduceLT, Int.reduceEq, Int.reduceBEq, Int.reduceNe, Int.reduceNeg, Int.reduceBNe, Int.reduceAdd, Int.reduceSub, Int.reduceMul, reduceCtorEq, reduceIte, Bool.not_true, Bool.not_false]
  refine KN.mk (Num_calls Φ n) ?_
  simp (maxSteps := 2000000) -implicitDefEqProofs only [go_sem, Nat.reduceEqDiff, Nat.reduceAdd, Nat.reduceSub, Nat.reduceMul, Nat.reduceLeDiff, Nat.reduceLT, Nat.reduceBEq, Int.reduceToNat, Int.reduceLE, Int.reduceLT, Int.reduceEq, Int.reduceBEq, Int.reduceNe, Int.reduceNeg, Int.reduceBNe, Int.reduceAdd, Int.reduceSub, Int.reduceMul, reduceCtorEq, reduceIte, Bool.not_true, Bool.not_false]
  refine hK _ ?_
  clear hK K
  repeat (first
    | with_reducible refine AStk.seq ?_
    | (refine AStk.reg rfl fun K hK => ?_; simp (maxSteps := 2000000) -implicitDefEqProofs only [go_sem, Nat.reduceEqDiff, Nat.reduceAdd, Nat.reduceSub, Nat.reduceMul, Nat.reduceLeDiff, Nat.reduceLT, Nat.reduceBEq, Int.reduceToNat, Int.reduceLE, Int.reduceLT, Int.reduceEq, Int.reduceBEq, Int.reduceNe, Int.reduceNeg, Int.reduceBNe, Int.reduceAdd, Int.reduceSub, Int.reduceMul, reduceCtorEq, reduceIte, Bool.not_true, Bool.not_false]; (first | refine hK _ ?_ | refine ⟨by omega, hK _ ?_⟩ | refine ⟨⟨by omega, by omega⟩, hK _ ?_⟩ | refine ⟨by omega, by omega, hK _ ?_⟩); clear hK K)
    | (refine AStk.drw rfl rfl fun K hK => ?_; simp (maxSteps := 2000000) -implicitDefEqProofs only [go_sem, Nat.reduceEqDiff, Nat.reduceAdd, Nat.reduceSub, Nat.reduceMul, Nat.reduceLeDiff, Nat.reduceLT, Nat.reduceBEq, Int.reduceToNat, Int.reduceLE, Int.reduceLT, Int.reduceEq, Int.reduceBEq, Int.reduceNe, Int.reduceNeg, Int.reduceBNe, Int.reduceAdd, Int.reduceSub, Int.reduceMul, reduceCtorEq, reduceIte, Bool.not_true, Bool.not_false]; refine KD.mk rfl (hK _ ?_); clear hK K)
    | with_reducible refine AStk.block ?_
    | with_reducible refine AStk.skip ?_
    | with_reducible refine AStk.exit ?_
    | with_reducible refine AStk.ret ?_
    | with_reducible refine AStk.nil ?_
    | with_reducible refine Then.exit ?_
    | with_reducible refine Then.ret ?_
    | with_reducible refine Then.normal ?_
    | with_reducible refine Exits.normal ?_
    | with_reducible refine Exits.here ?_
    | with_reducible refine Exits.ret ?_
    | with_reducible refine Exits.there (by decide) ?_
    | refine AStk.condT rfl ?_
    | refine AStk.condF rfl ?_
    | with_reducible refine AStk.goto ?_
    | with_reducible refine Then.goto ?_
    | with_reducible refine Exits.goto ?_
    | with_reducible refine Jmp.normal ?_
    | with_reducible refine Jmp.ret ?_
    | with_reducible refine Jmp.exit ?_
    | with_reducible refine Jmp.goto ?_)
  refine AStk.reg rfl fun K hK => ?_
  have hnl := num_len n
  have a1 : (num n).length + b.length ≤ 140737488355328 := by omega
  have ht : List.take ((num n).length + b.length) (num n ++ b) = num n ++ b := List.take_of_length_le (by simp)
  simp (maxSteps := 2000000) -implicitDefEqProofs only [go_sem, Nat.reduceEqDiff, Nat.reduceAdd, Nat.reduceSub, Nat.reduceMul, Nat.reduceLeDiff, Nat.reduceLT, Nat.reduceBEq, Int.reduceToNat, Int.reduceLE, Int.reduceLT, Int.reduceEq, Int.reduceBEq, Int.reduceNe, Int.reduceNeg, Int.reduceBNe, Int.reduceAdd, Int.reduceSub, Int.reduceMul, reduceCtorEq, reduceIte, Bool.not_true, Bool.not_false, encB_len, Int.le_refl, beq_self_eq_true, Int.sub_zero, List.take_length, ← encB_append, Nat.mul_one, hm, a1, ht]
  refine KN.mk (GetNum_calls Φ _) ?_
  simp (maxSteps := 2000000) -implicitDefEqProofs only [go_sem, Nat.reduceEqDiff, Nat.reduceAdd, Nat.reduceSub, Nat.reduceMul, Nat.reduceLeDiff, Nat.reduceLT, Nat.reduceBEq, Int.reduceToNat, Int.reduceLE, Int.reduceLT, Int.reduceEq, Int.reduceBEq, Int.reduceNe, Int.reduceNeg, Int.reduceBNe, Int.reduceAdd, Int.reduceSub, Int.reduceMul, reduceCtorEq, reduceIte, Bool.not_true, Bool.not_false]
  refine hK _ ?_
  clear hK K
  repeat (first
    | with_reducible refine AStk.seq ?_
    | (refine AStk.reg rfl fun K hK => ?_; simp (maxSteps := 2000000) -implicitDefEqProofs only [go_sem, Nat.reduceEqDiff, Nat.reduceAdd, Nat.reduceSub, Nat.reduceMul, Nat.reduceLeDiff, Nat.reduceLT, Nat.reduceBEq, Int.reduceToNat, Int.reduceLE, Int.reduceLT, Int.reduceEq, Int.reduceBEq, Int.reduceNe, Int.reduceNeg, Int.reduceBNe, Int.reduceAdd, Int.reduceSub, Int.reduceMul, reduceCtorEq, reduceIte, Bool.not_true, Bool.not_false]; (first | refine hK _ ?_ | refine ⟨by omega, hK _ ?_⟩ | refine ⟨⟨by omega, by omega⟩, hK _ ?_⟩ | refine ⟨by omega, by omega, hK _ ?_⟩); clear hK K)
    | (refine AStk.drw rfl rfl fun K hK => ?_; simp (maxSteps := 2000000) -implicitDefEqProofs only [go_sem, Nat.reduceEqDiff, Nat.reduceAdd, Nat.reduceSub, Nat.reduceMul, Nat.reduceLeDiff, Nat.reduceLT, Nat.reduceBEq, Int.reduceToNat, Int.reduceLE, Int.reduceLT, Int.reduceEq, Int.reduceBEq, Int.reduceNe, Int.reduceNeg, Int.reduceBNe, Int.reduceAdd, Int.reduceSub, Int.reduceMul, reduceCtorEq, reduceIte, Bool.not_true, Bool.not_false]; refine KD.mk rfl (hK _ ?_); clear hK K)
    | with_reducible refine AStk.block ?_
    | with_reducible refine AStk.skip ?_
    | with_reducible refine AStk.exit ?_
    | with_reducible refine AStk.ret ?_
    | with_reducible refine AStk.nil ?_
    | with_reducible refine Then.exit ?_
    | with_reducible refine Then.ret ?_
    | with_reducible refine Then.normal ?_
    | with_reducible refine Exits.normal ?_
    | with_reducible refine Exits.here ?_
    | with_reducible refine Exits.ret ?_
    | with_reducible refine Exits.there (by decide) ?_
    | refine AStk.condT rfl ?_
    | refine AStk.condF rfl ?_
    | with_reducible refine AStk.goto ?_
    | with_reducible refine Then.goto ?_
    | with_reducible refine Exits.goto ?_
    | with_reducible refine Jmp.normal ?_
    | with_reducible refine Jmp.ret ?_
    | with_reducible refine Jmp.exit ?_
    | with_reducible refine Jmp.goto ?_)
  refine AStk.cutN 2 (fun _ : Unit => { env := [(1, .str s), (2, .sl false 1 (encB b)), (7, .bool true)], box := [], row := [] }) (fun _ => True) ?_ ?_ (by simp)
  · intro K1 hK1
    dsimp only [List.take]
    by_cases h1 : -2147483648 ≤ n
    · by_cases h2 : n < 2147483648
      · have hg := getN_num n h1 (by omega) b
        have hnp : 1 ≤ (num n).length := by
          unfold num; rw [if_neg (by omega)]; exact numTail_pos _
        have f1 : ((((num n).length : Nat) : Int) < 1) = False := by simp; omega
        have f2 : (5 < (((num n).length : Nat) : Int)) = False := by simp; omega
        have f3 : (n < -2147483648) = False := by simp; omega
        have f4 : (2147483648 ≤ n) = False := by simp; omega
        repeat (first
          | with_reducible refine AStk.seq ?_
          | (refine AStk.reg rfl fun K hK => ?_; simp (maxSteps := 2000000) -implicitDefEqProofs only [go_sem, Nat.reduceEqDiff, Nat.reduceAdd, Nat.reduceSub, Nat.reduceMul, Nat.reduceLeDiff, Nat.reduceLT, Nat.reduceBEq, Int.reduceToNat, Int.reduceLE, Int.reduceLT, Int.reduceEq, Int.reduceBEq, Int.reduceNe, Int.reduceNeg, Int.reduceBNe, Int.reduceAdd, Int.reduceSub, Int.reduceMul, reduceCtorEq, reduceIte, Bool.not_true, Bool.not_false, hg, h1, h2, bne_self_eq_false, encB_len, f1, f2, f3, f4]; (first | refine hK _ ?_ | refine ⟨by omega, hK _ ?_⟩ | refine ⟨⟨by omega, by omega⟩, hK _ ?_⟩ | refine ⟨by omega, by omega, hK _ ?_⟩); clear hK K)
          | (refine AStk.drw rfl rfl fun K hK => ?_; simp (maxSteps := 2000000) -implicitDefEqProofs only [go_sem, Nat.reduceEqDiff, Nat.reduceAdd, Nat.reduceSub, Nat.reduceMul, Nat.reduceLeDiff, Nat.reduceLT, Nat.reduceBEq, Int.reduceToNat, Int.reduceLE, Int.reduceLT, Int.reduceEq, Int.reduceBEq, Int.reduceNe, Int.reduceNeg, Int.reduceBNe, Int.reduceAdd, Int.reduceSub, Int.reduceMul, reduceCtorEq, reduceIte, Bool.not_true, Bool.not_false, hg, h1, h2, bne_self_eq_false, encB_len, f1, f2, f3, f4]; refine KD.mk rfl (hK _ ?_); clear hK K)
          | with_reducible refine AStk.block ?_
          | with_reducible refine AStk.skip ?_
          | with_reducible refine AStk.exit ?_
          | with_reducible refine AStk.ret ?_
          | with_reducible refine AStk.nil ?_
          | with_reducible refine Then.exit ?_
          | with_reducible refine Then.ret ?_
          | with_reducible refine Then.normal ?_
          | with_reducible refine Exits.normal ?_
          | with_reducible refine Exits.here ?_
          | with_reducible refine Exits.ret ?_
          | with_reducible refine Exits.there (by decide) ?_
          | refine AStk.condT rfl ?_
          | refine AStk.condF rfl ?_
          | with_reducible refine AStk.goto ?_
          | with_reducible refine Then.goto ?_
          | with_reducible refine Exits.goto ?_
          | with_reducible refine Jmp.normal ?_
          | with_reducible refine Jmp.ret ?_
          | with_reducible refine Jmp.exit ?_
          | with_reducible refine Jmp.goto ?_)
        refine hK1 () _ trivial ?_
        refine Weak.of ?_ ?_ ?_ ?_ ?_ <;> simp [get_cons, refOk, Le.refl]
      · have e : num n = [] := by unfold num; rw [if_pos (by omega)]
        have f3 : (n < -2147483648) = False := by simp; omega
        have f4 : (2147483648 ≤ n) = True := by simp; omega
        have f5 : ((0 : Int) < 0) = False := by simp
        have f6 : (([] : List UInt8).length : Int) = 0 := rfl
        repeat (first
          | with_reducible refine AStk.seq ?_
          | (refine AStk.reg rfl fun K hK => ?_; simp (maxSteps := 2000000) -implicitDefEqProofs only [go_sem, Nat.reduceEqDiff, Nat.reduceAdd, Nat.reduceSub, Nat.reduceMul, Nat.reduceLeDiff, Nat.reduceLT, Nat.reduceBEq, Int.reduceToNat, Int.reduceLE, Int.reduceLT, Int.reduceEq, Int.reduceBEq, Int.reduceNe, Int.reduceNeg, Int.reduceBNe, Int.reduceAdd, Int.reduceSub, Int.reduceMul, reduceCtorEq, reduceIte, Bool.not_true, Bool.not_false, h1, h2, f3, f4, encB_len, e, f5, f6]; (first | refine hK _ ?_ | refine ⟨by omega, hK _ ?_⟩ | refine ⟨⟨by omega, by omega⟩, hK _ ?_⟩ | refine ⟨by omega, by omega, hK _ ?_⟩); clear hK K)
          | (refine AStk.drw rfl rfl fun K hK => ?_; simp (maxSteps := 2000000) -implicitDefEqProofs only [go_sem, Nat.reduceEqDiff, Nat.reduceAdd, Nat.reduceSub, Nat.reduceMul, Nat.reduceLeDiff, Nat.reduceLT, Nat.reduceBEq, Int.reduceToNat, Int.reduceLE, Int.reduceLT, Int.reduceEq, Int.reduceBEq, Int.reduceNe, Int.reduceNeg, Int.reduceBNe, Int.reduceAdd, Int.reduceSub, Int.reduceMul, reduceCtorEq, reduceIte, Bool.not_true, Bool.not_false, h1, h2, f3, f4, encB_len, e, f5, f6]; refine KD.mk rfl (hK _ ?_); clear hK K)
          | with_reducible refine AStk.block ?_
          | with_reducible refine AStk.skip ?_
          | with_reducible refine AStk.exit ?_
          | with_reducible refine AStk.ret ?_
          | with_reducible refine AStk.nil ?_
          | with_reducible refine Then.exit ?_
          | with_reducible refine Then.ret ?_
          | with_reducible refine Then.normal ?_
          | with_reducible refine Exits.normal ?_
          | with_reducible refine Exits.here ?_
          | with_reducible refine Exits.ret ?_
          | with_reducible refine Exits.there (by decide) ?_
          | refine AStk.condT rfl ?_
          | refine AStk.condF rfl ?_
          | with_reducible refine AStk.goto ?_
          | with_reducible refine Then.goto ?_
          | with_reducible refine Exits.goto ?_
          | with_reducible refine Jmp.normal ?_
          | with_reducible refine Jmp.ret ?_
          | with_reducible refine Jmp.exit ?_
          | with_reducible refine Jmp.goto ?_)
        refine hK1 () _ trivial ?_
        refine Weak.of ?_ ?_ ?_ ?_ ?_ <;> simp [get_cons, refOk, Le.refl]
    · have e : num n = [] := by unfold num; rw [if_pos (by omega)]
      have f3 : (n < -2147483648) = True := by simp; omega
      have f5 : ((0 : Int) < 0) = False := by simp
      have f6 : (([] : List UInt8).length : Int) = 0 := rfl
      repeat (first
        | with_reducible refine AStk.seq ?_
        | (refine AStk.reg rfl fun K hK => ?_; simp (maxSteps := 2000000) -implicitDefEqProofs only [go_sem, Nat.reduceEqDiff, Nat.reduceAdd, Nat.reduceSub, Nat.reduceMul, Nat.reduceLeDiff, Nat.reduceLT, Nat.reduceBEq, Int.reduceToNat, Int.reduceLE, Int.reduceLT, Int.reduceEq, Int.reduceBEq, Int.reduceNe, Int.reduceNeg, Int.reduceBNe, Int.reduceAdd, Int.reduceSub, Int.reduceMul, reduceCtorEq, reduceIte, Bool.not_true, Bool.not_false, h1, f3, encB_len, e, f5, f6]; (first | refine hK _ ?_ | refine ⟨by omega, hK _ ?_⟩ | refine ⟨⟨by omega, by omega⟩, hK _ ?_⟩ | refine ⟨by omega, by omega, hK _ ?_⟩); clear hK K)
        | (refine AStk.drw rfl rfl fun K hK => ?_; simp (maxSteps := 2000000) -implicitDefEqProofs only [go_sem, Nat.reduceEqDiff, Nat.reduceAdd, Nat.reduceSub, Nat.reduceMul, Nat.reduceLeDiff, Nat.reduceLT, Nat.reduceBEq, Int.reduceToNat, Int.reduceLE, Int.reduceLT, Int.reduceEq, Int.reduceBEq, Int.reduceNe, Int.reduceNeg, Int.reduceBNe, Int.reduceAdd, Int.reduceSub, Int.reduceMul, reduceCtorEq, reduceIte, Bool.not_true, Bool.not_false, h1, f3, encB_len, e, f5, f6]; refine KD.mk rfl (hK _ ?_); clear hK K)
        | with_reducible refine AStk.block ?_
        | with_reducible refine AStk.skip ?_
        | with_reducible refine AStk.exit ?_
        | with_reducible refine AStk.ret ?_
        | with_reducible refine AStk.nil ?_
        | with_reducible refine Then.exit ?_
        | with_reducible refine Then.ret ?_
        | with_reducible refine Then.normal ?_
        | with_reducible refine Exits.normal ?_
        | with_reducible refine Exits.here ?_
        | with_reducible refine Exits.ret ?_
        | with_reducible refine Exits.there (by decide) ?_
        | refine AStk.condT rfl ?_
        | refine AStk.condF rfl ?_
        | with_reducible refine AStk.goto ?_
        | with_reducible refine Then.goto ?_
        | with_reducible refine Exits.goto ?_
        | with_reducible refine Jmp.normal ?_
        | with_reducible refine Jmp.ret ?_
        | with_reducible refine Jmp.exit ?_
        | with_reducible refine Jmp.goto ?_)
      refine hK1 () _ trivial ?_
      refine Weak.of ?_ ?_ ?_ ?_ ?_ <;> simp [get_cons, refOk, Le.refl]
  intro _ _
  dsimp only [List.drop]
  repeat (first
    | with_reducible refine AStk.seq ?_
    | (refine AStk.reg rfl fun K hK => ?_; simp (maxSteps := 2000000) -implicitDefEqProofs only [go_sem, Nat.reduceEqDiff, Nat.reduceAdd, Nat.reduceSub, Nat.reduceMul, Nat.reduceLeDiff, Nat.reduceLT, Nat.reduceBEq, Int.reduceToNat, Int.reduceLE, Int.reduceLT, Int.reduceEq, Int.reduceBEq, Int.reduceNe, Int.reduceNeg, Int.reduceBNe, Int.reduceAdd, Int.reduceSub, Int.reduceMul, reduceCtorEq, reduceIte, Bool.not_true, Bool.not_false]; (first | refine hK _ ?_ | refine ⟨by omega, hK _ ?_⟩ | refine ⟨⟨by omega, by omega⟩, hK _ ?_⟩ | refine ⟨by omega, by omega, hK _ ?_⟩); clear hK K)
    | (refine AStk.drw rfl rfl fun K hK => ?_; simp (maxSteps := 2000000) -implicitDefEqProofs only [go_sem, Nat.reduceEqDiff, Nat.reduceAdd, Nat.reduceSub, Nat.reduceMul, Nat.reduceLeDiff, Nat.reduceLT, Nat.reduceBEq, Int.reduceToNat, Int.reduceLE, Int.reduceLT, Int.reduceEq, Int.reduceBEq, Int.reduceNe, Int.reduceNeg, Int.reduceBNe, Int.reduceAdd, Int.reduceSub, Int.reduceMul, reduceCtorEq, reduceIte, Bool.not_true, Bool.not_false]; refine KD.mk rfl (hK _ ?_); clear hK K)
    | with_reducible refine AStk.block ?_
    | with_reducible refine AStk.skip ?_
    | with_reducible refine AStk.exit ?_
    | with_reducible refine AStk.ret ?_
    | with_reducible refine AStk.nil ?_
    | with_reducible refine Then.exit ?_
    | with_reducible refine Then.ret ?_
    | with_reducible refine Then.normal ?_
    | with_reducible refine Exits.normal ?_
    | with_reducible refine Exits.here ?_
    | with_reducible refine Exits.ret ?_
    | with_reducible refine Exits.there (by decide) ?_
    | refine AStk.condT rfl ?_
    | refine AStk.condF rfl ?_
    | with_reducible refine AStk.goto ?_
    | with_reducible refine Then.goto ?_
    | with_reducible refine Exits.goto ?_
    | with_reducible refine Jmp.normal ?_
    | with_reducible refine Jmp.ret ?_
    | with_reducible refine Jmp.exit ?_
    | with_reducible refine Jmp.goto ?_)
  refine AStk.reg rfl fun K hK => ?_
  simp (maxSteps := 2000000) -implicitDefEqProofs only [go_sem, Nat.reduceEqDiff, Nat.reduceAdd, Nat.reduceSub, Nat.reduceMul, Nat.reduceLeDiff, Nat.reduceLT, Nat.reduceBEq, Int.reduceToNat, Int.reduceLE, Int.reduceLT, Int.reduceEq, Int.reduceBEq, Int.reduceNe, Int.reduceNeg, Int.reduceBNe, Int.reduceAdd, Int.reduceSub, Int.reduceMul, reduceCtorEq, reduceIte, Bool.not_true, Bool.not_false]
  refine KN.mk (Text_calls Φ s) ?_
  simp (maxSteps := 2000000) -implicitDefEqProofs only [go_sem, Nat.reduceEqDiff, Nat.reduceAdd, Nat.reduceSub, Nat.reduceMul, Nat.reduceLeDiff, Nat.reduceLT, Nat.reduceBEq, Int.reduceToNat, Int.reduceLE, Int.reduceLT, Int.reduceEq, Int.reduceBEq, Int.reduceNe, Int.reduceNeg, Int.reduceBNe, Int.reduceAdd, Int.reduceSub, Int.reduceMul, reduceCtorEq, reduceIte, Bool.not_true, Bool.not_false]
  refine hK _ ?_
  clear hK K
  repeat (first
    | with_reducible refine AStk.seq ?_
    | (refine AStk.reg rfl fun K hK => ?_; simp (maxSteps := 2000000) -implicitDefEqProofs only [go_sem, Nat.reduceEqDiff, Nat.reduceAdd, Nat.reduceSub, Nat.reduceMul, Nat.reduceLeDiff, Nat.reduceLT, Nat.reduceBEq, Int.reduceToNat, Int.reduceLE, Int.reduceLT, Int.reduceEq, Int.reduceBEq, Int.reduceNe, Int.reduceNeg, Int.reduceBNe, Int.reduceAdd, Int.reduceSub, Int.reduceMul, reduceCtorEq, reduceIte, Bool.not_true, Bool.not_false]; (first | refine hK _ ?_ | refine ⟨by omega, hK _ ?_⟩ | refine ⟨⟨by omega, by omega⟩, hK _ ?_⟩ | refine ⟨by omega, by omega, hK _ ?_⟩); clear hK K)
    | (refine AStk.drw rfl rfl fun K hK => ?_; simp (maxSteps := 2000000) -implicitDefEqProofs only [go_sem, Nat.reduceEqDiff, Nat.reduceAdd, Nat.reduceSub, Nat.reduceMul, Nat.reduceLeDiff, Nat.reduceLT, Nat.reduceBEq, Int.reduceToNat, Int.reduceLE, Int.reduceLT, Int.reduceEq, Int.reduceBEq, Int.reduceNe, Int.reduceNeg, Int.reduceBNe, Int.reduceAdd, Int.reduceSub, Int.reduceMul, reduceCtorEq, reduceIte, Bool.not_true, Bool.not_false]; refine KD.mk rfl (hK _ ?_); clear hK K)
    | with_reducible refine AStk.block ?_
    | with_reducible refine AStk.skip ?_
    | with_reducible refine AStk.exit ?_
    | with_reducible refine AStk.ret ?_
    | with_reducible refine AStk.nil ?_
    | with_reducible refine Then.exit ?_
    | with_reducible refine Then.ret ?_
    | with_reducible refine Then.normal ?_
    | with_reducible refine Exits.normal ?_
    | with_reducible refine Exits.here ?_
    | with_reducible refine Exits.ret ?_
    | with_reducible refine Exits.there (by decide) ?_
    | refine AStk.condT rfl ?_
    | refine AStk.condF rfl ?_
    | with_reducible refine AStk.goto ?_
    | with_reducible refine Then.goto ?_
    | with_reducible refine Exits.goto ?_
    | with_reducible refine Jmp.normal ?_
    | with_reducible refine Jmp.ret ?_
    | with_reducible refine Jmp.exit ?_
    | with_reducible refine Jmp.goto ?_)
  refine AStk.reg rfl fun K hK => ?_
  have htl : (text s).length ≤ 9 := by
    rcases Nat.lt_or_ge 8 s.size with h | h
    · rw [text_long s h]; simp
    · rw [text_len s h]; omega
  have a2 : (text s).length + b.length ≤ 140737488355328 := by omega
  have ht2 : List.take ((text s).length + b.length) (text s ++ b) = text s ++ b := List.take_of_length_le (by simp)
  simp (maxSteps := 2000000) -implicitDefEqProofs only [go_sem, Nat.reduceEqDiff, Nat.reduceAdd, Nat.reduceSub, Nat.reduceMul, Nat.reduceLeDiff, Nat.reduceLT, Nat.reduceBEq, Int.reduceToNat, Int.reduceLE, Int.reduceLT, Int.reduceEq, Int.reduceBEq, Int.reduceNe, Int.reduceNeg, Int.reduceBNe, Int.reduceAdd, Int.reduceSub, Int.reduceMul, reduceCtorEq, reduceIte, Bool.not_true, Bool.not_false, encB_len, Int.le_refl, beq_self_eq_true, Int.sub_zero, List.take_length, ← encB_append, Nat.mul_one, hm, a2, ht2]
  refine KN.mk (GetText_calls Φ _) ?_
  simp (maxSteps := 2000000) -implicitDefEqProofs only [go_sem, Nat.reduceEqDiff, Nat.reduceAdd, Nat.reduceSub, Nat.reduceMul, Nat.reduceLeDiff, Nat.reduceLT, Nat.reduceBEq, Int.reduceToNat, Int.reduceLE, Int.reduceLT, Int.reduceEq, Int.reduceBEq, Int.reduceNe, Int.reduceNeg, Int.reduceBNe, Int.reduceAdd, Int.reduceSub, Int.reduceMul, reduceCtorEq, reduceIte, Bool.not_true, Bool.not_false]
  refine hK _ ?_
  clear hK K
  repeat (first
    | with_reducible refine AStk.seq ?_
    | (refine AStk.reg rfl fun K hK => ?_; simp (maxSteps := 2000000) -implicitDefEqProofs only [go_sem, Nat.reduceEqDiff, Nat.reduceAdd, Nat.reduceSub, Nat.reduceMul, Nat.reduceLeDiff, Nat.reduceLT, Nat.reduceBEq, Int.reduceToNat, Int.reduceLE, Int.reduceLT, Int.reduceEq, Int.reduceBEq, Int.reduceNe, Int.reduceNeg, Int.reduceBNe, Int.reduceAdd, Int.reduceSub, Int.reduceMul, reduceCtorEq, reduceIte, Bool.not_true, Bool.not_false]; (first | refine hK _ ?_ | refine ⟨by omega, hK _ ?_⟩ | refine ⟨⟨by omega, by omega⟩, hK _ ?_⟩ | refine ⟨by omega, by omega, hK _ ?_⟩); clear hK K)
    | (refine AStk.drw rfl rfl fun K hK => ?_; simp (maxSteps := 2000000) -implicitDefEqProofs only [go_sem, Nat.reduceEqDiff, Nat.reduceAdd, Nat.reduceSub, Nat.reduceMul, Nat.reduceLeDiff, Nat.reduceLT, Nat.reduceBEq, Int.reduceToNat, Int.reduceLE, Int.reduceLT, Int.reduceEq, Int.reduceBEq, Int.reduceNe, Int.reduceNeg, Int.reduceBNe, Int.reduceAdd, Int.reduceSub, Int.reduceMul, reduceCtorEq, reduceIte, Bool.not_true, Bool.not_false]; refine KD.mk rfl (hK _ ?_); clear hK K)
    | with_reducible refine AStk.block ?_
    | with_reducible refine AStk.skip ?_
    | with_reducible refine AStk.exit ?_
    | with_reducible refine AStk.ret ?_
    | with_reducible refine AStk.nil ?_
    | with_reducible refine Then.exit ?_
    | with_reducible refine Then.ret ?_
    | with_reducible refine Then.normal ?_
    | with_reducible refine Exits.normal ?_
    | with_reducible refine Exits.here ?_
    | with_reducible refine Exits.ret ?_
    | with_reducible refine Exits.there (by decide) ?_
    | refine AStk.condT rfl ?_
    | refine AStk.condF rfl ?_
    | with_reducible refine AStk.goto ?_
    | with_reducible refine Then.goto ?_
    | with_reducible refine Exits.goto ?_
    | with_reducible refine Jmp.normal ?_
    | with_reducible refine Jmp.ret ?_
    | with_reducible refine Jmp.exit ?_
    | with_reducible refine Jmp.goto ?_)
  refine AStk.cutN 2 (fun _ : Unit => { env := [(2, .sl false 1 (encB b)), (7, .bool true)], box := [], row := [] }) (fun _ => True) ?_ ?_ (by simp)
  · intro K1 hK1
    dsimp only [List.take]
    by_cases h1 : s.size ≤ 8
    · have hg := getText_put s h1 b
      have g1 := text_len s h1
      have f1 : ((s.size : Int) ≤ 8) = True := by simp; omega
      have f2 : (((text s).length : Nat) : Int) = (s.size : Int) + 1 := by omega
      have f3 : IntKind.i64.wrap ((s.size : Int) + 1) = (s.size : Int) + 1 := i64_in _ (by omega)
      have f4 : (8 < (s.size : Int)) = False := by simp; omega
      repeat (first
        | with_reducible refine AStk.seq ?_
        | (refine AStk.reg rfl fun K hK => ?_; simp (maxSteps := 2000000) -implicitDefEqProofs only [go_sem, Nat.reduceEqDiff, Nat.reduceAdd, Nat.reduceSub, Nat.reduceMul, Nat.reduceLeDiff, Nat.reduceLT, Nat.reduceBEq, Int.reduceToNat, Int.reduceLE, Int.reduceLT, Int.reduceEq, Int.reduceBEq, Int.reduceNe, Int.reduceNeg, Int.reduceBNe, Int.reduceAdd, Int.reduceSub, Int.reduceMul, reduceCtorEq, reduceIte, Bool.not_true, Bool.not_false, hg, f1, f2, f3, f4, bne_self_eq_false, beq_self_eq_true, encB_len]; (first | refine hK _ ?_ | refine ⟨by omega, hK _ ?_⟩ | refine ⟨⟨by omega, by omega⟩, hK _ ?_⟩ | refine ⟨by omega, by omega, hK _ ?_⟩); clear hK K)
        | (refine AStk.drw rfl rfl fun K hK => ?_; simp (maxSteps := 2000000) -implicitDefEqProofs only [go_sem, Nat.reduceEqDiff, Nat.reduceAdd, Nat.reduceSub, Nat.reduceMul, Nat.reduceLeDiff, Nat.reduceLT, Nat.reduceBEq, Int.reduceToNat, Int.reduceLE, Int.reduceLT, Int.reduceEq, Int.reduceBEq, Int.reduceNe, Int.reduceNeg, Int.reduceBNe, Int.reduceAdd, Int.reduceSub, Int.reduceMul, reduceCtorEq, reduceIte, Bool.not_true, Bool.not_false, hg, f1, f2, f3, f4, bne_self_eq_false, beq_self_eq_true, encB_len]; refine KD.mk rfl (hK _ ?_); clear hK K)
        | with_reducible refine AStk.block ?_
        | with_reducible refine AStk.skip ?_
        | with_reducible refine AStk.exit ?_
        | with_reducible refine AStk.ret ?_
        | with_reducible refine AStk.nil ?_
        | with_reducible refine Then.exit ?_
        | with_reducible refine Then.ret ?_
        | with_reducible refine Then.normal ?_
        | with_reducible refine Exits.normal ?_
        | with_reducible refine Exits.here ?_
        | with_reducible refine Exits.ret ?_
        | with_reducible refine Exits.there (by decide) ?_
        | refine AStk.condT rfl ?_
        | refine AStk.condF rfl ?_
        | with_reducible refine AStk.goto ?_
        | with_reducible refine Then.goto ?_
        | with_reducible refine Exits.goto ?_
        | with_reducible refine Jmp.normal ?_
        | with_reducible refine Jmp.ret ?_
        | with_reducible refine Jmp.exit ?_
        | with_reducible refine Jmp.goto ?_)
      refine hK1 () _ trivial ?_
      refine Weak.of ?_ ?_ ?_ ?_ ?_ <;> simp [get_cons, refOk, Le.refl]
    · have e : text s = [] := text_long s (by omega)
      have f1 : ((s.size : Int) ≤ 8) = False := by simp; omega
      have f4 : (8 < (s.size : Int)) = True := by simp; omega
      have f5 : ((0 : Int) < 0) = False := by simp
      have f6 : (([] : List UInt8).length : Int) = 0 := rfl
      repeat (first
        | with_reducible refine AStk.seq ?_
        | (refine AStk.reg rfl fun K hK => ?_; simp (maxSteps := 2000000) -implicitDefEqProofs only [go_sem, Nat.reduceEqDiff, Nat.reduceAdd, Nat.reduceSub, Nat.reduceMul, Nat.reduceLeDiff, Nat.reduceLT, Nat.reduceBEq, Int.reduceToNat, Int.reduceLE, Int.reduceLT, Int.reduceEq, Int.reduceBEq, Int.reduceNe, Int.reduceNeg, Int.reduceBNe, Int.reduceAdd, Int.reduceSub, Int.reduceMul, reduceCtorEq, reduceIte, Bool.not_true, Bool.not_false, f1, f4, encB_len, e, f5, f6]; (first | refine hK _ ?_ | refine ⟨by omega, hK _ ?_⟩ | refine ⟨⟨by omega, by omega⟩, hK _ ?_⟩ | refine ⟨by omega, by omega, hK _ ?_⟩); clear hK K)
        | (refine AStk.drw rfl rfl fun K hK => ?_; simp (maxSteps := 2000000) -implicitDefEqProofs only [go_sem, Nat.reduceEqDiff, Nat.reduceAdd, Nat.reduceSub, Nat.reduceMul, Nat.reduceLeDiff, Nat.reduceLT, Nat.reduceBEq, Int.reduceToNat, Int.reduceLE, Int.reduceLT, Int.reduceEq, Int.reduceBEq, Int.reduceNe, Int.reduceNeg, Int.reduceBNe, Int.reduceAdd, Int.reduceSub, Int.reduceMul, reduceCtorEq, reduceIte, Bool.not_true, Bool.not_false, f1, f4, encB_len, e, f5, f6]; refine KD.mk rfl (hK _ ?_); clear hK K)
        | with_reducible refine AStk.block ?_
        | with_reducible refine AStk.skip ?_
        | with_reducible refine AStk.exit ?_
        | with_reducible refine AStk.ret ?_
        | with_reducible refine AStk.nil ?_
        | with_reducible refine Then.exit ?_
        | with_reducible refine Then.ret ?_
        | with_reducible refine Then.normal ?_
        | with_reducible refine Exits.normal ?_
        | with_reducible refine Exits.here ?_
        | with_reducible refine Exits.ret ?_
        | with_reducible refine Exits.there (by decide) ?_
        | refine AStk.condT rfl ?_
        | refine AStk.condF rfl ?_
        | with_reducible refine AStk.goto ?_
        | with_reducible refine Then.goto ?_
        | with_reducible refine Exits.goto ?_
        | with_reducible refine Jmp.normal ?_
        | with_reducible refine Jmp.ret ?_
        | with_reducible refine Jmp.exit ?_
        | with_reducible refine Jmp.goto ?_)
      refine hK1 () _ trivial ?_
      refine Weak.of ?_ ?_ ?_ ?_ ?_ <;> simp [get_cons, refOk, Le.refl]
  intro _ _
  dsimp only [List.drop]
  repeat (first
    | with_reducible refine AStk.seq ?_
    | (refine AStk.reg rfl fun K hK => ?_; simp (maxSteps := 2000000) -implicitDefEqProofs only [go_sem, Nat.reduceEqDiff, Nat.reduceAdd, Nat.reduceSub, Nat.reduceMul, Nat.reduceLeDiff, Nat.reduceLT, Nat.reduceBEq, Int.reduceToNat, Int.reduceLE, Int.reduceLT, Int.reduceEq, Int.reduceBEq, Int.reduceNe, Int.reduceNeg, Int.reduceBNe, Int.reduceAdd, Int.reduceSub, Int.reduceMul, reduceCtorEq, reduceIte, Bool.not_true, Bool.not_false]; (first | refine hK _ ?_ | refine ⟨by omega, hK _ ?_⟩ | refine ⟨⟨by omega, by omega⟩, hK _ ?_⟩ | refine ⟨by omega, by omega, hK _ ?_⟩); clear hK K)
    | (refine AStk.drw rfl rfl fun K hK => ?_; simp (maxSteps := 2000000) -implicitDefEqProofs only [go_sem, Nat.reduceEqDiff, Nat.reduceAdd, Nat.reduceSub, Nat.reduceMul, Nat.reduceLeDiff, Nat.reduceLT, Nat.reduceBEq, Int.reduceToNat, Int.reduceLE, Int.reduceLT, Int.reduceEq, Int.reduceBEq, Int.reduceNe, Int.reduceNeg, Int.reduceBNe, Int.reduceAdd, Int.reduceSub, Int.reduceMul, reduceCtorEq, reduceIte, Bool.not_true, Bool.not_false]; refine KD.mk rfl (hK _ ?_); clear hK K)
    | with_reducible refine AStk.block ?_
    | with_reducible refine AStk.skip ?_
    | with_reducible refine AStk.exit ?_
    | with_reducible refine AStk.ret ?_
    | with_reducible refine AStk.nil ?_
    | with_reducible refine Then.exit ?_
    | with_reducible refine Then.ret ?_
    | with_reducible refine Then.normal ?_
    | with_reducible refine Exits.normal ?_
    | with_reducible refine Exits.here ?_
    | with_reducible refine Exits.ret ?_
    | with_reducible refine Exits.there (by decide) ?_
    | refine AStk.condT rfl ?_
    | refine AStk.condF rfl ?_
    | with_reducible refine AStk.goto ?_
    | with_reducible refine Then.goto ?_
    | with_reducible refine Exits.goto ?_
    | with_reducible refine Jmp.normal ?_
    | with_reducible refine Jmp.ret ?_
    | with_reducible refine Jmp.exit ?_
    | with_reducible refine Jmp.goto ?_)
  refine AStk.reg rfl fun K hK => ?_
  simp (maxSteps := 2000000) -implicitDefEqProofs only [go_sem, Nat.reduceEqDiff, Nat.reduceAdd, Nat.reduceSub, Nat.reduceMul, Nat.reduceLeDiff, Nat.reduceLT, Nat.reduceBEq, Int.reduceToNat, Int.reduceLE, Int.reduceLT, Int.reduceEq, Int.reduceBEq, Int.reduceNe, Int.reduceNeg, Int.reduceBNe, Int.reduceAdd, Int.reduceSub, Int.reduceMul, reduceCtorEq, reduceIte, Bool.not_true, Bool.not_false]
  refine KN.mk (GetNum_calls Φ b) ?_
  simp (maxSteps := 2000000) -implicitDefEqProofs only [go_sem, Nat.reduceEqDiff, Nat.reduceAdd, Nat.reduceSub, Nat.reduceMul, Nat.reduceLeDiff, Nat.reduceLT, Nat.reduceBEq, Int.reduceToNat, Int.reduceLE, Int.reduceLT, Int.reduceEq, Int.reduceBEq, Int.reduceNe, Int.reduceNeg, Int.reduceBNe, Int.reduceAdd, Int.reduceSub, Int.reduceMul, reduceCtorEq, reduceIte, Bool.not_true, Bool.not_false]
  refine hK _ ?_
  clear hK K
  repeat (first
    | with_reducible refine AStk.seq ?_
    | (refine AStk.reg rfl fun K hK => ?_; simp (maxSteps := 2000000) -implicitDefEqProofs only [go_sem, Nat.reduceEqDiff, Nat.reduceAdd, Nat.reduceSub, Nat.reduceMul, Nat.reduceLeDiff, Nat.reduceLT, Nat.reduceBEq, Int.reduceToNat, Int.reduceLE, Int.reduceLT, Int.reduceEq, Int.reduceBEq, Int.reduceNe, Int.reduceNeg, Int.reduceBNe, Int.reduceAdd, Int.reduceSub, Int.reduceMul, reduceCtorEq, reduceIte, Bool.not_true, Bool.not_false]; (first | refine hK _ ?_ | refine ⟨by omega, hK _ ?_⟩ | refine ⟨⟨by omega, by omega⟩, hK _ ?_⟩ | refine ⟨by omega, by omega, hK _ ?_⟩); clear hK K)
    | (refine AStk.drw rfl rfl fun K hK => ?_; simp (maxSteps := 2000000) -implicitDefEqProofs only [go_sem, Nat.reduceEqDiff, Nat.reduceAdd, Nat.reduceSub, Nat.reduceMul, Nat.reduceLeDiff, Nat.reduceLT, Nat.reduceBEq, Int.reduceToNat, Int.reduceLE, Int.reduceLT, Int.reduceEq, Int.reduceBEq, Int.reduceNe, Int.reduceNeg, Int.reduceBNe, Int.reduceAdd, Int.reduceSub, Int.reduceMul, reduceCtorEq, reduceIte, Bool.not_true, Bool.not_false]; refine KD.mk rfl (hK _ ?_); clear hK K)
    | with_reducible refine AStk.block ?_
    | with_reducible refine AStk.skip ?_
    | with_reducible refine AStk.exit ?_
    | with_reducible refine AStk.ret ?_
    | with_reducible refine AStk.nil ?_
    | with_reducible refine Then.exit ?_
    | with_reducible refine Then.ret ?_
    | with_reducible refine Then.normal ?_
    | with_reducible refine Exits.normal ?_
    | with_reducible refine Exits.here ?_
    | with_reducible refine Exits.ret ?_
    | with_reducible refine Exits.there (by decide) ?_
    | refine AStk.condT rfl ?_
    | refine AStk.condF rfl ?_
    | with_reducible refine AStk.goto ?_
    | with_reducible refine Then.goto ?_
    | with_reducible refine Exits.goto ?_
    | with_reducible refine Jmp.normal ?_
    | with_reducible refine Jmp.ret ?_
    | with_reducible refine Jmp.exit ?_
    | with_reducible refine Jmp.goto ?_)
  refine AStk.reg rfl fun K hK => ?_
  simp (maxSteps := 2000000) -implicitDefEqProofs only [go_sem, Nat.reduceEqDiff, Nat.reduceAdd, Nat.reduceSub, Nat.reduceMul, Nat.reduceLeDiff, Nat.reduceLT, Nat.reduceBEq, Int.reduceToNat, Int.reduceLE, Int.reduceLT, Int.reduceEq, Int.reduceBEq, Int.reduceNe, Int.reduceNeg, Int.reduceBNe, Int.reduceAdd, Int.reduceSub, Int.reduceMul, reduceCtorEq, reduceIte, Bool.not_true, Bool.not_false]
  refine KN.mk (GetText_calls Φ b) ?_
  have hu := getN_used 5 b 0 0 rfl
  have hv := getText_used b
  have hng := num_got b
  have htg := text_got b
  generalize hx : (getN b 0 0).1 = x at hng
  generalize hy : (getN b 0 0).2 = y at hu hng
  generalize hz : (getText b).1 = z at htg
  generalize hw : (getText b).2 = v at hv htg
  have f1 : (y < 0) = False := by simp; omega
  have f2 : ((b.length : Int) < y) = False := by simp; omega
  have f3 : (v < 0) = False := by simp; omega
  have f4 : ((b.length : Int) < v) = False := by simp; omega
  simp (maxSteps := 2000000) -implicitDefEqProofs only [go_sem, Nat.reduceEqDiff, Nat.reduceAdd, Nat.reduceSub, Nat.reduceMul, Nat.reduceLeDiff, Nat.reduceLT, Nat.reduceBEq, Int.reduceToNat, Int.reduceLE, Int.reduceLT, Int.reduceEq, Int.reduceBEq, Int.reduceNe, Int.reduceNeg, Int.reduceBNe, Int.reduceAdd, Int.reduceSub, Int.reduceMul, reduceCtorEq, reduceIte, Bool.not_true, Bool.not_false, f1, f2, f3, f4, encB_len]
  refine hK _ ?_
  clear hK K
  repeat (first
    | with_reducible refine AStk.seq ?_
    | (refine AStk.reg rfl fun K hK => ?_; simp (maxSteps := 2000000) -implicitDefEqProofs only [go_sem, Nat.reduceEqDiff, Nat.reduceAdd, Nat.reduceSub, Nat.reduceMul, Nat.reduceLeDiff, Nat.reduceLT, Nat.reduceBEq, Int.reduceToNat, Int.reduceLE, Int.reduceLT, Int.reduceEq, Int.reduceBEq, Int.reduceNe, Int.reduceNeg, Int.reduceBNe, Int.reduceAdd, Int.reduceSub, Int.reduceMul, reduceCtorEq, reduceIte, Bool.not_true, Bool.not_false, f1, f2, f3, f4, encB_len]; (first | refine hK _ ?_ | refine ⟨by omega, hK _ ?_⟩ | refine ⟨⟨by omega, by omega⟩, hK _ ?_⟩ | refine ⟨by omega, by omega, hK _ ?_⟩); clear hK K)
    | (refine AStk.drw rfl rfl fun K hK => ?_; simp (maxSteps := 2000000) -implicitDefEqProofs only [go_sem, Nat.reduceEqDiff, Nat.reduceAdd, Nat.reduceSub, Nat.reduceMul, Nat.reduceLeDiff, Nat.reduceLT, Nat.reduceBEq, Int.reduceToNat, Int.reduceLE, Int.reduceLT, Int.reduceEq, Int.reduceBEq, Int.reduceNe, Int.reduceNeg, Int.reduceBNe, Int.reduceAdd, Int.reduceSub, Int.reduceMul, reduceCtorEq, reduceIte, Bool.not_true, Bool.not_false, f1, f2, f3, f4, encB_len]; refine KD.mk rfl (hK _ ?_); clear hK K)
    | with_reducible refine AStk.block ?_
    | with_reducible refine AStk.skip ?_
    | with_reducible refine AStk.exit ?_
    | with_reducible refine AStk.ret ?_
    | with_reducible refine AStk.nil ?_
    | with_reducible refine Then.exit ?_
    | with_reducible refine Then.ret ?_
    | with_reducible refine Then.normal ?_
    | with_reducible refine Exits.normal ?_
    | with_reducible refine Exits.here ?_
    | with_reducible refine Exits.ret ?_
    | with_reducible refine Exits.there (by decide) ?_
    | refine AStk.condT rfl ?_
    | refine AStk.condF rfl ?_
    | with_reducible refine AStk.goto ?_
    | with_reducible refine Then.goto ?_
    | with_reducible refine Exits.goto ?_
    | with_reducible refine Jmp.normal ?_
    | with_reducible refine Jmp.ret ?_
    | with_reducible refine Jmp.exit ?_
    | with_reducible refine Jmp.goto ?_)
  refine AStk.cutN 2 (fun _ : Unit => { env := [(2, .sl false 1 (encB b)), (7, .bool true)], box := [], row := [] }) (fun _ => True) ?_ ?_ (by simp)
  · intro K1 hK1
    dsimp only [List.take]
    have f5 : y ≤ (b.length : Int) := by omega
    have f6 : v ≤ (b.length : Int) := by omega
    by_cases h1 : 0 < y
    · have f7 := hng h1
      have f8 : (0 ≤ y) = True := by simp; omega
      by_cases h2 : 0 < v
      · have f9 := htg h2
        have f10 : (0 ≤ v) = True := by simp; omega
        refine AStk.drw rfl rfl fun K hK => ?_
        simp (maxSteps := 2000000) -implicitDefEqProofs only [go_sem, Nat.reduceEqDiff, Nat.reduceAdd, Nat.reduceSub, Nat.reduceMul, Nat.reduceLeDiff, Nat.reduceLT, Nat.reduceBEq, Int.reduceToNat, Int.reduceLE, Int.reduceLT, Int.reduceEq, Int.reduceBEq, Int.reduceNe, Int.reduceNeg, Int.reduceBNe, Int.reduceAdd, Int.reduceSub, Int.reduceMul, reduceCtorEq, reduceIte, Bool.not_true, Bool.not_false, h1, f5, f8]
        refine KC.mk (Num_calls Φ x) ?_
        simp (maxSteps := 2000000) -implicitDefEqProofs only [go_sem, Nat.reduceEqDiff, Nat.reduceAdd, Nat.reduceSub, Nat.reduceMul, Nat.reduceLeDiff, Nat.reduceLT, Nat.reduceBEq, Int.reduceToNat, Int.reduceLE, Int.reduceLT, Int.reduceEq, Int.reduceBEq, Int.reduceNe, Int.reduceNeg, Int.reduceBNe, Int.reduceAdd, Int.reduceSub, Int.reduceMul, reduceCtorEq, reduceIte, Bool.not_true, Bool.not_false, h1, f5, f7, f8, bytesOf_enc, encB_take, encB_drop, Int.sub_zero, beq_self_eq_true, h2, encB_len]
        refine KC.mk (Text_calls Φ z) ?_
        simp (maxSteps := 2000000) -implicitDefEqProofs only [go_sem, Nat.reduceEqDiff, Nat.reduceAdd, Nat.reduceSub, Nat.reduceMul, Nat.reduceLeDiff, Nat.reduceLT, Nat.reduceBEq, Int.reduceToNat, Int.reduceLE, Int.reduceLT, Int.reduceEq, Int.reduceBEq, Int.reduceNe, Int.reduceNeg, Int.reduceBNe, Int.reduceAdd, Int.reduceSub, Int.reduceMul, reduceCtorEq, reduceIte, Bool.not_true, Bool.not_false, h2, f6, f9, f10, bytesOf_enc, encB_take, encB_drop, Int.sub_zero, beq_self_eq_true, encB_len]
        refine KD.mk (by kernel_rfl) (hK _ ?_)
        clear hK K
        repeat (first
          | with_reducible refine AStk.seq ?_
          | (refine AStk.reg rfl fun K hK => ?_; simp (maxSteps := 2000000) -implicitDefEqProofs only [go_sem, Nat.reduceEqDiff, Nat.reduceAdd, Nat.reduceSub, Nat.reduceMul, Nat.reduceLeDiff, Nat.reduceLT, Nat.reduceBEq, Int.reduceToNat, Int.reduceLE, Int.reduceLT, Int.reduceEq, Int.reduceBEq, Int.reduceNe, Int.reduceNeg, Int.reduceBNe, Int.reduceAdd, Int.reduceSub, Int.reduceMul, reduceCtorEq, reduceIte, Bool.not_true, Bool.not_false]; (first | refine hK _ ?_ | refine ⟨by omega, hK _ ?_⟩ | refine ⟨⟨by omega, by omega⟩, hK _ ?_⟩ | refine ⟨by omega, by omega, hK _ ?_⟩); clear hK K)
          | (refine AStk.drw rfl rfl fun K hK => ?_; simp (maxSteps := 2000000) -implicitDefEqProofs only [go_sem, Nat.reduceEqDiff, Nat.reduceAdd, Nat.reduceSub, Nat.reduceMul, Nat.reduceLeDiff, Nat.reduceLT, Nat.reduceBEq, Int.reduceToNat, Int.reduceLE, Int.reduceLT, Int.reduceEq, Int.reduceBEq, Int.reduceNe, Int.reduceNeg, Int.reduceBNe, Int.reduceAdd, Int.reduceSub, Int.reduceMul, reduceCtorEq, reduceIte, Bool.not_true, Bool.not_false]; refine KD.mk rfl (hK _ ?_); clear hK K)
          | with_reducible refine AStk.block ?_
          | with_reducible refine AStk.skip ?_
          | with_reducible refine AStk.exit ?_
          | with_reducible refine AStk.ret ?_
          | with_reducible refine AStk.nil ?_
          | with_reducible refine Then.exit ?_
          | with_reducible refine Then.ret ?_
          | with_reducible refine Then.normal ?_
          | with_reducible refine Exits.normal ?_
          | with_reducible refine Exits.here ?_
          | with_reducible refine Exits.ret ?_
          | with_reducible refine Exits.there (by decide) ?_
          | refine AStk.condT rfl ?_
          | refine AStk.condF rfl ?_
          | with_reducible refine AStk.goto ?_
          | with_reducible refine Then.goto ?_
          | with_reducible refine Exits.goto ?_
          | with_reducible refine Jmp.normal ?_
          | with_reducible refine Jmp.ret ?_
          | with_reducible refine Jmp.exit ?_
          | with_reducible refine Jmp.goto ?_)
        refine hK1 () _ trivial ?_
        refine Weak.of ?_ ?_ ?_ ?_ ?_ <;> simp [get_cons, refOk, Le.refl]
      · refine AStk.drw rfl rfl fun K hK => ?_
        simp (maxSteps := 2000000) -implicitDefEqProofs only [go_sem, Nat.reduceEqDiff, Nat.reduceAdd, Nat.reduceSub, Nat.reduceMul, Nat.reduceLeDiff, Nat.reduceLT, Nat.reduceBEq, Int.reduceToNat, Int.reduceLE, Int.reduceLT, Int.reduceEq, Int.reduceBEq, Int.reduceNe, Int.reduceNeg, Int.reduceBNe, Int.reduceAdd, Int.reduceSub, Int.reduceMul, reduceCtorEq, reduceIte, Bool.not_true, Bool.not_false, h1, f5, f8]
        refine KC.mk (Num_calls Φ x) ?_
        simp (maxSteps := 2000000) -implicitDefEqProofs only [go_sem, Nat.reduceEqDiff, Nat.reduceAdd, Nat.reduceSub, Nat.reduceMul, Nat.reduceLeDiff, Nat.reduceLT, Nat.reduceBEq, Int.reduceToNat, Int.reduceLE, Int.reduceLT, Int.reduceEq, Int.reduceBEq, Int.reduceNe, Int.reduceNeg, Int.reduceBNe, Int.reduceAdd, Int.reduceSub, Int.reduceMul, reduceCtorEq, reduceIte, Bool.not_true, Bool.not_false, h1, f5, f7, f8, bytesOf_enc, encB_take, encB_drop, Int.sub_zero, beq_self_eq_true, h2, encB_len]
        refine KD.mk (by kernel_rfl) (hK _ ?_)
        clear hK K
        repeat (first
          | with_reducible refine AStk.seq ?_
          | (refine AStk.reg rfl fun K hK => ?_; simp (maxSteps := 2000000) -implicitDefEqProofs only [go_sem, Nat.reduceEqDiff, Nat.reduceAdd, Nat.reduceSub, Nat.reduceMul, Nat.reduceLeDiff, Nat.reduceLT, Nat.reduceBEq, Int.reduceToNat, Int.reduceLE, Int.reduceLT, Int.reduceEq, Int.reduceBEq, Int.reduceNe, Int.reduceNeg, Int.reduceBNe, Int.reduceAdd, Int.reduceSub, Int.reduceMul, reduceCtorEq, reduceIte, Bool.not_true, Bool.not_false]; (first | refine hK _ ?_ | refine ⟨by omega, hK _ ?_⟩ | refine ⟨⟨by omega, by omega⟩, hK _ ?_⟩ | refine ⟨by omega, by omega, hK _ ?_⟩); clear hK K)
          | (refine AStk.drw rfl rfl fun K hK => ?_; simp (maxSteps := 2000000) -implicitDefEqProofs only [go_sem, Nat.reduceEqDiff, Nat.reduceAdd, Nat.reduceSub, Nat.reduceMul, Nat.reduceLeDiff, Nat.reduceLT, Nat.reduceBEq, Int.reduceToNat, Int.reduceLE, Int.reduceLT, Int.reduceEq, Int.reduceBEq, Int.reduceNe, Int.reduceNeg, Int.reduceBNe, Int.reduceAdd, Int.reduceSub, Int.reduceMul, reduceCtorEq, reduceIte, Bool.not_true, Bool.not_false]; refine KD.mk rfl (hK _ ?_); clear hK K)
          | with_reducible refine AStk.block ?_
          | with_reducible refine AStk.skip ?_
          | with_reducible refine AStk.exit ?_
          | with_reducible refine AStk.ret ?_
          | with_reducible refine AStk.nil ?_
          | with_reducible refine Then.exit ?_
          | with_reducible refine Then.ret ?_
          | with_reducible refine Then.normal ?_
          | with_reducible refine Exits.normal ?_
          | with_reducible refine Exits.here ?_
          | with_reducible refine Exits.ret ?_
          | with_reducible refine Exits.there (by decide) ?_
          | refine AStk.condT rfl ?_
          | refine AStk.condF rfl ?_
          | with_reducible refine AStk.goto ?_
          | with_reducible refine Then.goto ?_
          | with_reducible refine Exits.goto ?_
          | with_reducible refine Jmp.normal ?_
          | with_reducible refine Jmp.ret ?_
          | with_reducible refine Jmp.exit ?_
          | with_reducible refine Jmp.goto ?_)
        refine hK1 () _ trivial ?_
        refine Weak.of ?_ ?_ ?_ ?_ ?_ <;> simp [get_cons, refOk, Le.refl]
    · by_cases h2 : 0 < v
      · have f9 := htg h2
        have f10 : (0 ≤ v) = True := by simp; omega
        refine AStk.drw rfl rfl fun K hK => ?_
        simp (maxSteps := 2000000) -implicitDefEqProofs only [go_sem, Nat.reduceEqDiff, Nat.reduceAdd, Nat.reduceSub, Nat.reduceMul, Nat.reduceLeDiff, Nat.reduceLT, Nat.reduceBEq, Int.reduceToNat, Int.reduceLE, Int.reduceLT, Int.reduceEq, Int.reduceBEq, Int.reduceNe, Int.reduceNeg, Int.reduceBNe, Int.reduceAdd, Int.reduceSub, Int.reduceMul, reduceCtorEq, reduceIte, Bool.not_true, Bool.not_false, h1, h2]
        refine KC.mk (Text_calls Φ z) ?_
        simp (maxSteps := 2000000) -implicitDefEqProofs only [go_sem, Nat.reduceEqDiff, Nat.reduceAdd, Nat.reduceSub, Nat.reduceMul, Nat.reduceLeDiff, Nat.reduceLT, Nat.reduceBEq, Int.reduceToNat, Int.reduceLE, Int.reduceLT, Int.reduceEq, Int.reduceBEq, Int.reduceNe, Int.reduceNeg, Int.reduceBNe, Int.reduceAdd, Int.reduceSub, Int.reduceMul, reduceCtorEq, reduceIte, Bool.not_true, Bool.not_false, h2, f6, f9, f10, bytesOf_enc, encB_take, encB_drop, Int.sub_zero, beq_self_eq_true, encB_len]
        refine KD.mk (by kernel_rfl) (hK _ ?_)
        clear hK K
        repeat (first
          | with_reducible refine AStk.seq ?_
          | (refine AStk.reg rfl fun K hK => ?_; simp (maxSteps := 2000000) -implicitDefEqProofs only [go_sem, Nat.reduceEqDiff, Nat.reduceAdd, Nat.reduceSub, Nat.reduceMul, Nat.reduceLeDiff, Nat.reduceLT, Nat.reduceBEq, Int.reduceToNat, Int.reduceLE, Int.reduceLT, Int.reduceEq, Int.reduceBEq, Int.reduceNe, Int.reduceNeg, Int.reduceBNe, Int.reduceAdd, Int.reduceSub, Int.reduceMul, reduceCtorEq, reduceIte, Bool.not_true, Bool.not_false]; (first | refine hK _ ?_ | refine ⟨by omega, hK _ ?_⟩ | refine ⟨⟨by omega, by omega⟩, hK _ ?_⟩ | refine ⟨by omega, by omega, hK _ ?_⟩); clear hK K)
          | (refine AStk.drw rfl rfl fun K hK => ?_; simp (maxSteps := 2000000) -implicitDefEqProofs only [go_sem, Nat.reduceEqDiff, Nat.reduceAdd, Nat.reduceSub, Nat.reduceMul, Nat.reduceLeDiff, Nat.reduceLT, Nat.reduceBEq, Int.reduceToNat, Int.reduceLE, Int.reduceLT, Int.reduceEq, Int.reduceBEq, Int.reduceNe, Int.reduceNeg, Int.reduceBNe, Int.reduceAdd, Int.reduceSub, Int.reduceMul, reduceCtorEq, reduceIte, Bool.not_true, Bool.not_false]; refine KD.mk rfl (hK _ ?_); clear hK K)
          | with_reducible refine AStk.block ?_
          | with_reducible refine AStk.skip ?_
          | with_reducible refine AStk.exit ?_
          | with_reducible refine AStk.ret ?_
          | with_reducible refine AStk.nil ?_
          | with_reducible refine Then.exit ?_
          | with_reducible refine Then.ret ?_
          | with_reducible refine Then.normal ?_
          | with_reducible refine Exits.normal ?_
          | with_reducible refine Exits.here ?_
          | with_reducible refine Exits.ret ?_
          | with_reducible refine Exits.there (by decide) ?_
          | refine AStk.condT rfl ?_
          | refine AStk.condF rfl ?_
          | with_reducible refine AStk.goto ?_
          | with_reducible refine Then.goto ?_
          | with_reducible refine Exits.goto ?_
          | with_reducible refine Jmp.normal ?_
          | with_reducible refine Jmp.ret ?_
          | with_reducible refine Jmp.exit ?_
          | with_reducible refine Jmp.goto ?_)
        refine hK1 () _ trivial ?_
        refine Weak.of ?_ ?_ ?_ ?_ ?_ <;> simp [get_cons, refOk, Le.refl]
      · refine AStk.drw rfl rfl fun K hK => ?_
        simp (maxSteps := 2000000) -implicitDefEqProofs only [go_sem, Nat.reduceEqDiff, Nat.reduceAdd, Nat.reduceSub, Nat.reduceMul, Nat.reduceLeDiff, Nat.reduceLT, Nat.reduceBEq, Int.reduceToNat, Int.reduceLE, Int.reduceLT, Int.reduceEq, Int.reduceBEq, Int.reduceNe, Int.reduceNeg, Int.reduceBNe, Int.reduceAdd, Int.reduceSub, Int.reduceMul, reduceCtorEq, reduceIte, Bool.not_true, Bool.not_false, h1, h2]
        refine KD.mk (by kernel_rfl) (hK _ ?_)
        clear hK K
        repeat (first
          | with_reducible refine AStk.seq ?_
          | (refine AStk.reg rfl fun K hK => ?_; simp (maxSteps := 2000000) -implicitDefEqProofs only [go_sem, Nat.reduceEqDiff, Nat.reduceAdd, Nat.reduceSub, Nat.reduceMul, Nat.reduceLeDiff, Nat.reduceLT, Nat.reduceBEq, Int.reduceToNat, Int.reduceLE, Int.reduceLT, Int.reduceEq, Int.reduceBEq, Int.reduceNe, Int.reduceNeg, Int.reduceBNe, Int.reduceAdd, Int.reduceSub, Int.reduceMul, reduceCtorEq, reduceIte, Bool.not_true, Bool.not_false]; (first | refine hK _ ?_ | refine ⟨by omega, hK _ ?_⟩ | refine ⟨⟨by omega, by omega⟩, hK _ ?_⟩ | refine ⟨by omega, by omega, hK _ ?_⟩); clear hK K)
          | (refine AStk.drw rfl rfl fun K hK => ?_; simp (maxSteps := 2000000) -implicitDefEqProofs only [go_sem, Nat.reduceEqDiff, Nat.reduceAdd, Nat.reduceSub, Nat.reduceMul, Nat.reduceLeDiff, Nat.reduceLT, Nat.reduceBEq, Int.reduceToNat, Int.reduceLE, Int.reduceLT, Int.reduceEq, Int.reduceBEq, Int.reduceNe, Int.reduceNeg, Int.reduceBNe, Int.reduceAdd, Int.reduceSub, Int.reduceMul, reduceCtorEq, reduceIte, Bool.not_true, Bool.not_false]; refine KD.mk rfl (hK _ ?_); clear hK K)
          | with_reducible refine AStk.block ?_
          | with_reducible refine AStk.skip ?_
          | with_reducible refine AStk.exit ?_
          | with_reducible refine AStk.ret ?_
          | with_reducible refine AStk.nil ?_
          | with_reducible refine Then.exit ?_
          | with_reducible refine Then.ret ?_
          | with_reducible refine Then.normal ?_
          | with_reducible refine Exits.normal ?_
          | with_reducible refine Exits.here ?_
          | with_reducible refine Exits.ret ?_
          | with_reducible refine Exits.there (by decide) ?_
          | refine AStk.condT rfl ?_
          | refine AStk.condF rfl ?_
          | with_reducible refine AStk.goto ?_
          | with_reducible refine Then.goto ?_
          | with_reducible refine Exits.goto ?_
          | with_reducible refine Jmp.normal ?_
          | with_reducible refine Jmp.ret ?_
          | with_reducible refine Jmp.exit ?_
          | with_reducible refine Jmp.goto ?_)
        refine hK1 () _ trivial ?_
        refine Weak.of ?_ ?_ ?_ ?_ ?_ <;> simp [get_cons, refOk, Le.refl]
  intro _ _
  dsimp only [List.drop]
  repeat (first
    | with_reducible refine AStk.seq ?_
    | (refine AStk.reg rfl fun K hK => ?_; simp (maxSteps := 2000000) -implicitDefEqProofs only [go_sem, Nat.reduceEqDiff, Nat.reduceAdd, Nat.reduceSub, Nat.reduceMul, Nat.reduceLeDiff, Nat.reduceLT, Nat.reduceBEq, Int.reduceToNat, Int.reduceLE, Int.reduceLT, Int.reduceEq, Int.reduceBEq, Int.reduceNe, Int.reduceNeg, Int.reduceBNe, Int.reduceAdd, Int.reduceSub, Int.reduceMul, reduceCtorEq, reduceIte, Bool.not_true, Bool.not_false]; (first | refine hK _ ?_ | refine ⟨by omega, hK _ ?_⟩ | refine ⟨⟨by omega, by omega⟩, hK _ ?_⟩ | refine ⟨by omega, by omega, hK _ ?_⟩); clear hK K)
    | (refine AStk.drw rfl rfl fun K hK => ?_; simp (maxSteps := 2000000) -implicitDefEqProofs only [go_sem, Nat.reduceEqDiff, Nat.reduceAdd, Nat.reduceSub, Nat.reduceMul, Nat.reduceLeDiff, Nat.reduceLT, Nat.reduceBEq, Int.reduceToNat, Int.reduceLE, Int.reduceLT, Int.reduceEq, Int.reduceBEq, Int.reduceNe, Int.reduceNeg, Int.reduceBNe, Int.reduceAdd, Int.reduceSub, Int.reduceMul, reduceCtorEq, reduceIte, Bool.not_true, Bool.not_false]; refine KD.mk rfl (hK _ ?_); clear hK K)
    | with_reducible refine AStk.block ?_
    | with_reducible refine AStk.skip ?_
    | with_reducible refine AStk.exit ?_
    | with_reducible refine AStk.ret ?_
    | with_reducible refine AStk.nil ?_
    | with_reducible refine Then.exit ?_
    | with_reducible refine Then.ret ?_
    | with_reducible refine Then.normal ?_
    | with_reducible refine Exits.normal ?_
    | with_reducible refine Exits.here ?_
    | with_reducible refine Exits.ret ?_
    | with_reducible refine Exits.there (by decide) ?_
    | refine AStk.condT rfl ?_
    | refine AStk.condF rfl ?_
    | with_reducible refine AStk.goto ?_
    | with_reducible refine Then.goto ?_
    | with_reducible refine Exits.goto ?_
    | with_reducible refine Jmp.normal ?_
    | with_reducible refine Jmp.ret ?_
    | with_reducible refine Jmp.exit ?_
    | with_reducible refine Jmp.goto ?_)
  refine AStk.reg rfl fun K hK => ?_
  simp (maxSteps := 2000000) -implicitDefEqProofs only [go_sem, Nat.reduceEqDiff, Nat.reduceAdd, Nat.reduceSub, Nat.reduceMul, Nat.reduceLeDiff, Nat.reduceLT, Nat.reduceBEq, Int.reduceToNat, Int.reduceLE, Int.reduceLT, Int.reduceEq, Int.reduceBEq, Int.reduceNe, Int.reduceNeg, Int.reduceBNe, Int.reduceAdd, Int.reduceSub, Int.reduceMul, reduceCtorEq, reduceIte, Bool.not_true, Bool.not_false]
  refine KN.mk (Seal_calls Φ b (by omega)) ?_
  simp (maxSteps := 2000000) -implicitDefEqProofs only [go_sem, Nat.reduceEqDiff, Nat.reduceAdd, Nat.reduceSub, Nat.reduceMul, Nat.reduceLeDiff, Nat.reduceLT, Nat.reduceBEq, Int.reduceToNat, Int.reduceLE, Int.reduceLT, Int.reduceEq, Int.reduceBEq, Int.reduceNe, Int.reduceNeg, Int.reduceBNe, Int.reduceAdd, Int.reduceSub, Int.reduceMul, reduceCtorEq, reduceIte, Bool.not_true, Bool.not_false]
  refine KN.mk (Open_calls Φ b (by omega)) ?_
  simp (maxSteps := 2000000) -implicitDefEqProofs only [go_sem, Nat.reduceEqDiff, Nat.reduceAdd, Nat.reduceSub, Nat.reduceMul, Nat.reduceLeDiff, Nat.reduceLT, Nat.reduceBEq, Int.reduceToNat, Int.reduceLE, Int.reduceLT, Int.reduceEq, Int.reduceBEq, Int.reduceNe, Int.reduceNeg, Int.reduceBNe, Int.reduceAdd, Int.reduceSub, Int.reduceMul, reduceCtorEq, reduceIte, Bool.not_true, Bool.not_false, bytesOf_enc, beq_self_eq_true]
  refine hK _ ?_
  clear hK K
  repeat (first
    | with_reducible refine AStk.seq ?_
    | (refine AStk.reg rfl fun K hK => ?_; simp (maxSteps := 2000000) -implicitDefEqProofs only [go_sem, Nat.reduceEqDiff, Nat.reduceAdd, Nat.reduceSub, Nat.reduceMul, Nat.reduceLeDiff, Nat.reduceLT, Nat.reduceBEq, Int.reduceToNat, Int.reduceLE, Int.reduceLT, Int.reduceEq, Int.reduceBEq, Int.reduceNe, Int.reduceNeg, Int.reduceBNe, Int.reduceAdd, Int.reduceSub, Int.reduceMul, reduceCtorEq, reduceIte, Bool.not_true, Bool.not_false, bytesOf_enc, beq_self_eq_true]; (first | refine hK _ ?_ | refine ⟨by omega, hK _ ?_⟩ | refine ⟨⟨by omega, by omega⟩, hK _ ?_⟩ | refine ⟨by omega, by omega, hK _ ?_⟩); clear hK K)
    | (refine AStk.drw rfl rfl fun K hK => ?_; simp (maxSteps := 2000000) -implicitDefEqProofs only [go_sem, Nat.reduceEqDiff, Nat.reduceAdd, Nat.reduceSub, Nat.reduceMul, Nat.reduceLeDiff, Nat.reduceLT, Nat.reduceBEq, Int.reduceToNat, Int.reduceLE, Int.reduceLT, Int.reduceEq, Int.reduceBEq, Int.reduceNe, Int.reduceNeg, Int.reduceBNe, Int.reduceAdd, Int.reduceSub, Int.reduceMul, reduceCtorEq, reduceIte, Bool.not_true, Bool.not_false, bytesOf_enc, beq_self_eq_true]; refine KD.mk rfl (hK _ ?_); clear hK K)
    | with_reducible refine AStk.block ?_
    | with_reducible refine AStk.skip ?_
    | with_reducible refine AStk.exit ?_
    | with_reducible refine AStk.ret ?_
    | with_reducible refine AStk.nil ?_
    | with_reducible refine Then.exit ?_
    | with_reducible refine Then.ret ?_
    | with_reducible refine Then.normal ?_
    | with_reducible refine Exits.normal ?_
    | with_reducible refine Exits.here ?_
    | with_reducible refine Exits.ret ?_
    | with_reducible refine Exits.there (by decide) ?_
    | refine AStk.condT rfl ?_
    | refine AStk.condF rfl ?_
    | with_reducible refine AStk.goto ?_
    | with_reducible refine Then.goto ?_
    | with_reducible refine Exits.goto ?_
    | with_reducible refine Jmp.normal ?_
    | with_reducible refine Jmp.ret ?_
    | with_reducible refine Jmp.exit ?_
    | with_reducible refine Jmp.goto ?_)
  refine FPost.ret (rs := #[.tmp 6]) Try.results5 (by simp (maxSteps := 2000000) -implicitDefEqProofs only [go_sem, Nat.reduceEqDiff, Nat.reduceAdd, Nat.reduceSub, Nat.reduceMul, Nat.reduceLeDiff, Nat.reduceLT, Nat.reduceBEq, Int.reduceToNat, Int.reduceLE, Int.reduceLT, Int.reduceEq, Int.reduceBEq, Int.reduceNe, Int.reduceNeg, Int.reduceBNe, Int.reduceAdd, Int.reduceSub, Int.reduceMul, reduceCtorEq, reduceIte, Bool.not_true, Bool.not_false]; rfl) ?_
  exact Le.refl _
end Go.Va.Try
