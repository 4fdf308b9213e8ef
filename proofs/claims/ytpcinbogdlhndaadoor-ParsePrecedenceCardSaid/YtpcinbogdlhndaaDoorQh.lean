/-
  The signs of a pair, then the rest of the run.
-/
import Derived.Test.YtpcinbogdlhndaaDoorQ
namespace Go.Proofs.YtpcinbogdlhndaaDoor.Ai
open Go Go.RowKit
set_option maxRecDepth 100000

/-- The two calls of the signs; then the rest. -/
theorem head4 (cf : CallF) (k : Nat) (m n : Int) (a b c d e f : V) (h1 : cf 8 [.int .u8 m] hp = some (.tup [a, b, c], hp)) (h2 : cf 8 [.int .u8 n] hp = some (.tup [d, e, f], hp)) :
    exec cf k f4.body (enter 0 [.int .u8 m, .int .u8 n]) hp = exec cf k rest4 (fr4 m n a b c d e f) hp := by
  have e0 : f4.body = .seq reg40 (.seq reg41 (.seq reg42 rest4)) := rfl
  have e1 : exec cf k reg40 (enter 0 [.int .u8 m, .int .u8 n]) hp = some (.norm, [(4, .bool false), (0, .int .u8 m), (1, .int .u8 n)], hp) := by kernel_rfl
  have e2 : exec cf k reg41 [(4, .bool false), (0, .int .u8 m), (1, .int .u8 n)] hp = some (.norm, [(7, c), (6, b), (5, a), (4, .bool false), (0, .int .u8 m), (1, .int .u8 n)], hp) := by
    simp [reg41, f4, exec, runOps, wantedv, stepc, I.sort, stepC, stepP, evs, O.ev, Fr.get_cons, putv, Fr.set, h1]
    exact ⟨by kernel_rfl, by kernel_rfl⟩
  have e3 : exec cf k reg42 [(7, c), (6, b), (5, a), (4, .bool false), (0, .int .u8 m), (1, .int .u8 n)] hp = some (.norm, fr4 m n a b c d e f, hp) := by
    simp [reg42, f4, exec, runOps, wantedv, stepc, I.sort, stepC, stepP, evs, O.ev, Fr.get_cons, putv, Fr.set, h2]
    exact ⟨by kernel_rfl, by kernel_rfl⟩
  rw [e0]
  generalize rest4 = r
  simp only [exec, e1, e2, e3]

theorem fin4_eq {x : Option (X × Fr × H)} (h : fin4 x = true) : ∃ e fr h', x = some (e, fr, h') ∧ e.isBrk = false ∧ Fr.get fr 4 = some (.bool true) := by
  unfold fin4 at h
  split at h
  · rename_i fr h'
    split at h
    · rename_i hg
      exact ⟨_, _, _, rfl, rfl, hg⟩
    · cases h
  · rename_i fr h'
    split at h
    · rename_i hg
      exact ⟨_, _, _, rfl, rfl, hg⟩
    · cases h
  · cases h
theorem sign_run (m : Int) (h0 : 0 ≤ m) (h1 : m < 256) : call fns 3000 8 [.int .u8 m] hp = some (sgv (m.toNat % 6), hp) := by
  have := List.all_eq_true.1 sign_all m.toNat (List.mem_range.2 (by omega))
  unfold signOk at this
  have e : Int.ofNat m.toNat = m := by simp; omega
  rw [e] at this
  exact ends_eq this
theorem prec_run (m n : Int) (hm0 : 0 ≤ m) (hm1 : m < 256) (hn0 : 0 ≤ n) (hn1 : n < 256) : gives true (call fns 3001 4 [.int .u8 m, .int .u8 n] hp) = true := by
  rw [call_succ]
  show gives true (call1 (call fns 3000) 3000 f4 [.int .u8 m, .int .u8 n] hp) = true
  unfold call1
  rw [head4 (call fns 3000) 3000 m n _ _ _ _ _ _ (sign_run m hm0 hm1) (sign_run n hn0 hn1)]
  obtain ⟨e, fr, h', he, hb, hg⟩ := fin4_eq (pairs4 (m.toNat % 6) (n.toNat % 6) (Nat.mod_lt _ (by decide)) (Nat.mod_lt _ (by decide)) m n)
  rw [he]
  have r1 : f4.res = [.tmp 4] := rfl
  have r2 : f4.fz = false := rfl
  simp only [hb, r1, r2, rvs, rv, hg, pack, gives, Bool.false_eq_true, if_false, beq_self_eq_true]
end Go.Proofs.YtpcinbogdlhndaaDoor.Ai
