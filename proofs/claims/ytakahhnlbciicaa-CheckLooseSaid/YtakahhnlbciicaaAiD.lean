/-
  Regions, code, functions, closed runs: what the evaluator answers, the program answers. By an AI agent; no person has read it.
-/
import Derived.Test.YtakahhnlbciicaaAiC
import Derived.Calls
import Derived.Orders
import Derived.LoopN
import Derived.ProofKit
noncomputable section
namespace Go.Proofs.Ytakahhnlbciicaa.Ai
open Go Go.RowKit

section
variable {num : Nat → Nat} {gl : List Nat} {S : Env} {nt : Nat} {fr : Fr} {a : Act} {P : Program} {w0 w : World} {h : H} {ixf : Option Nat}

/-- The calls that the evaluator answers are answered so. -/
def CfOk (num : Nat → Nat) (gl : List Nat) (P : Program) (w0 : World) (cf : CallF) : Prop :=
  ∀ f vs h r h', cf f vs h = some (r, h') → ∀ S w args, Sim num w0 S h w → Glob gl S → VRels num S vs args.toList →
    (∀ w', (callFunc (num f) args).run P w' = .ok (.enter (num f) args) w') ∧
    Calls P (num f) args w fun e w' => ∃ T c, e = .returned c ∧ S.le T ∧ VRel num T r c ∧ Sim num w0 T h' w'

/-- Calls, appends, steps of an iterator, and what is frozen. -/
def okC (num : Nat → Nat) (gl : List Nat) (P : Program) (o : Op) (i : I) : Bool :=
  match i with
  | .call f xs => (match o with
    | .call c => (match c.callee with | .value (.func g) => num f == g | _ => false) && okOs num gl c.args.toList xs
    | _ => false)
  | .callv x xs => (match o with
    | .call c => (match c.callee with | .value y => okO num gl y x | _ => false) && okOs num gl c.args.toList xs
    | _ => false)
  | .app e s x => (match o with
    | .call c => (match c.callee with | .builtin .append => true | _ => false) &&
        (match c.args.toList, c.argTypes.toList with | [s', x'], [t, t2] => okO num gl s' s && okO num gl x' x && appB P e t t2 | _, _ => false)
    | _ => false)
  | .appz e s x => (match o with
    | .call c => (match c.callee with | .builtin .append => true | _ => false) &&
        (match c.args.toList, c.argTypes.toList with | [s', x'], [t, t2] => okO num gl s' s && okO num gl x' x && appB P e t t2 | _, _ => false)
    | _ => false)
  | .nxt x => (match o with | .next x' b => b && okO num gl x' x | _ => false)
  | .fz x => (match o with | .move x' | .assign x' => okO num gl x' x | _ => false)
  | _ => false

def okR (num : Nat → Nat) (gl : List Nat) (P : Program) (o : Op) (i : I) : Bool :=
  match i with
  | .ld n ag y => (match o with | .load t x => sizeB P t n && aggB P t ag && okO num gl x y | _ => false)
  | _ => false
def okW (num : Nat → Nat) (gl : List Nat) (P : Program) (o : Op) (i : I) : Bool :=
  match i with
  | .st n y z => (match o with | .store t x x2 => sizeB P t n && okO num gl x y && okO num gl x2 z | _ => false)
  | _ => false

/-- Is the evaluator's operation the program's? -/
def okOp (num : Nat → Nat) (gl : List Nat) (ixf : Option Nat) (P : Program) (o : Op) (i : I) : Bool :=
  match i.sort with
  | .p => (match i with | .bslF .. => okB num gl P o i | _ => okP num gl ixf P o i)
  | .r => okR num gl P o i
  | .w => okW num gl P o i
  | .e => (match i with | .bsl .. => okBr num gl P o i | _ => okE num gl P o i)
  | .c => okC num gl P o i

theorem Oper.wp_value {o : Oper} {K : Act → World → Prop} {Q : Exit → Act → World → Prop} {c : Value} {w' : World} (hr : (execOp a.eval o).run P w = .ok (.value c) w') (hk : K (a.put o.dst c) w') : o.wp P a w K Q := by
  unfold Oper.wp
  rw [hr]
  exact hk

theorem call_wp {cf : CallF} (hcf : CfOk num gl P w0 cf) (hg : Glob gl S) (s : Sim num w0 S h w) {o : Oper} {f : Nat} {vs : List V} {args : Array Value} (hargs : VRels num S vs args.toList) {r : V} {h' : H} (hc : cf f vs h = some (r, h'))
    (hrun : (execOp a.eval o).run P w = (callFunc (num f) args).run P w) {K : Act → World → Prop} {Q : Exit → Act → World → Prop}
    (hK : ∀ T c w', S.le T → Sim num w0 T h' w' → VRel num T r c → K (a.put o.dst c) w') : o.wp P a w K Q := by
  obtain ⟨h1, h2⟩ := hcf f vs h r h' hc S w args s hg hargs
  unfold Oper.wp
  rw [hrun, h1 w]
  simp only [Oper.upon]
  refine Calls.mono h2 (fun e w' he => ?_)
  obtain ⟨T, c, rfl, k1, k2, k3⟩ := he
  exact hK T c w' k1 k3 k2

theorem C_sound {cf : CallF} (hcf : CfOk num gl P w0 cf) (hg : Glob gl S) (hf : FRel num S nt fr a) (s : Sim num w0 S h w) {nid : Nat} {o : Oper} {i : I} (hfree : i.takes = true → h.get nid = none ∧ nid < h.nx * 256)
    (hok : okC num gl P o.op i = true) {v : V} {h' : H} (hs : stepC cf fr h nid i = some (v, h')) {K : Act → World → Prop} {Q : Exit → Act → World → Prop}
    (hK : ∀ T c w', S.le T → Sim num w0 T h' w' → VRel num T v c → K (a.put o.dst c) w') : o.wp P a w K Q := by
  cases i <;> simp only [okC] at hok <;> try (cases hok; done)
  case call f xs =>
    split at hok
    · rename_i c heq
      simp only [Bool.and_eq_true] at hok
      obtain ⟨h1, h2⟩ := hok
      split at h1
      · rename_i g hcal
        simp only [beq_iff_eq] at h1
        subst h1
        simp only [stepC] at hs
        split at hs
        · rename_i vs hvs
          have r := okOs_rel hg hf h2 hvs
          refine call_wp hcf hg s (args := c.args.map a.eval) (by simpa using r) hs ?_ hK
          simp [execOp, heq, resolve, hcal, Act.eval, Deferred.ofValue, invoke]
        · cases hs
      · cases h1
    · cases hok
  case callv x xs =>
    split at hok
    · rename_i c heq
      simp only [Bool.and_eq_true] at hok
      obtain ⟨h1, h2⟩ := hok
      split at h1
      · rename_i y hcal
        simp only [stepC] at hs
        split at hs
        · rename_i f va vb vs hx hvs
          have r := okOs_rel hg hf h2 hvs
          have rf := okO_rel hg hf h1 hx
          generalize hy : a.eval y = fv at rf
          cases rf with
          | fn f va vb ca cb hla hlb ha hb =>
            have ra : VRels num S va ca.toList := ⟨by simpa using hla, fun i c v hc hv => ha i c v hc (by simpa using hv)⟩
            have rb : VRels num S vb cb.toList := ⟨by simpa using hlb, fun i c v hc hv => hb i c v hc (by simpa using hv)⟩
            refine call_wp hcf hg s (args := ca ++ c.args.map a.eval ++ cb) (by simpa using (ra.append r).append rb) hs ?_ hK
            simp [execOp, heq, resolve, hcal, hy, Deferred.ofValue, invoke]
        · cases hs
      · cases h1
    · cases hok
  case app e sx x =>
    split at hok
    · rename_i c heq
      simp only [Bool.and_eq_true] at hok
      obtain ⟨h1, h2⟩ := hok
      split at h1
      · rename_i hcal
        split at h2
        · rename_i s' x' t t2 hargs htys
          simp only [Bool.and_eq_true] at h2
          obtain ⟨⟨h2, h3⟩, h4⟩ := h2
          have ha : c.args = #[s', x'] := by rw [← Array.toArray_toList (xs := c.args), hargs]
          have ht : c.argTypes = #[t, t2] := by rw [← Array.toArray_toList (xs := c.argTypes), htys]
          obtain ⟨el, ti, z, at'⟩ := appB_spec h4
          simp only [stepC] at hs
          split at hs
          · rename_i sv xv hsv hxv
            obtain ⟨fn, fx⟩ := hfree rfl
            obtain ⟨T, d, w', k1, k2, k3, k4⟩ := app_sound (P := P) (ty := o.type) s fn fx at' hs (okO_rel hg hf h2 hsv) (okO_rel hg hf h3 hxv)
            refine Oper.wp_value ?_ (hK T d w' k1 k4 k3)
            simp only [execOp, heq, resolve, hcal, ha, ht, Sem.run_bind, Sem.run_pure, Result.andThen_ok, invoke, builtin]
            simp [k2]
          · cases hs
        · cases h2
      · cases h1
    · cases hok
  case appz e sx x =>
    split at hok
    · rename_i c heq
      simp only [Bool.and_eq_true] at hok
      obtain ⟨h1, h2⟩ := hok
      split at h1
      · rename_i hcal
        split at h2
        · rename_i s' x' t t2 hargs htys
          simp only [Bool.and_eq_true] at h2
          obtain ⟨⟨h2, h3⟩, h4⟩ := h2
          have ha : c.args = #[s', x'] := by rw [← Array.toArray_toList (xs := c.args), hargs]
          have ht : c.argTypes = #[t, t2] := by rw [← Array.toArray_toList (xs := c.argTypes), htys]
          obtain ⟨el, ti, z, at'⟩ := appB_spec h4
          simp only [stepC] at hs
          split at hs
          · rename_i sv xv hsv hxv
            obtain ⟨fn, fx⟩ := hfree rfl
            unfold appzv at hs
            split at hs
            · rename_i r1 h1' hs1
              obtain ⟨T, d, w', k1, k2, k3, k4⟩ := app_sound (P := P) (ty := o.type) s fn fx at' hs1 (okO_rel hg hf h2 hsv) (okO_rel hg hf h3 hxv)
              obtain ⟨U, m1, m2, m3⟩ := frz1_sound k4 hs k3
              refine Oper.wp_value ?_ (hK U d w' (Env.le_trans k1 m1) m3 m2)
              simp only [execOp, heq, resolve, hcal, ha, ht, Sem.run_bind, Sem.run_pure, Result.andThen_ok, invoke, builtin]
              simp [k2]
            · cases hs
          · cases hs
        · cases h2
      · cases h1
    · cases hok
  case nxt x =>
    split at hok
    · rename_i x' b heq
      simp only [Bool.and_eq_true] at hok
      obtain ⟨rfl, h1⟩ := hok
      simp only [stepC] at hs
      split at hs
      · rename_i xv hx
        obtain ⟨d, w', k1, k2, k3⟩ := nxt_sound (P := P) s hs (okO_rel hg hf h1 hx) o.type
        refine Oper.wp_value ?_ (hK S d w' (Env.le_refl _) k3 k2)
        simp only [execOp, heq, Sem.run_bind, k1, Result.andThen_ok, Sem.run_pure]
      · cases hs
    · cases hok
  case fz x =>
    have main : ∀ x', okO num gl x' x = true → (execOp a.eval o).run P w = .ok (.value (a.eval x')) w → o.wp P a w K Q := by
      intro x' h1 h2
      simp only [stepC] at hs
      split at hs
      · rename_i xv hx
        obtain ⟨T, k1, k2, k3⟩ := frz_sound s hs (okO_rel hg hf h1 hx)
        exact Oper.wp_value h2 (hK T _ w k1 k3 k2)
      · cases hs
    split at hok
    · rename_i x' heq; exact main x' hok (by simp only [execOp, heq, Sem.run_pure])
    · rename_i x' heq; exact main x' hok (by simp only [execOp, heq, Sem.run_pure])
    · cases hok

theorem op_sound {cf : CallF} (hcf : CfOk num gl P w0 cf) (hix : ∀ f, ixf = some f → ∀ args w, (callFunc f args).run P w = ((Extern.BytealgIndexByte.indexByte args).run P w).andThen fun v w' => .ok (.value v) w')
    (hg : Glob gl S) (hf : FRel num S nt fr a) (s : Sim num w0 S h w) {nid : Nat} {o : Oper} {i : I} (hfree : i.takes = true → h.get nid = none ∧ nid < h.nx * 256) (hdw : i.sort = .w → o.dst = none)
    (hok : okOp num gl ixf P o.op i = true) {v : V} {h' : H} (hs : stepc cf fr h nid i = some (v, h')) {K : Act → World → Prop} {Q : Exit → Act → World → Prop}
    (hK : ∀ T c w', S.le T → Sim num w0 T h' w' → VRel num T v c → K (a.put o.dst c) w') : o.wp P a w K Q := by
  unfold stepc at hs
  unfold okOp at hok
  split at hs
  · rename_i hsort
    rw [hsort] at hok
    simp only [Option.map_eq_some_iff, Prod.mk.injEq] at hs
    obtain ⟨v', hv, rfl, rfl⟩ := hs
    by_cases hb : ∃ e z n ps, i = .bslF e z n ps
    · obtain ⟨e, z, n, ps, rfl⟩ := hb
      simp only at hok
      obtain ⟨T, c, w', k1, k2, k3, k4⟩ := bslF_sound hg hf s hok hv
      exact Oper.wp_value k2 (hK T c w' k1 k4 k3)
    · have hok' : okP num gl ixf P o.op i = true := by
        cases i <;> first | exact hok | exact absurd ⟨_, _, _, _, rfl⟩ hb
      obtain ⟨c, k1, k2⟩ := pure_sound hg hf hix (fun e z n ps e1 => hb ⟨e, z, n, ps, e1⟩) hok' hv w
      exact Oper.wp_value k1 (hK S c w (Env.le_refl _) s k2)
  · rename_i hsort
    rw [hsort] at hok
    cases i <;> simp only [okR] at hok <;> try (cases hok; done)
    rename_i n ag y
    split at hok
    · rename_i t x heq
      simp only [Bool.and_eq_true] at hok
      obtain ⟨⟨h1, h2⟩, h3⟩ := hok
      simp only at hs
      split at hs
      · rename_i p hp
        simp only [Option.map_eq_some_iff, Prod.mk.injEq] at hs
        obtain ⟨v', hv, rfl, rfl⟩ := hs
        obtain ⟨d, k1, k2⟩ := ld_run (P := P) s hv (okO_rel hg hf h3 hp) h1 h2
        refine Oper.wp_value ?_ (hK S d w (Env.le_refl _) s k2)
        simp only [execOp, heq, Sem.run_bind, k1, Result.andThen_ok, Sem.run_pure]
      · cases hs
    · cases hok
  · rename_i hsort
    rw [hsort] at hok
    simp only [Option.map_eq_some_iff, Prod.mk.injEq] at hs
    obtain ⟨⟨v', b⟩, hv, rfl, rfl⟩ := hs
    obtain ⟨fn, fx⟩ := hfree (by unfold I.takes; split <;> simp_all)
    by_cases hb : ∃ e z n ps, i = .bsl e z n ps
    · obtain ⟨e, z, n, ps, rfl⟩ := hb
      simp only at hok
      obtain ⟨T, c, w', k1, k2, k3, k4⟩ := bsl_sound hg hf s fn fx hok hv
      exact Oper.wp_value k2 (hK T c w' k1 k4 k3)
    · have hok' : okE num gl P o.op i = true := by
        cases i <;> first | exact hok | exact absurd ⟨_, _, _, _, rfl⟩ hb
      obtain ⟨T, c, w', k1, k2, k3, k4⟩ := E_sound hg hf s fn fx hok' hv
      exact Oper.wp_value k2 (hK T c w' k1 k4 k3)
  · rename_i hsort
    rw [hsort] at hok
    have hd := hdw hsort
    cases i <;> simp only [okW] at hok <;> try (cases hok; done)
    rename_i n y z
    split at hok
    · rename_i t x x2 heq
      simp only [Bool.and_eq_true] at hok
      obtain ⟨⟨h1, h2⟩, h3⟩ := hok
      simp only at hs
      split at hs
      · rename_i p q hp hq
        simp only [Option.map_eq_some_iff, Prod.mk.injEq] at hs
        obtain ⟨h2', hv, rfl, rfl⟩ := hs
        obtain ⟨w', k1, k2⟩ := stv_sound (P := P) s hv (okO_rel hg hf h2 hp) (okO_rel hg hf h3 hq) h1
        unfold Oper.wp
        have : (execOp a.eval o).run P w = .ok .skip w' := by simp only [execOp, heq, Sem.run_bind, k1, Result.andThen_ok, Sem.run_pure]
        rw [this]
        exact hK S undef w' (Env.le_refl _) k2 (.tup [] #[] rfl (fun i c v hc => by simp at hc))
      · cases hs
    · cases hok
  · rename_i hsort
    rw [hsort] at hok
    exact C_sound hcf hg hf s hfree hok hs hK

end
end Go.Proofs.Ytakahhnlbciicaa.Ai

namespace Go.Proofs.Ytakahhnlbciicaa.Ai
open Go Go.RowKit

section
variable {num : Nat → Nat} {gl : List Nat} {S : Env} {nt : Nat} {fr : Fr} {a : Act} {P : Program} {w0 w : World} {h : H} {ixf : Option Nat}

def okG (ops : Array Oper) (g : Option (Nat × Bool)) (k : Option (Nat × Bool)) : Bool :=
  match g, k with
  | none, none => true
  | some (j, b), some (t, c) => (b == c) && ((ops[j]?).bind (·.dst) == some t)
  | _, _ => false

theorem wanted_rel (hf : FRel num S nt fr a) {ops : Array Oper} {o : Oper} {k : Option (Nat × Bool)} (hk : okG ops o.guard k = true) {b : Bool} (hw : wantedv fr k = some b) :
    Region.wanted o (yielded ops a.tmps) = b := by
  unfold okG at hk
  unfold Region.wanted
  split at hk
  · rename_i hg
    rw [hg]
    simp only [wantedv, Option.some.injEq] at hw
    exact hw
  · rename_i j b1 t c hg
    rw [hg]
    simp only [Bool.and_eq_true, beq_iff_eq] at hk
    obtain ⟨rfl, hk⟩ := hk
    simp only [wantedv] at hw
    simp only [yielded, hk, Option.bind_some]
    cases ht : Fr.get fr t with
    | none => rw [ht] at hw; cases hw
    | some v =>
      rw [ht] at hw
      have r := hf.rel t v ht
      cases v <;> simp only at hw <;> try (cases hw; done)
      · rename_i c
        simp only [Option.some.injEq] at hw
        have e := r.bool_inv
        cases hq : a.tmps[t]? with
        | none => rw [Array.getD_eq_getD_getElem?, hq] at e; cases e
        | some u =>
          rw [Array.getD_eq_getD_getElem?, hq] at e
          simp only [Option.getD_some] at e
          subst e
          rw [← hw]
          cases c <;> cases b1 <;> rfl
      · simp only [Option.some.injEq] at hw
        cases hq : a.tmps[t]? with
        | none => rw [← hw]; rfl
        | some u =>
          rw [Array.getD_eq_getD_getElem?, hq] at r
          simp only [Option.getD_some] at r
          cases r
          rw [← hw]; rfl
  · cases hk

/-- The operation at its place. -/
def okAt (num : Nat → Nat) (gl : List Nat) (ixf : Option Nat) (P : Program) (nt : Nat) (ops : Array Oper) (x : Op1) : Bool :=
  match ops[x.ix]? with
  | some o => (o.dst == x.dst) && (match x.dst with | some d => decide (d < nt) && !(x.op.sort == .w) | none => true) && okG ops o.guard x.g && okOp num gl ixf P o.op x.op
  | none => false

structure AtOk (num : Nat → Nat) (gl : List Nat) (ixf : Option Nat) (P : Program) (nt : Nat) (ops : Array Oper) (x : Op1) (o : Oper) : Prop where
  at' : ops[x.ix]? = some o
  dst : o.dst = x.dst
  lt : ∀ d, x.dst = some d → d < nt
  w : x.op.sort = .w → o.dst = none
  g : okG ops o.guard x.g = true
  op : okOp num gl ixf P o.op x.op = true
theorem okAt_spec {ops : Array Oper} {x : Op1} (hk : okAt num gl ixf P nt ops x = true) : ∃ o, AtOk num gl ixf P nt ops x o := by
  unfold okAt at hk
  split at hk
  · rename_i o ho
    simp only [Bool.and_eq_true, beq_iff_eq] at hk
    obtain ⟨⟨⟨h1, h2⟩, h3⟩, h4⟩ := hk
    refine ⟨o, ho, h1, fun d hd => ?_, fun hw => ?_, h3, h4⟩
    · rw [hd] at h2
      simp only [Bool.and_eq_true, decide_eq_true_eq] at h2
      exact h2.1
    · cases hd : x.dst with
      | none => rw [h1, hd]
      | some d =>
        rw [hd] at h2
        simp [hw] at h2
  · cases hk

/-- One operation. -/
theorem op1_wp {cf : CallF} (hcf : CfOk num gl P w0 cf) (hix : ∀ f, ixf = some f → ∀ args w, (callFunc f args).run P w = ((Extern.BytealgIndexByte.indexByte args).run P w).andThen fun v w' => .ok (.value v) w')
    (hg : Glob gl S) (hf : FRel num S nt fr a) (s : Sim num w0 S h w) {tick : Nat} {ops : Array Oper} {x : Op1} (hok : okAt num gl ixf P nt ops x = true)
    (hfree : x.ix < 256 ∧ (x.op.takes = true → h.get (tick * 256 + x.ix) = none ∧ tick < h.nx)) {v : V} {h1 : H} {ran : Bool} (hs : opv cf tick fr h x = some (v, h1, ran)) {K : Act → World → Prop} {Q : Exit → Act → World → Prop}
    (hK : ∀ T a' w', S.le T → Sim num w0 T h1 w' → FRel num T nt (putv fr x.dst v) a' → K a' w') : wpOp P ops Q x.ix K a w := by
  obtain ⟨o, ho⟩ := okAt_spec hok
  unfold wpOp
  rw [ho.at']
  simp only
  unfold opv at hs
  cases hw : wantedv fr x.g with
  | none => rw [hw] at hs; cases hs
  | some b =>
    rw [hw] at hs
    rw [wanted_rel hf ho.g hw]
    cases b
    · simp only [Option.some.injEq, Prod.mk.injEq] at hs
      obtain ⟨rfl, rfl, rfl⟩ := hs
      simp only [Bool.false_eq_true, if_false]
      refine hK S _ w (Env.le_refl _) s ?_
      rw [ho.dst]
      exact hf.put ho.lt .und
    · simp only [Option.map_eq_some_iff] at hs
      obtain ⟨⟨v', h2⟩, hs, e⟩ := hs
      simp only [Prod.mk.injEq] at e
      obtain ⟨rfl, rfl, rfl⟩ := e
      simp only [if_true]
      refine .inl (op_sound hcf hix hg hf s (fun ht => ⟨(hfree.2 ht).1, ?_⟩) ho.w ho.op hs (fun T c w' k1 k2 k3 => ?_))
      · have := (hfree.2 ht).2
        have h3 := hfree.1
        have : (tick + 1) * 256 ≤ h.nx * 256 := Nat.mul_le_mul_right _ this
        omega
      · refine hK T _ w' k1 k2 ?_
        rw [ho.dst]
        exact (hf.mono k1).put ho.lt k3

/-- Operations in their order. -/
theorem ops_sound {cf : CallF} (hd : CDom cf) (hcf : CfOk num gl P w0 cf) (hix : ∀ f, ixf = some f → ∀ args w, (callFunc f args).run P w = ((Extern.BytealgIndexByte.indexByte args).run P w).andThen fun v w' => .ok (.value v) w')
    {tick : Nat} {lgd : Bool} {ops : Array Oper} {Q : Exit → Act → World → Prop} : ∀ (l : List Op1) {S : Env} {fr : Fr} {h : H} {lg : Log} {a : Act} {w : World} {fE : Fr} {hE : H} {lE : Log}
      (_ : runOps cf tick lgd l fr h lg = some (fE, hE, lE)) (_ : Glob gl S) (_ : FRel num S nt fr a) (_ : Sim num w0 S h w) (_ : Free tick h l) (_ : (l.map (·.ix)).Nodup)
      (_ : l.all (okAt num gl ixf P nt ops) = true) (_ : ∀ T a' w', S.le T → Sim num w0 T hE w' → FRel num T nt fE a' → Q .normal a' w'), wpOps P ops Q (l.map (·.ix)) a w
  | [], S, fr, h, lg, a, w, fE, hE, lE, hr, hg, hf, s, _, _, _, hQ => by
    simp only [runOps, Option.some.injEq, Prod.mk.injEq] at hr
    obtain ⟨rfl, rfl, rfl⟩ := hr
    exact hQ S a w (Env.le_refl _) s hf
  | x :: l, S, fr, h, lg, a, w, fE, hE, lE, hr, hg, hf, s, hfr, hnd, hok, hQ => by
    rw [runOps_cons] at hr
    simp only [List.map_cons, List.nodup_cons] at hnd
    simp only [List.all_cons, Bool.and_eq_true] at hok
    rw [List.map_cons, wpOps_cons]
    cases hs : opv cf tick fr h x with
    | none => rw [hs] at hr; cases hr
    | some p =>
      obtain ⟨v, h1, ran⟩ := p
      rw [hs] at hr
      exact op1_wp hcf hix hg hf s hok.1 (hfr x (List.mem_cons_self ..)) hs (fun T a' w' k1 k2 k3 =>
        ops_sound hd hcf hix l hr (hg.mono k1) k3 k2 (Free.step hd (fun o ho => hfr o (List.mem_cons_of_mem _ ho)) hnd.1 hs) hnd.2 hok.2 (fun U a2 w2 m1 => hQ U a2 w2 (Env.le_trans k1 m1)))

/-- What each operation waits for. -/
def depsOf (ms : List Nat) (o : Oper) : Nat := o.after.toList.foldl (fun acc e => if Region.binds .any e then acc ||| 2 ^ e.on ||| ms.getD e.on 0 else acc) 0
def masksOf : List Oper → List Nat → List Nat
  | [], ms => ms
  | o :: l, ms => masksOf l (ms ++ [depsOf ms o])

theorem depsOf_spec (ms : List Nat) (j : Nat) : ∀ (es : List Edge) (acc : Nat), (es.foldl (fun acc e => if Region.binds .any e then acc ||| 2 ^ e.on ||| ms.getD e.on 0 else acc) acc).testBit j = true →
    acc.testBit j = true ∨ ∃ e ∈ es, Region.binds .any e = true ∧ (e.on = j ∨ (ms.getD e.on 0).testBit j = true)
  | [], acc, h => .inl h
  | e :: es, acc, h => by
    simp only [List.foldl_cons] at h
    rcases depsOf_spec ms j es _ h with h | ⟨x, hx, h1, h2⟩
    · split at h
      · rename_i hb
        simp only [Nat.testBit_or, Bool.or_eq_true] at h
        rcases h with (h | h) | h
        · exact .inl h
        · refine .inr ⟨e, List.mem_cons_self .., hb, .inl ?_⟩
          rw [Nat.testBit_two_pow] at h
          simpa using h
        · exact .inr ⟨e, List.mem_cons_self .., hb, .inr h⟩
      · exact .inl h
    · exact .inr ⟨x, List.mem_cons_of_mem _ hx, h1, h2⟩

theorem masksOf_spec : ∀ (l : List Oper) (pre : List Oper) (ms : List Nat) (_ : ms.length = pre.length)
    (_ : ∀ (i : Nat) (o : Oper), pre[i]? = some o → ∀ j, (ms.getD i 0).testBit j = true → ∃ e ∈ o.after.toList, Region.binds .any e = true ∧ (e.on = j ∨ (ms.getD e.on 0).testBit j = true)),
    ∀ (i : Nat) (o : Oper), (pre ++ l)[i]? = some o → ∀ j, ((masksOf l ms).getD i 0).testBit j = true → ∃ e ∈ o.after.toList, Region.binds .any e = true ∧ (e.on = j ∨ ((masksOf l ms).getD e.on 0).testBit j = true)
  | [], pre, ms, hl, hp => by simpa [masksOf] using hp
  | o :: l, pre, ms, hl, hp => by
    intro i x hi j hj
    have key := masksOf_spec l (pre ++ [o]) (ms ++ [depsOf ms o]) (by simp [hl]) (fun i x hi j hj => by
      have up : ∀ k, (ms.getD k 0).testBit j = true → ((ms ++ [depsOf ms o]).getD k 0).testBit j = true := by
        intro k hk
        by_cases hlt : k < ms.length
        · rw [List.getD_eq_getElem?_getD, List.getElem?_append_left hlt, ← List.getD_eq_getElem?_getD]; exact hk
        · rw [List.getD_eq_getElem?_getD, List.getElem?_eq_none (by omega)] at hk
          simp at hk
      by_cases hlt : i < pre.length
      · rw [List.getElem?_append_left hlt] at hi
        rw [List.getD_eq_getElem?_getD, List.getElem?_append_left (by omega), ← List.getD_eq_getElem?_getD] at hj
        obtain ⟨e, h1, h2, h3⟩ := hp i x hi j hj
        exact ⟨e, h1, h2, h3.imp id (up _)⟩
      · by_cases heq : i = pre.length
        · subst heq
          rw [List.getElem?_append_right (Nat.le_refl _)] at hi
          simp at hi
          subst hi
          rw [List.getD_eq_getElem?_getD, List.getElem?_append_right (by omega)] at hj
          simp [hl] at hj
          unfold depsOf at hj
          rcases depsOf_spec ms j _ 0 hj with h | ⟨e, h1, h2, h3⟩
          · simp at h
          · exact ⟨e, h1, h2, h3.imp id (up _)⟩
        · rw [List.getElem?_eq_none (by simp; omega)] at hi; cases hi)
    exact key i x (by simpa using hi) j hj

theorem masks_spec (ops : Array Oper) : ∀ (i : Nat) (o : Oper), ops[i]? = some o → ∀ j, ((masksOf ops.toList []).getD i 0).testBit j = true →
    ∃ e ∈ o.after.toList, Region.binds .any e = true ∧ (e.on = j ∨ ((masksOf ops.toList []).getD e.on 0).testBit j = true) := fun i o hi =>
  masksOf_spec ops.toList [] [] rfl (fun i o hi => by simp at hi) i o (by simpa using hi)

/-- Every pair of operations has an order, or may be swapped. -/
def pairOk (ms : List Nat) (chk : List (Bool × Nat × Nat)) (j i : Op1) : Bool := (ms.getD i.ix 0).testBit j.ix || (apart j i && sortsOk chk j i)
def pairsOk (ms : List Nat) (chk : List (Bool × Nat × Nat)) : List Op1 → Bool
  | [] => true
  | j :: l => l.all (pairOk ms chk j) && pairsOk ms chk l
/-- What an operation waits for stands ahead of it. -/
def topoOk (ops : Array Oper) : List Op1 → List Nat → Bool
  | [], _ => true
  | x :: l, seen => (match ops[x.ix]? with | some o => o.after.toList.all (fun e => !Region.binds .any e || seen.contains e.on) | none => false) && topoOk ops l (x.ix :: seen)

theorem pairsOk_split {ms : List Nat} {chk : List (Bool × Nat × Nat)} : ∀ (l1 : List Op1) {x : Op1} {l2 : List Op1}, pairsOk ms chk (l1 ++ x :: l2) = true → (∀ j ∈ l1, pairOk ms chk j x = true) ∧ pairsOk ms chk (l1 ++ l2) = true
  | [], x, l2, h => by
    simp only [List.nil_append, pairsOk, Bool.and_eq_true] at h
    exact ⟨fun j hj => by simp at hj, h.2⟩
  | y :: l1, x, l2, h => by
    simp only [List.cons_append, pairsOk, Bool.and_eq_true] at h
    obtain ⟨h1, h2⟩ := pairsOk_split l1 h.2
    have h3 := List.all_eq_true.1 h.1
    refine ⟨fun j hj => ?_, ?_⟩
    · rcases List.mem_cons.1 hj with rfl | hj
      · exact h3 x (by simp)
      · exact h1 j hj
    · simp only [List.cons_append, pairsOk, Bool.and_eq_true]
      refine ⟨List.all_eq_true.2 fun z hz => h3 z ?_, h2⟩
      rcases List.mem_append.1 hz with hz | hz
      · exact List.mem_append_left _ hz
      · exact List.mem_append_right _ (List.mem_cons_of_mem _ hz)

end
end Go.Proofs.Ytakahhnlbciicaa.Ai

namespace Go.Proofs.Ytakahhnlbciicaa.Ai
open Go Go.RowKit

section
variable {num : Nat → Nat} {gl : List Nat} {nt : Nat} {P : Program} {w0 : World} {ixf : Option Nat}

def Topo (ops : Array Oper) : (Nat → Prop) → List Op1 → Prop
  | _, [] => True
  | L, x :: l => (∃ o, ops[x.ix]? = some o ∧ ∀ e ∈ o.after.toList, Region.binds .any e = true → L e.on) ∧ Topo ops (fun n => L n ∨ n = x.ix) l
theorem Topo.mono {ops : Array Oper} : ∀ {l : List Op1} {L M : Nat → Prop} (_ : ∀ n, L n → M n) (_ : Topo ops L l), Topo ops M l
  | [], _, _, _, _ => trivial
  | x :: l, L, M, h, t => by
    obtain ⟨⟨o, h1, h2⟩, h3⟩ := t
    exact ⟨⟨o, h1, fun e he hb => h _ (h2 e he hb)⟩, Topo.mono (fun n hn => hn.imp (h n) id) h3⟩
theorem Topo.drop {ops : Array Oper} : ∀ (l1 : List Op1) {x : Op1} {l2 : List Op1} {L : Nat → Prop} (_ : Topo ops L (l1 ++ x :: l2)), Topo ops (fun n => L n ∨ n = x.ix) (l1 ++ l2)
  | [], x, l2, L, t => t.2
  | y :: l1, x, l2, L, t => by
    obtain ⟨⟨o, h1, h2⟩, h3⟩ := t
    refine ⟨⟨o, h1, fun e he hb => .inl (h2 e he hb)⟩, Topo.mono (fun n hn => ?_) (Topo.drop l1 h3)⟩
    rcases hn with (hn | hn) | hn
    · exact .inl (.inl hn)
    · exact .inr hn
    · exact .inl (.inr hn)
theorem topoOk_spec (ops : Array Oper) : ∀ (l : List Op1) (seen : List Nat), topoOk ops l seen = true → Topo ops (fun n => n ∈ seen) l
  | [], _, _ => trivial
  | x :: l, seen, h => by
    simp only [topoOk, Bool.and_eq_true] at h
    obtain ⟨h1, h2⟩ := h
    split at h1
    · rename_i o ho
      refine ⟨⟨o, ho, fun e he hb => ?_⟩, Topo.mono (fun n hn => ?_) (topoOk_spec ops l (x.ix :: seen) h2)⟩
      · have := List.all_eq_true.1 h1 e he
        simpa [hb] using this
      · rcases List.mem_cons.1 hn with hn | hn
        · exact .inr hn
        · exact .inl hn
    · cases h1

theorem getD_ft {listed : Array Bool} {j : Nat} (h : listed.getD j false = true) : listed.getD j true = true := by
  rw [Array.getD_eq_getD_getElem?] at h ⊢
  cases hq : listed[j]? with
  | none => rfl
  | some b => rw [hq] at h; exact h
theorem getD_in {listed : Array Bool} {j : Nat} (h : listed.getD j true = false) : j < listed.size := by
  rcases Nat.lt_or_ge j listed.size with h1 | h1
  · exact h1
  · rw [Array.getD_eq_getD_getElem?, Array.getElem?_eq_none h1] at h; cases h

/-- Operations in any order that their waiting leaves open. -/
theorem any_sound {cf : CallF} (hx : CExt cf) (hd : CDom cf) (hcf : CfOk num gl P w0 cf) (hix : ∀ f, ixf = some f → ∀ args w, (callFunc f args).run P w = ((Extern.BytealgIndexByte.indexByte args).run P w).andThen fun v w' => .ok (.value v) w')
    {tick : Nat} {lgd : Bool} {ops : Array Oper} {Q : Exit → Act → World → Prop} {chk : List (Bool × Nat × Nat)} (hlg : chk ≠ [] → lgd = true) :
    ∀ (n : Nat) (l : List Op1) (_ : l.length = n) {S : Env} {fr : Fr} {h : H} {lg : Log} {a : Act} {w : World} {fE : Fr} {hE : H} {lE : Log} {listed : Array Bool}
      (_ : runOps cf tick lgd l fr h lg = some (fE, hE, lE)) (_ : chkOk lE chk = true) (_ : Glob gl S) (_ : FRel num S nt fr a) (_ : Sim num w0 S h w) (_ : Free tick h l) (_ : (l.map (·.ix)).Nodup)
      (_ : l.all (okAt num gl ixf P nt ops) = true) (_ : pairsOk (masksOf ops.toList []) chk l = true) (_ : Topo ops (fun j => listed.getD j false = true) l)
      (_ : ∀ j, listed.getD j true = false ↔ j ∈ l.map (·.ix)) (_ : ∀ k, listed.getD k false = true → ∀ j, ((masksOf ops.toList []).getD k 0).testBit j = true → listed.getD j false = true)
      (_ : ∀ T a' w', S.le T → Sim num w0 T hE w' → FRel num T nt fE a' → Q .normal a' w'), wpAny P .any ops Q n listed a w
  | 0, l, hn, S, fr, h, lg, a, w, fE, hE, lE, listed, hr, hc, hg, hf, s, hfr, hnd, hok, hp, ht, hu, hdn, hQ => by
    have : l = [] := List.length_eq_zero_iff.1 hn
    subst this
    simp only [runOps, Option.some.injEq, Prod.mk.injEq] at hr
    obtain ⟨rfl, rfl, rfl⟩ := hr
    refine ⟨?_, hQ S a w (Env.le_refl _) s hf⟩
    cases hq : Region.ready .any ops listed with
    | nil => rfl
    | cons j r =>
      have hj : j ∈ Region.ready .any ops listed := by rw [hq]; exact List.mem_cons_self ..
      obtain ⟨h0, _⟩ := mem_ready.1 hj
      have := (hu j).1 h0
      simp at this
  | n + 1, l, hn, S, fr, h, lg, a, w, fE, hE, lE, listed, hr, hc, hg, hf, s, hfr, hnd, hok, hp, ht, hu, hdn, hQ => by
    refine ⟨fun hnil => ?_, fun i hi => ?_⟩
    · exfalso
      cases l with
      | nil => simp at hn
      | cons x l =>
        obtain ⟨⟨o, ho, hb⟩, _⟩ := ht
        have : x.ix ∈ Region.ready .any ops listed := mem_ready.2 ⟨(hu x.ix).2 (by simp), o, ho, fun e he hbb => hb e (by simpa using he) hbb⟩
        rw [hnil] at this; cases this
    · obtain ⟨h0, o, ho, hb⟩ := mem_ready.1 hi
      obtain ⟨x, hxl, rfl⟩ := List.mem_map.1 ((hu i).1 h0)
      obtain ⟨l1, l2, rfl⟩ := List.append_of_mem hxl
      obtain ⟨hp1, hp2⟩ := pairsOk_split l1 hp
      have hpair : ∀ j ∈ l1, apart j x = true ∧ sortsOk chk j x = true := by
        intro j hj
        have := hp1 j hj
        simp only [pairOk, Bool.or_eq_true, Bool.and_eq_true] at this
        rcases this with h1 | h1
        · exfalso
          obtain ⟨e, he, hbb, h2⟩ := masks_spec ops x.ix o ho j.ix h1
          have hl := hb e (by simpa using he) hbb
          have hlj : listed.getD j.ix false = true := by
            rcases h2 with h2 | h2
            · rw [← h2]; exact hl
            · exact hdn _ hl _ h2
          have := (hu j.ix).2 (List.mem_map.2 ⟨j, List.mem_append_left _ hj, rfl⟩)
          rw [getD_ft hlj] at this; cases this
        · exact h1
      obtain ⟨fE2, hE2, lE2, b1, b2, b3, b4⟩ := bubble hx hd hlg l1 hr hc hpair hnd hfr
      rw [runOps_cons] at b1
      have hok2 := List.all_eq_true.1 hok
      have hnd1 : x.ix ∉ (l1 ++ l2).map (·.ix) ∧ ((l1 ++ l2).map (·.ix)).Nodup := by
        have hpm : List.Perm (l1 ++ x :: l2) (x :: (l1 ++ l2)) := List.perm_middle
        have := (hpm.map (·.ix)).nodup_iff.1 hnd
        simpa using this
      cases hs : opv cf tick fr h x with
      | none => rw [hs] at b1; cases b1
      | some p =>
        obtain ⟨v, h1, ran⟩ := p
        rw [hs] at b1
        refine op1_wp hcf hix hg hf s (hok2 x hxl) (hfr x hxl) hs (fun T a' w' k1 k2 k3 => ?_)
        have hsub : ∀ y, y ∈ l1 ++ l2 → y ∈ l1 ++ x :: l2 := by
          intro y hy
          rcases List.mem_append.1 hy with hy | hy
          · exact List.mem_append_left _ hy
          · exact List.mem_append_right _ (List.mem_cons_of_mem _ hy)
        have hxs := getD_in h0
        have hset : (listed.setIfInBounds x.ix true).getD x.ix false = true := by simp [hxs]
        refine any_sound hx hd hcf hix hlg n (l1 ++ l2) (by simp at hn ⊢; omega) b1 (b4.chk _ hc) (hg.mono k1) k3 k2
          (Free.step hd (fun y hy => hfr y (hsub y hy)) hnd1.1 hs) hnd1.2 (List.all_eq_true.2 fun y hy => hok2 y (hsub y hy)) hp2 ?_ (fun j => ?_) (fun k hk j hj => ?_) (fun U a2 w2 m1 m2 m3 => ?_)
        · refine Topo.mono (fun m hm => ?_) (Topo.drop l1 ht)
          rcases hm with hm | rfl
          · exact getD_set_true hm
          · exact hset
        · by_cases hj : x.ix = j
          · subst hj
            refine ⟨fun he => ?_, fun he => absurd he hnd1.1⟩
            rw [getD_ft hset] at he; cases he
          · rw [getD_set_ne true hj, hu j]
            simp only [List.map_append, List.map_cons, List.mem_append, List.mem_cons]
            constructor
            · rintro (he | he | he)
              · exact .inl he
              · exact absurd he.symm hj
              · exact .inr he
            · rintro (he | he)
              · exact .inl he
              · exact .inr (.inr he)
        · by_cases hkx : x.ix = k
          · subst hkx
            obtain ⟨e, he, hbb, h2⟩ := masks_spec ops x.ix o ho j hj
            have hl := hb e (by simpa using he) hbb
            rcases h2 with h2 | h2
            · rw [← h2]; exact getD_set_true hl
            · exact getD_set_true (hdn _ hl _ h2)
          · rw [getD_set_ne false hkx] at hk
            exact getD_set_true (hdn k hk j hj)
        · exact hQ U a2 w2 (Env.le_trans k1 m1) (m2.heq ⟨b3.1.symm, fun i => (b3.2 i).symm⟩) (m3.feq b2.symm)

end
end Go.Proofs.Ytakahhnlbciicaa.Ai

namespace Go.Proofs.Ytakahhnlbciicaa.Ai
open Go Go.RowKit

section
variable {num : Nat → Nat} {gl : List Nat} {nt : Nat} {P : Program} {w0 : World} {ixf : Option Nat}

def nodupB : List Nat → Bool
  | [] => true
  | x :: l => !l.contains x && nodupB l
theorem nodupB_spec : ∀ {l : List Nat}, nodupB l = true → l.Nodup
  | [], _ => List.nodup_nil
  | x :: l, h => by
    simp only [nodupB, Bool.and_eq_true, Bool.not_eq_true', List.contains_eq_mem, decide_eq_false_iff_not] at h
    exact List.nodup_cons.2 ⟨h.1, nodupB_spec h.2⟩

/-- Is the evaluator's region the program's? -/
def okReg (num : Nat → Nat) (gl : List Nat) (ixf : Option Nat) (P : Program) (nt : Nat) (ops : Array Oper) (draw al : Bool) (l : List Op1) (chk : List (Bool × Nat × Nat)) : Bool :=
  l.all (okAt num gl ixf P nt ops) && l.all (fun x => decide (x.ix < 256) && (!x.op.takes || al)) && nodupB (l.map (·.ix)) &&
  (if draw then P.follows .mixedOrders && (l.length == ops.size) && (List.range ops.size).all (fun i => (l.map (·.ix)).contains i) && pairsOk (masksOf ops.toList []) chk l && topoOk ops l []
   else l.map (·.ix) == List.range ops.size)

def okCode (num : Nat → Nat) (gl : List Nat) (ixf : Option Nat) (P : Program) (nt : Nat) : Code → IC → Bool
  | .skip, .skip => true
  | .region _ ops draw, .reg _ al l chk _ => okReg num gl ixf P nt ops draw al l chk
  | .seq a b, .seq c d => okCode num gl ixf P nt a c && okCode num gl ixf P nt b d
  | .cond x a b, .cond y c d => okO num gl x y && okCode num gl ixf P nt a c && okCode num gl ixf P nt b d
  | .block i a, .block j b => (i == j) && okCode num gl ixf P nt a b
  | .loop a, .loop b => okCode num gl ixf P nt a b
  | .exit i, .exit j => i == j
  | .ret, .ret => true
  | _, _ => false

def X.out : X → Exit
  | .norm => .normal
  | .brk id => .exit id
  | .ret => .ret

theorem reg_sound {cf : CallF} (hx : CExt cf) (hd : CDom cf) (hcf : CfOk num gl P w0 cf) (hix : ∀ f, ixf = some f → ∀ args w, (callFunc f args).run P w = ((Extern.BytealgIndexByte.indexByte args).run P w).andThen fun v w' => .ok (.value v) w')
    {S : Env} {fr : Fr} {h : H} {a : Act} {w : World} {id : Nat} {ops : Array Oper} {draw al : Bool} {l : List Op1} {chk : List (Bool × Nat × Nat)} (hok : okReg num gl ixf P nt ops draw al l chk = true)
    {fE : Fr} {hE : H} {lE : Log} (hr : runOps cf h.nx (!chk.isEmpty) l fr (if al then { h with nx := h.nx + 1 } else h) ⟨[], []⟩ = some (fE, hE, lE)) (hc : chkOk lE chk = true)
    (hg : Glob gl S) (hf : FRel num S nt fr a) (s : Sim num w0 S h w) {Q : Exit → Act → World → Prop}
    (hQ : ∀ T a' w', S.le T → Sim num w0 T hE w' → FRel num T nt fE a' → Q .normal a' w') : (Code.region id ops draw).wp P Q a w := by
  simp only [okReg, Bool.and_eq_true] at hok
  obtain ⟨⟨⟨h1, h2⟩, h3⟩, h4⟩ := hok
  have hnd := nodupB_spec h3
  have s0 : Sim num w0 S (if al then { h with nx := h.nx + 1 } else h) w := by
    split
    · exact s.tick (h.nx + 1) (Nat.le_succ _)
    · exact s
  have hfree : Free h.nx (if al then { h with nx := h.nx + 1 } else h) l := by
    intro x hxl
    have := List.all_eq_true.1 h2 x hxl
    simp only [Bool.and_eq_true, decide_eq_true_eq, Bool.or_eq_true, Bool.not_eq_true'] at this
    refine ⟨this.1, fun ht => ?_⟩
    have hal : al = true := by
      rcases this.2 with h5 | h5
      · rw [ht] at h5; cases h5
      · exact h5
    subst hal
    simp only [if_true, H.get_nx]
    exact ⟨s.fresh _ (Nat.le_add_right _ _), Nat.lt_succ_self _⟩
  cases draw
  · simp only [Bool.false_eq_true, if_false, beq_iff_eq] at h4
    refine wp_region ?_
    rw [← h4]
    exact ops_sound hd hcf hix l hr hg hf s0 hfree hnd h1 hQ
  · simp only [if_true, Bool.and_eq_true, beq_iff_eq] at h4
    obtain ⟨⟨⟨⟨h5, h6⟩, h7⟩, h8⟩, h9⟩ := h4
    refine wp_region_any h5 ?_
    have hlisted : ∀ (j : Nat) (d : Bool), (Array.replicate ops.size false).getD j d = if j < ops.size then false else d := by
      intro j d
      rw [Array.getD_eq_getD_getElem?, Array.getElem?_replicate]
      split <;> rfl
    refine any_sound hx hd hcf hix (lgd := !chk.isEmpty) (fun hne => by cases chk with | nil => exact absurd rfl hne | cons => rfl) ops.size l h6 hr hc hg hf s0.drew hfree hnd h1 h8
      (Topo.mono (fun n hn => by simp at hn) (topoOk_spec ops l [] h9)) (fun j => ?_) (fun k hk => ?_) hQ
    · rw [hlisted]
      constructor
      · intro hj
        split at hj
        · rename_i hlt
          have := List.all_eq_true.1 h7 j (List.mem_range.2 hlt)
          simpa using this
        · cases hj
      · intro hj
        obtain ⟨x, hxl, rfl⟩ := List.mem_map.1 hj
        obtain ⟨o, ho⟩ := okAt_spec (List.all_eq_true.1 h1 x hxl)
        rw [if_pos (Array.getElem?_eq_some_iff.1 ho.at').1]
    · rw [hlisted] at hk
      split at hk <;> cases hk

theorem exec_sound {cf : CallF} (hx : CExt cf) (hd : CDom cf) (hcf : CfOk num gl P w0 cf) (hix : ∀ f, ixf = some f → ∀ args w, (callFunc f args).run P w = ((Extern.BytealgIndexByte.indexByte args).run P w).andThen fun v w' => .ok (.value v) w') (k : Nat) :
    ∀ (c : Code) (ic : IC) (_ : okCode num gl ixf P nt c ic = true) {S : Env} {fr : Fr} {h : H} {a : Act} {w : World} {x : X} {fr' : Fr} {h' : H} (_ : exec cf k ic fr h = some (x, fr', h'))
      (_ : Glob gl S) (_ : FRel num S nt fr a) (_ : Sim num w0 S h w) {Q : Exit → Act → World → Prop} (_ : ∀ T a' w', S.le T → Sim num w0 T h' w' → FRel num T nt fr' a' → Q x.out a' w'), c.wp P Q a w := by
  intro c
  induction c with
  | skip =>
    intro ic hok S fr h a w x fr' h' he hg hf s Q hQ
    cases ic <;> simp only [okCode] at hok <;> try (cases hok; done)
    simp only [exec, Option.some.injEq, Prod.mk.injEq] at he
    obtain ⟨rfl, rfl, rfl⟩ := he
    exact wp_skip (hQ S a w (Env.le_refl _) s hf)
  | region id ops draw =>
    intro ic hok S fr h a w x fr' h' he hg hf s Q hQ
    cases ic <;> simp only [okCode] at hok <;> try (cases hok; done)
    rename_i id' al l chk out
    simp only [exec] at he
    split at he
    · rename_i fE hE lE hr
      split at he
      · rename_i hc
        simp only [Option.some.injEq, Prod.mk.injEq] at he
        obtain ⟨rfl, rfl, rfl⟩ := he
        refine reg_sound hx hd hcf hix hok hr hc hg hf s (fun T a' w' k1 k2 k3 => hQ T a' w' k1 k2 ?_)
        split
        · exact k3.keep _
        · exact k3
      · cases he
    · cases he
  | seq c1 c2 ih1 ih2 =>
    intro ic hok S fr h a w x fr' h' he hg hf s Q hQ
    cases ic <;> simp only [okCode] at hok <;> try (cases hok; done)
    rename_i i1 i2
    simp only [Bool.and_eq_true] at hok
    simp only [exec] at he
    refine wp_seq ?_
    cases h1 : exec cf k i1 fr h with
    | none => rw [h1] at he; cases he
    | some p =>
      obtain ⟨x1, f1, m1⟩ := p
      rw [h1] at he
      cases x1 with
      | norm =>
        simp only at he
        refine ih1 i1 hok.1 h1 hg hf s (fun T a' w' k1 k2 k3 => ?_)
        exact ih2 i2 hok.2 he (hg.mono k1) k3 k2 (fun U a2 w2 m1 => hQ U a2 w2 (Env.le_trans k1 m1))
      | brk id =>
        simp only [Option.some.injEq, Prod.mk.injEq] at he
        obtain ⟨rfl, rfl, rfl⟩ := he
        exact ih1 i1 hok.1 h1 hg hf s (fun T a' w' k1 k2 k3 => hQ T a' w' k1 k2 k3)
      | ret =>
        simp only [Option.some.injEq, Prod.mk.injEq] at he
        obtain ⟨rfl, rfl, rfl⟩ := he
        exact ih1 i1 hok.1 h1 hg hf s (fun T a' w' k1 k2 k3 => hQ T a' w' k1 k2 k3)
  | cond y c1 c2 ih1 ih2 =>
    intro ic hok S fr h a w x fr' h' he hg hf s Q hQ
    cases ic <;> simp only [okCode] at hok <;> try (cases hok; done)
    rename_i z i1 i2
    simp only [Bool.and_eq_true] at hok
    obtain ⟨⟨h1, h2⟩, h3⟩ := hok
    simp only [exec] at he
    split at he
    · rename_i hz
      exact wp_cond_true (okO_rel hg hf h1 hz).bool_inv (ih1 i1 h2 he hg hf s hQ)
    · rename_i hz
      exact wp_cond_false (okO_rel hg hf h1 hz).bool_inv (ih2 i2 h3 he hg hf s hQ)
    · cases he
  | block id c1 ih =>
    intro ic hok S fr h a w x fr' h' he hg hf s Q hQ
    cases ic <;> simp only [okCode] at hok <;> try (cases hok; done)
    rename_i id' i1
    simp only [Bool.and_eq_true, beq_iff_eq] at hok
    obtain ⟨rfl, h2⟩ := hok
    simp only [exec] at he
    refine wp_block ?_
    cases h1 : exec cf k i1 fr h with
    | none => rw [h1] at he; cases he
    | some p =>
      obtain ⟨x1, f1, m1⟩ := p
      rw [h1] at he
      cases x1 with
      | norm =>
        simp only [Option.some.injEq, Prod.mk.injEq] at he
        obtain ⟨rfl, rfl, rfl⟩ := he
        exact ih i1 h2 h1 hg hf s (fun T a' w' k1 k2 k3 => hQ T a' w' k1 k2 k3)
      | brk j =>
        simp only at he
        refine ih i1 h2 h1 hg hf s (fun T a' w' k1 k2 k3 => ?_)
        simp only [X.out, Exit.inBlock]
        split at he
        · rename_i hj
          simp only [Option.some.injEq, Prod.mk.injEq] at he
          obtain ⟨rfl, rfl, rfl⟩ := he
          rw [if_pos hj]
          exact hQ T a' w' k1 k2 k3
        · rename_i hj
          simp only [Option.some.injEq, Prod.mk.injEq] at he
          obtain ⟨rfl, rfl, rfl⟩ := he
          rw [if_neg hj]
          exact hQ T a' w' k1 k2 k3
      | ret =>
        simp only [Option.some.injEq, Prod.mk.injEq] at he
        obtain ⟨rfl, rfl, rfl⟩ := he
        exact ih i1 h2 h1 hg hf s (fun T a' w' k1 k2 k3 => hQ T a' w' k1 k2 k3)
  | loop c1 ih =>
    intro ic hok S fr h a w x fr' h' he hg hf s Q hQ
    cases ic <;> simp only [okCode] at hok <;> try (cases hok; done)
    rename_i i1
    simp only [exec] at he
    have key : ∀ (n : Nat) {S : Env} {fr : Fr} {h : H} {a : Act} {w : World} (_ : loopN (exec cf k i1) n fr h = some (x, fr', h')) (_ : Glob gl S) (_ : FRel num S nt fr a) (_ : Sim num w0 S h w)
        (_ : ∀ T a' w', S.le T → Sim num w0 T h' w' → FRel num T nt fr' a' → Q x.out a' w'), Code.rounds P c1 Q n a w := by
      intro n
      induction n with
      | zero => intro S fr h a w he; simp [loopN] at he
      | succ n ihn =>
        intro S fr h a w he hg hf s hQ
        rw [rounds_succ]
        simp only [loopN] at he
        cases h1 : exec cf k i1 fr h with
        | none => rw [h1] at he; cases he
        | some p =>
          obtain ⟨x1, f1, m1⟩ := p
          rw [h1] at he
          cases x1 with
          | norm =>
            simp only at he
            refine ih i1 hok h1 hg hf s (fun T a' w' k1 k2 k3 => ?_)
            exact ihn he (hg.mono k1) k3 k2 (fun U a2 w2 m1 => hQ U a2 w2 (Env.le_trans k1 m1))
          | brk j =>
            simp only [Option.some.injEq, Prod.mk.injEq] at he
            obtain ⟨rfl, rfl, rfl⟩ := he
            exact ih i1 hok h1 hg hf s (fun T a' w' k1 k2 k3 => hQ T a' w' k1 k2 k3)
          | ret =>
            simp only [Option.some.injEq, Prod.mk.injEq] at he
            obtain ⟨rfl, rfl, rfl⟩ := he
            exact ih i1 hok h1 hg hf s (fun T a' w' k1 k2 k3 => hQ T a' w' k1 k2 k3)
    exact wp_loop_rounds k (key k he hg hf s hQ)
  | exit id =>
    intro ic hok S fr h a w x fr' h' he hg hf s Q hQ
    cases ic <;> simp only [okCode] at hok <;> try (cases hok; done)
    simp only [beq_iff_eq] at hok
    subst hok
    simp only [exec, Option.some.injEq, Prod.mk.injEq] at he
    obtain ⟨rfl, rfl, rfl⟩ := he
    exact wp_exit (hQ S a w (Env.le_refl _) s hf)
  | ret =>
    intro ic hok S fr h a w x fr' h' he hg hf s Q hQ
    cases ic <;> simp only [okCode] at hok <;> try (cases hok; done)
    simp only [exec, Option.some.injEq, Prod.mk.injEq] at he
    obtain ⟨rfl, rfl, rfl⟩ := he
    exact wp_ret (hQ S a w (Env.le_refl _) s hf)
  | _ =>
    intro ic hok
    cases ic <;> simp [okCode] at hok

end
end Go.Proofs.Ytakahhnlbciicaa.Ai

namespace Go.Proofs.Ytakahhnlbciicaa.Ai
open Go Go.RowKit

section
variable {num : Nat → Nat} {gl : List Nat} {nt : Nat} {P : Program} {w0 : World} {ixf : Option Nat}

def okRes (P : Program) : List ResultVar → List RV → Bool
  | [], [] => true
  | .tmp t :: l, .tmp u :: m => (t == u) && okRes P l m
  | .cell x t :: l, .cell u n ag :: m => (x == u) && sizeB P t n && aggB P t ag && okRes P l m
  | _, _ => false

def okFun (num : Nat → Nat) (gl : List Nat) (ixf : Option Nat) (P : Program) (f : Nat) (F : Fun) : Bool :=
  match P.funcs[num f]? with
  | some fn => (fn.name != "runtime.NumGoroutine") && (match fn.body with | some c => okCode num gl ixf P fn.ntmps c F.body | none => false) && okRes P fn.results.toList F.res
  | none => false

def rsem (tmps : Array Value) : ResultVar → Sem Value
  | .tmp t => pure (tmps.getD t undef)
  | .cell x t => do loadVar t (← asAddr (tmps.getD x undef))

theorem res_run {S : Env} {fr : Fr} {h : H} {a : Act} {w : World} (hf : FRel num S nt fr a) (s : Sim num w0 S h w) : ∀ (l : List ResultVar) (m : List RV) (vs : List V), okRes P l m = true → rvs fr h m = some vs →
    ∃ cs : List Value, (l.mapM (rsem a.tmps) : Sem (List Value)).run P w = .ok cs w ∧ VRels num S vs cs
  | [], m, vs, hk, hr => by
    cases m <;> simp [okRes] at hk
    simp only [rvs, Option.some.injEq] at hr
    subst hr
    exact ⟨[], by simp, VRels.nil _ _⟩
  | r :: l, m, vs, hk, hr => by
    cases m with
    | nil => cases r <;> simp [okRes] at hk
    | cons q m =>
      simp only [rvs] at hr
      cases h1 : rv fr h q with
      | none => rw [h1] at hr; simp at hr
      | some v => cases h2 : rvs fr h m with
        | none => rw [h1, h2] at hr; simp at hr
        | some us =>
          rw [h1, h2] at hr
          simp only [Option.some.injEq] at hr
          subst hr
          have hkk : okRes P l m = true := by cases r <;> cases q <;> simp [okRes] at hk <;> simp [hk]
          obtain ⟨cs, k1, k2⟩ := res_run hf s l m us hkk h2
          cases r <;> cases q <;> simp only [okRes, Bool.and_eq_true, beq_iff_eq] at hk <;> try (cases hk; done)
          · obtain ⟨rfl, -⟩ := hk
            rename_i t
            simp only [rv] at h1
            refine ⟨a.tmps.getD t undef :: cs, ?_, VRels.cons (hf.rel _ _ h1) k2⟩
            simp only [List.mapM_cons, rsem, Sem.run_bind, Sem.run_pure, Result.andThen_ok, k1]
          · obtain ⟨⟨⟨rfl, h3⟩, h4⟩, -⟩ := hk
            rename_i t x n ag
            simp only [rv] at h1
            split at h1
            · rename_i p hp
              have rp := hf.rel _ _ hp
              obtain ⟨d, m1, m2⟩ := ld_run (P := P) s h1 rp h3 h4
              obtain ⟨_, b, o, _, e, _⟩ := ldv_cells s h1 rp
              refine ⟨d :: cs, ?_, VRels.cons m2 k2⟩
              simp only [Instr.loadAt, e, Instr.sureAddr, Sem.run_bind, Sem.run_pure, Result.andThen_ok] at m1
              have m3 : (rsem a.tmps (.cell t x)).run P w = .ok d w := by simp only [rsem, e, asAddr, Sem.run_bind, Sem.run_pure, Result.andThen_ok, m1]
              simp only [List.mapM_cons, m3, Sem.run_bind, Sem.run_pure, Result.andThen_ok, k1]
            · cases h1

theorem get_enter : ∀ (vs : List V) (n t : Nat) (v : V), Fr.get (enter n vs) t = some v → n ≤ t ∧ vs[t - n]? = some v
  | [], n, t, v, h => by simp [enter, Fr.get_nil] at h
  | x :: vs, n, t, v, h => by
    simp only [enter, Fr.get_cons] at h
    split at h
    · rename_i e; subst e; exact ⟨Nat.le_refl _, by simpa using h⟩
    · obtain ⟨h1, h2⟩ := get_enter vs (n + 1) t v h
      refine ⟨by omega, ?_⟩
      rw [show t - n = (t - (n + 1)) + 1 by omega]
      exact h2

theorem FRel.start {S : Env} {vs : List V} {args : Array Value} (r : VRels num S vs args.toList) (nt : Nat) : FRel num S nt (enter 0 vs) { tmps := args ++ Array.replicate (nt - args.size) undef, defers := [] } := by
  refine ⟨by simp; omega, rfl, fun t v hv => ?_⟩
  obtain ⟨-, h1⟩ := get_enter vs 0 t v hv
  rw [Nat.sub_zero] at h1
  have hlt : t < args.size := by
    have := (List.getElem?_eq_some_iff.1 h1).1
    rw [r.1] at this; simpa using this
  have := r.2 t v args[t] h1 (by simp [hlt])
  simpa [Array.getElem?_append, hlt] using this

theorem pack_rel {S : Env} {vs : List V} {cs : List Value} (r : VRels num S vs cs) : VRel num S (pack vs) (if h : cs.toArray.size = 1 then cs.toArray[0] else .tuple cs.toArray) := by
  have tup : pack vs = .tup vs → cs.length ≠ 1 → VRel num S (pack vs) (if h : cs.toArray.size = 1 then cs.toArray[0] else .tuple cs.toArray) := by
    intro h1 h2
    rw [h1, dif_neg (by simpa using h2)]
    exact .tup vs cs.toArray (by simpa using r.1) (fun i c v hc hv => r.2 i c v hc (by simpa using hv))
  cases vs with
  | nil => exact tup rfl (by rw [← r.1]; simp)
  | cons v l => cases l with
    | cons u l => exact tup rfl (by rw [← r.1]; simp)
    | nil =>
      obtain ⟨c, d, rfl, h1, h2⟩ := r.head
      have : d = [] := by have := h2.1; simpa using this.symm
      subst this
      simpa [pack] using h1

/-- What the evaluator answers, the program answers. -/
theorem call_sound {fns : Nat → Option Fun} (hok : ∀ f F, fns f = some F → okFun num gl ixf P f F = true)
    (hix : ∀ f, ixf = some f → ∀ args w, (callFunc f args).run P w = ((Extern.BytealgIndexByte.indexByte args).run P w).andThen fun v w' => .ok (.value v) w') : ∀ n, CfOk num gl P w0 (call fns n)
  | 0 => fun f vs h r h' hc => by simp [call] at hc
  | n + 1 => fun f vs h r h' hc S w args s hg rargs => by
    have ih := call_sound hok hix n
    simp only [call] at hc
    cases hF : fns f with
    | none => rw [hF] at hc; cases hc
    | some F =>
      rw [hF] at hc
      have ho := hok f F hF
      unfold okFun at ho
      split at ho
      · rename_i fn hfn
        simp only [Bool.and_eq_true, bne_iff_ne, ne_eq] at ho
        obtain ⟨⟨h1, h2⟩, h3⟩ := ho
        split at h2
        · rename_i c hbody
          refine ⟨fun w' => by simp [callFunc, hfn, h1, hbody], ?_⟩
          refine calls_of_wp hfn hbody ?_
          simp only at hc
          split at hc
          · rename_i x fr h1' hx
            split at hc
            · cases hc
            · rename_i hbrk
              refine exec_sound (call_ext fns n) (call_dom fns n) ih hix n c F.body h2 hx hg (FRel.start rargs fn.ntmps) s (fun T a' w' k1 k2 k3 => ?_)
              have post : a'.defers = [] ∧ ∃ v, (results fn a'.tmps).run P w' = .ok v w' ∧ ∃ T c, Ending.returned v = .returned c ∧ S.le T ∧ VRel num T r c ∧ Sim num w0 T h' w' := by
                refine ⟨k3.defers, ?_⟩
                split at hc
                · rename_i us hus
                  obtain ⟨cs, m1, m2⟩ := res_run k3 k2 fn.results.toList F.res us h3 hus
                  have hres : (results fn a'.tmps).run P w' = .ok (if h : cs.toArray.size = 1 then cs.toArray[0] else .tuple cs.toArray) w' := by
                    have hd : results fn a'.tmps = (do let vs ← fn.results.mapM (rsem a'.tmps); pure (if h : vs.size = 1 then vs[0] else .tuple vs)) := by
                      unfold results
                      congr 1
                    rw [hd, Sem.run_bind, Array.mapM_eq_mapM_toList, Sem.run_map, m1]
                    rfl
                  split at hc
                  · simp only [Option.map_eq_some_iff, Prod.mk.injEq] at hc
                    obtain ⟨⟨us', h2'⟩, e1, rfl, rfl⟩ := hc
                    obtain ⟨U, q1, q2, q3⟩ := frzR_sound k2 e1 m2
                    exact ⟨_, hres, U, _, rfl, Env.le_trans k1 q1, pack_rel q2, q3⟩
                  · simp only [Option.some.injEq, Prod.mk.injEq] at hc
                    obtain ⟨rfl, rfl⟩ := hc
                    exact ⟨_, hres, T, _, rfl, k1, pack_rel m2, k2⟩
                · cases hc
              cases x with
              | norm => exact post
              | ret => exact post
              | brk id => simp [X.isBrk] at hbrk
          · cases hc
        · cases h2
      · cases ho

end
end Go.Proofs.Ytakahhnlbciicaa.Ai

namespace Go.Proofs.Ytakahhnlbciicaa.Ai
open Go Go.RowKit

section
variable {num : Nat → Nat} {gl : List Nat} {P : Program} {w0 w w' : World} {S : Env} {h : H}

/-- A later world in which all that was there is as it was. -/
theorem Sim.later (s : Sim num w0 S h w) (b : Below w.heap.size w w') : Sim num w0 S h w' := by
  have hblk : ∀ r o, w.heap[r]? = some o → w'.heap[r]? = w.heap[r]? := fun r o hr => b.block r (heap_lt hr)
  refine ⟨s.below.trans ⟨b.os, b.tape, b.output, b.size, fun k hk => b.block k (Nat.lt_of_lt_of_le hk s.below.size)⟩, fun r o v hv => ?_, s.dom, s.fresh, fun id es e k hg => ?_, s.disj, fun id l p hg => ?_, s.iterD⟩
  · have := s.frz r o v hv
    have hr := cell?_lt this
    simp only [World.cell?, b.block r hr] at this ⊢
    exact this
  · obtain ⟨r, b1, z, h1, h2⟩ := s.row id es e k hg
    obtain ⟨_, _, _, hb, _⟩ := h2.blk
    exact ⟨r, b1, z, h1, h2.mono (Env.le_refl _) (hblk _ _ hb) h2.noF⟩
  · obtain ⟨r, sb, h1, h2, h3, h4⟩ := s.iter id l p hg
    exact ⟨r, sb, h1, by rw [hblk _ _ h2]; exact h2, h3, h4⟩

/-- Where the named package-level variables lie; nothing else is known. -/
def Env.start (gl : List Nat) : Env := ⟨fun id => if gl.contains id then some (id, 0, 0, 0) else none, fun _ _ => none⟩
def deads : List Nat → H → H
  | [], h => h
  | g :: l, h => (deads l h).set g .dead
theorem deads_get : ∀ (gl : List Nat) (h : H) (id : Nat), (deads gl h).get id = if gl.contains id then some .dead else h.get id
  | [], h, id => by simp [deads]
  | g :: l, h, id => by
    simp only [deads]
    rw [H.get_set, deads_get l h id]
    by_cases e : id = g
    · subst e; simp
    · simp [e]
theorem deads_nx : ∀ (gl : List Nat) (h : H), (deads gl h).nx = h.nx
  | [], _ => rfl
  | g :: l, h => by simp only [deads]; rw [H.nx_set, deads_nx l h]

/-- The memory that holds nothing but names of package-level variables fits every world. -/
theorem Sim.start (num : Nat → Nat) (w : World) (gl : List Nat) (n : Nat) (hn : gl.all (fun g => decide (g < n * 256)) = true) : Sim num w (Env.start gl) (deads gl ⟨n, .nil⟩) w := by
  have hget : ∀ id b, (deads gl ⟨n, .nil⟩).get id = some b → b = .dead := by
    intro id b hb
    rw [deads_get] at hb
    split at hb
    · exact (Option.some.inj hb).symm
    · cases hb
  refine ⟨Below.refl _ _, fun r o v hv => (by cases hv), fun id => ?_, fun id hid => ?_, fun id es e k hg => ?_, ?_, fun id l p hg => ?_, ?_⟩
  · rw [deads_get]
    simp only [Env.start]
    split
    · rfl
    · rfl
  · rw [deads_get, if_neg]
    · rfl
    · intro hc
      rw [deads_nx] at hid
      simp only at hid
      have := List.all_eq_true.1 hn id (by simpa using hc)
      simp only [decide_eq_true_eq] at this
      omega
  · cases hget _ _ hg
  · intro i j es e k fs f l r b z r' b' z' hij hgi
    cases hget _ _ hgi
  · cases hget _ _ hg
  · intro i j s p t q r r' hij hgi
    cases hget _ _ hgi
theorem Glob.start (gl : List Nat) : Glob gl (Env.start gl) := fun g hg => ⟨0, 0, by simp [Env.start, hg]⟩

/-- Answers that are known: function, arguments, answer. -/
structure Known where
  f : Nat
  args : List V
  ans : V
def Known.cf (l : List Known) : CallF := fun f vs h => match l.find? (fun x => (x.f == f) && V.beqs x.args vs) with
  | some x => some (x.ans, h)
  | none => none
theorem Known.ext (l : List Known) : CExt (Known.cf l) := by
  intro X f vs h k r h' e hc
  unfold Known.cf at hc ⊢
  split at hc
  · simp only [Option.some.injEq, Prod.mk.injEq] at hc
    obtain ⟨rfl, rfl⟩ := hc
    exact ⟨k, rfl, e⟩
  · cases hc
theorem Known.dom (l : List Known) : CDom (Known.cf l) := by
  intro f vs h r h' hc nid
  unfold Known.cf at hc
  split at hc
  · simp only [Option.some.injEq, Prod.mk.injEq] at hc
    obtain ⟨rfl, rfl⟩ := hc
    exact Dom.refl _ _
  · cases hc

/-- A closed run of the evaluator is a run of the program. -/
theorem calls_of_run {ixf : Option Nat} {fns : Nat → Option Fun} (hok : ∀ f F, fns f = some F → okFun num gl ixf P f F = true)
    (hix : ∀ f, ixf = some f → ∀ args w, (callFunc f args).run P w = ((Extern.BytealgIndexByte.indexByte args).run P w).andThen fun v w' => .ok (.value v) w')
    {n nx f : Nat} {vs : List V} {r : V} {h' : H} (hn : gl.all (fun g => decide (g < nx * 256)) = true) (hc : call fns n f vs (deads gl ⟨nx, .nil⟩) = some (r, h')) {args : Array Value} (hargs : VRels num (Env.start gl) vs args.toList) (w : World) :
    (∀ w', (callFunc (num f) args).run P w' = .ok (.enter (num f) args) w') ∧
    Calls P (num f) args w fun e w' => ∃ T c, e = .returned c ∧ VRel num T r c ∧ Below w.heap.size w w' := by
  obtain ⟨h1, h2⟩ := call_sound hok hix n f vs _ r h' hc (Env.start gl) w args (Sim.start num w gl nx hn) (Glob.start gl) hargs
  refine ⟨h1, Calls.mono h2 fun e w' he => ?_⟩
  obtain ⟨T, c, k1, k2, k3, k4⟩ := he
  exact ⟨T, c, k1, k3, k4.below⟩

/-- The known answers are the program's. -/
theorem Known.ok (l : List Known) (hl : ∀ x, x ∈ l → ∀ S (args : Array Value) w, VRels num S x.args args.toList → (∀ w', (callFunc (num x.f) args).run P w' = .ok (.enter (num x.f) args) w') ∧
      Calls P (num x.f) args w fun e w' => ∃ c, e = .returned c ∧ (∀ T, VRel num T x.ans c) ∧ Below w.heap.size w w') : CfOk num gl P w0 (Known.cf l) := by
  intro f vs h r h' hc S w args s hg rargs
  unfold Known.cf at hc
  split at hc
  · rename_i x hx
    simp only [Option.some.injEq, Prod.mk.injEq] at hc
    obtain ⟨rfl, rfl⟩ := hc
    have hp := List.find?_some hx
    simp only [Bool.and_eq_true, beq_iff_eq] at hp
    obtain ⟨rfl, hp⟩ := hp
    have hv := V.beqs_eq _ _ hp
    subst hv
    obtain ⟨h1, h2⟩ := hl x (List.mem_of_find?_eq_some hx) S args w rargs
    refine ⟨h1, Calls.mono h2 fun e w' he => ?_⟩
    obtain ⟨c, k1, k2, k3⟩ := he
    exact ⟨S, c, k1, Env.le_refl _, k2 S, s.later k3⟩
  · cases hc


/-- One function over given answers of what it calls. -/
noncomputable def call1 (cf : CallF) (n : Nat) (F : Fun) (vs : List V) (h : H) : Option (V × H) :=
  match exec cf n F.body (enter 0 vs) h with
  | some (x, fr, h') => if x.isBrk then none else match rvs fr h' F.res with
    | some us => if F.fz then (frzR h' us).map fun (vs', h2) => (pack vs', h2) else some (pack us, h')
    | none => none
  | none => none

/-- A function of the program over known answers of what it calls. -/
theorem root_sound {ixf : Option Nat} {cf : CallF} (hxt : CExt cf) (hdm : CDom cf) (hcf : ∀ w0, CfOk num gl P w0 cf)
    (hix : ∀ f, ixf = some f → ∀ args w, (callFunc f args).run P w = ((Extern.BytealgIndexByte.indexByte args).run P w).andThen fun v w' => .ok (.value v) w')
    {f : Nat} {F : Fun} (ho : okFun num gl ixf P f F = true) {n nx : Nat} {vs : List V} {r : V} {h' : H} (hn : gl.all (fun g => decide (g < nx * 256)) = true)
    (hc : call1 cf n F vs (deads gl ⟨nx, .nil⟩) = some (r, h')) {args : Array Value} (rargs : VRels num (Env.start gl) vs args.toList) (w : World) :
    Calls P (num f) args w fun e w' => ∃ T c, e = .returned c ∧ VRel num T r c ∧ Below w.heap.size w w' := by
  have s := Sim.start num w gl nx hn
  have hg := Glob.start gl
  unfold okFun at ho
  split at ho
  · rename_i fn hfn
    simp only [Bool.and_eq_true, bne_iff_ne, ne_eq] at ho
    obtain ⟨⟨h1, h2⟩, h3⟩ := ho
    split at h2
    · rename_i c hbody
      refine calls_of_wp hfn hbody ?_
      unfold call1 at hc
      split at hc
      · rename_i x fr h1' hx
        split at hc
        · cases hc
        · rename_i hbrk
          refine exec_sound hxt hdm (hcf w) hix n c F.body h2 hx hg (FRel.start rargs fn.ntmps) s (fun T a' w' k1 k2 k3 => ?_)
          have post : a'.defers = [] ∧ ∃ v, (results fn a'.tmps).run P w' = .ok v w' ∧ ∃ T c, Ending.returned v = .returned c ∧ VRel num T r c ∧ Below w.heap.size w w' := by
            refine ⟨k3.defers, ?_⟩
            split at hc
            · rename_i us hus
              obtain ⟨cs, m1, m2⟩ := res_run k3 k2 fn.results.toList F.res us h3 hus
              have hres : (results fn a'.tmps).run P w' = .ok (if h : cs.toArray.size = 1 then cs.toArray[0] else .tuple cs.toArray) w' := by
                have hd : results fn a'.tmps = (do let vs ← fn.results.mapM (rsem a'.tmps); pure (if h : vs.size = 1 then vs[0] else .tuple vs)) := by
                  unfold results
                  congr 1
                rw [hd, Sem.run_bind, Array.mapM_eq_mapM_toList, Sem.run_map, m1]
                rfl
              split at hc
              · simp only [Option.map_eq_some_iff, Prod.mk.injEq] at hc
                obtain ⟨⟨us', h2'⟩, e1, rfl, rfl⟩ := hc
                obtain ⟨U, q1, q2, q3⟩ := frzR_sound k2 e1 m2
                exact ⟨_, hres, U, _, rfl, pack_rel q2, q3.below⟩
              · simp only [Option.some.injEq, Prod.mk.injEq] at hc
                obtain ⟨rfl, rfl⟩ := hc
                exact ⟨_, hres, T, _, rfl, pack_rel m2, k2.below⟩
            · cases hc
          cases x with
          | norm => exact post
          | ret => exact post
          | brk id => simp [X.isBrk] at hbrk
      · cases hc
    · cases h2
  · cases ho

end
end Go.Proofs.Ytakahhnlbciicaa.Ai

namespace Go.Proofs.Ytakahhnlbciicaa.Ai
open Go Go.RowKit

section
variable {num : Nat → Nat} {gl : List Nat} {P : Program}

/-- A value that names no memory. -/
def plainV : V → Bool
  | .int _ _ => true
  | .bool _ => true
  | .str _ => true
  | _ => false
theorem plain_rel {S T : Env} {v : V} {c : Value} (hp : plainV v = true) (h : VRel num S v c) : VRel num T v c := by
  cases h with
  | int k n => exact .int k n
  | bool b => exact .bool b
  | str s b h => exact .str s b h
  | _ => cases hp
theorem plain_rels {S T : Env} {l : List V} {a : List Value} (hp : l.all plainV = true) (h : VRels num S l a) : VRels num T l a :=
  ⟨h.1, fun i c v hc hv => plain_rel (List.all_eq_true.1 hp c (List.mem_of_getElem? hc)) (h.2 i c v hc hv)⟩

/-- What a run of one function says about its answer, a truth value. -/
noncomputable def gives (b : Bool) (x : Option (V × H)) : Bool := match x with
  | some (.bool a, _) => a == b
  | _ => false
theorem gives_eq {b : Bool} {x : Option (V × H)} (h : gives b x = true) : ∃ h', x = some (.bool b, h') := by
  unfold gives at h
  split at h
  · rename_i a h' 
    exact ⟨h', by rw [beq_iff_eq.1 h]⟩
  · cases h

/-- A known answer is the program's. -/
def Known.Ok (num : Nat → Nat) (P : Program) (x : Known) : Prop := ∀ S (args : Array Value) w, VRels num S x.args args.toList → (∀ w', (callFunc (num x.f) args).run P w' = .ok (.enter (num x.f) args) w') ∧
      Calls P (num x.f) args w fun e w' => ∃ c, e = .returned c ∧ (∀ T, VRel num T x.ans c) ∧ Below w.heap.size w w'

/-- A closed run with a truth value for an answer, as a known answer. -/
theorem known_of_run {ixf : Option Nat} {fns : Nat → Option Fun} (hok : ∀ f F, fns f = some F → okFun num gl ixf P f F = true)
    (hix : ∀ f, ixf = some f → ∀ args w, (callFunc f args).run P w = ((Extern.BytealgIndexByte.indexByte args).run P w).andThen fun v w' => .ok (.value v) w')
    {n nx f : Nat} {vs : List V} {b : Bool} (hn : gl.all (fun g => decide (g < nx * 256)) = true) (hp : vs.all plainV = true)
    (hc : gives b (call fns n f vs (deads gl ⟨nx, .nil⟩)) = true) : Known.Ok num P ⟨f, vs, .bool b⟩ := by
  intro S args w hr
  obtain ⟨h', he⟩ := gives_eq hc
  obtain ⟨k1, k2⟩ := calls_of_run hok hix hn he (plain_rels (T := Env.start gl) hp hr) w
  refine ⟨k1, Calls.mono k2 fun e w' hw => ?_⟩
  obtain ⟨T, c, q1, q2, q3⟩ := hw
  refine ⟨c, q1, fun U => ?_, q3⟩
  exact plain_rel (by rfl) q2

theorem Known.cfOk (l : List Known) (hl : ∀ x, x ∈ l → Known.Ok num P x) : ∀ w0, CfOk num gl P w0 (Known.cf l) := fun _ => Known.ok l hl

/-- A closed function over known answers gives a truth value, and nothing that was there is touched. -/
theorem root_bool {ixf : Option Nat} {l : List Known} (hl : ∀ x, x ∈ l → Known.Ok num P x)
    (hix : ∀ f, ixf = some f → ∀ args w, (callFunc f args).run P w = ((Extern.BytealgIndexByte.indexByte args).run P w).andThen fun v w' => .ok (.value v) w')
    {f : Nat} {F : Fun} (ho : okFun num gl ixf P f F = true) {n nx : Nat} {b : Bool} (hn : gl.all (fun g => decide (g < nx * 256)) = true)
    (hc : gives b (call1 (Known.cf l) n F [] (deads gl ⟨nx, .nil⟩)) = true) (w : World) :
    Calls P (num f) #[] w fun e w' => e = .returned (.bool b) ∧ Below w.heap.size w w' := by
  obtain ⟨h', he⟩ := gives_eq hc
  refine Calls.mono (root_sound (Known.ext l) (Known.dom l) (fun _ => Known.ok l hl) hix ho hn he (args := #[]) (VRels.nil _ _) w) fun e w' hw => ?_
  obtain ⟨T, c, q1, q2, q3⟩ := hw
  cases q2
  exact ⟨q1, q3⟩
end

section
open Go.ChangeShapes Go.WideShapes Go.ChangeAt Go.RowKit
variable {H : Type} {enc : TypeId × Value → H} {P : Program}

/-- 'post' of a call that touches nothing of what was there: what it made itself may lie frozen. -/
theorem post_of_below {f : Func} {s : ChangeSpec} {apart fresh handsOn again : Bool} {W W' : World} {args : Array Value} {v : Value} {ds gs : List (DataW H)} {before pa pv : List MemPlace}
    (hW : DataW.Whole enc P f.params.toList s.vars apart W args.toList ds gs before)
    (hres : ∀ (b : Nat) (sp : Nat → Bool) (hd : Bool), DataW.TrodAll enc P W' b sp hd f.resultTypes.toList (v.resultList f.resultTypes.size) (s.fn H (ds ++ gs)).results [])
    (hargs : ∀ sp : Nat → Bool, (∀ p ∈ before, sp p.block = true) → DataW.TrodAll enc P W' 0 sp true f.params.toList args.toList (s.fn H (ds ++ gs)).args pa)
    (hvars : ∀ sp : Nat → Bool, (∀ p ∈ before, sp p.block = true) → DataW.TrodVars enc P W' sp s.vars (s.fn H (ds ++ gs)).vars pv)
    (hps : before = pa ++ pv) (hb : Below W.heap.size W W')
    (hok : ∀ (j : Nat) (t : TypeId) (r : Value), f.resultTypes[j]? = some t → (v.resultList f.resultTypes.size)[j]? = some r → Value.okWide P W' .any 0 t r) :
    s.post enc P f apart fresh handsOn again W args v W' := by
  have hold : ∀ p ∈ before, (fun b => decide (b < W.heap.size)) p.block = true := fun p hp => by simpa using hW.lt p hp
  refine ⟨ds, gs, before, [], pa, pv, hW, hres _ _ _, hargs _ hold, hvars _ hold, hb.frame _, fun _ => ?_⟩
  · have hlt := hW.lt
    obtain ⟨_, _, _, _, _, hz, hn⟩ := hW
    refine ⟨hok, _, _, ([] ++ pa) ++ pv, ⟨[] ++ pa, pv, trodAll_append (hargs _ (fun _ _ => rfl)) (hres _ _ _), hvars _ (fun _ _ => rfl), rfl, ?_, ?_⟩, ?_⟩
    · intro b off hp
      have hp' : MemPlace.cell b off ∈ before := by rw [hps]; simpa using hp
      rw [hb.frozen (hlt _ hp')]
      exact hz b off hp'
    · intro ha
      have := hn ha
      rw [hps] at this
      simpa using this
    · intro p hp _
      rw [hps]
      simpa using hp
end
end Go.Proofs.Ytakahhnlbciicaa.Ai
end
