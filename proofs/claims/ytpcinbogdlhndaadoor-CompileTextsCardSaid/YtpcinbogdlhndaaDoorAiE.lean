/-
  Starts with laid variables; runs with strings that are not known; decimal numerals. By an AI agent; no person has read it.
-/
import Derived.Test.YtpcinbogdlhndaaDoorAiD
import Derived.Shelf.Strconv.Itoa4
import Derived.Lib.ItoaLen
noncomputable section
namespace Go.Proofs.YtpcinbogdlhndaaDoor.Ai
open Go Go.RowKit

/-! ### A start with package variables that are laid, in a world all of which is read by value -/

/-- A package variable whose cells are known: its number, its places, the cells of one, the cells of all. -/
structure Laid where
  g : Nat
  es : List V
  e : Nat
  z : Nat

def Laid.find (ly : List Laid) (id : Nat) : Option Laid := ly.find? fun x => x.g == id
theorem Laid.find_some {ly : List Laid} {id : Nat} {x : Laid} (h : Laid.find ly id = some x) : x ∈ ly ∧ x.g = id :=
  ⟨List.mem_of_find?_eq_some h, by simpa using List.find?_some h⟩

/-- All that the world holds is read by value. -/
def Env.at (gl : List Nat) (ly : List Laid) (w : World) : Env :=
  ⟨fun id => match Laid.find ly id with
    | some x => some (id, 0, x.e, x.z)
    | none => if gl.contains id then some (id, 0, 0, 0) else none, fun r o => w.cell? ⟨r, o, none⟩⟩
noncomputable def lays : List Laid → H → H
  | [], h => h
  | x :: l, h => (lays l h).set x.g (.row x.es x.e .ro)
theorem lays_get : ∀ (ly : List Laid) (h : H) (id : Nat), (lays ly h).get id = match Laid.find ly id with
    | some x => some (.row x.es x.e .ro)
    | none => h.get id
  | [], h, id => rfl
  | x :: l, h, id => by
    simp only [lays]
    rw [H.get_set, lays_get l h id]
    unfold Laid.find
    rw [List.find?_cons]
    by_cases e : id = x.g
    · subst e; simp
    · have : (x.g == id) = false := by simpa using fun h => e h.symm
      rw [this, if_neg e]
theorem lays_nx : ∀ (ly : List Laid) (h : H), (lays ly h).nx = h.nx
  | [], _ => rfl
  | x :: l, h => by simp only [lays]; rw [H.nx_set, lays_nx l h]

section
variable {num : Nat → Nat} {gl : List Nat} {P : Program} {w0 : World}

/-- The world holds what is laid. -/
def Laid.Ok (num : Nat → Nat) (gl : List Nat) (ly : List Laid) (w : World) (x : Laid) : Prop :=
  0 < x.e ∧ (∃ cs el fz, w.heap[x.g]? = some (.cells cs el fz) ∧ cs.size = x.z ∧ ∀ (i j : Nat) (c : V), cellAt x.es i j = some c → ∃ v, cs[i * x.e + j]? = some v ∧ VRel num (Env.at gl ly w) c v) ∧
  (∀ (i : Nat) (y : V), x.es[i]? = some y → y.cells.length = x.e) ∧ x.es.length * x.e ≤ x.z

theorem Sim.at (num : Nat → Nat) (w : World) (gl : List Nat) (ly : List Laid) (n : Nat) (hn : gl.all (fun g => decide (g < n * 256)) = true) (hl : ∀ x, x ∈ ly → x.g ∈ gl ∧ Laid.Ok num gl ly w x) :
    Sim num w (Env.at gl ly w) (lays ly (deads gl ⟨n, .nil⟩)) w := by
  have hrow : ∀ id b, (lays ly (deads gl ⟨n, .nil⟩)).get id = some b → b = .dead ∨ ∃ x, Laid.find ly id = some x ∧ b = .row x.es x.e .ro := by
    intro id b hb
    rw [lays_get] at hb
    split at hb
    · rename_i x hx
      exact Or.inr ⟨x, hx, (Option.some.inj hb).symm⟩
    · rw [deads_get] at hb
      split at hb
      · exact Or.inl (Option.some.inj hb).symm
      · cases hb
  refine ⟨Below.refl _ _, fun r o v hv => hv, fun id => ?_, fun id hid => ?_, fun id es e k hg => ?_, ?_, fun id l p hg => ?_, ?_⟩
  · rw [lays_get]
    simp only [Env.at]
    split
    · rfl
    · rw [deads_get]
      split
      · rfl
      · rfl
  · have hlt : ∀ g, g ∈ gl → g < n * 256 := fun g hg => by simpa using List.all_eq_true.1 hn g hg
    rw [lays_nx, deads_nx] at hid
    simp only at hid
    rw [lays_get]
    split
    · rename_i x hx
      obtain ⟨h1, h2⟩ := Laid.find_some hx
      have := hlt _ (hl x h1).1
      omega
    · rw [deads_get, if_neg]
      · rfl
      · intro hc
        have := hlt id (by simpa using hc)
        omega
  · rcases hrow _ _ hg with h | ⟨x, hx, h⟩
    · cases h
    · cases h
      obtain ⟨h1, h2⟩ := Laid.find_some hx
      obtain ⟨_, k1, ⟨cs, el, fz, k2, k3, k4⟩, k5, k6⟩ := hl x h1
      refine ⟨id, 0, x.z, by simp [Env.at, hx], k1, ⟨cs, el, fz, by rw [← h2]; exact k2, k3, fun h => absurd rfl h, fun i j c hc => ?_, fun _ o ho => ?_⟩, k5, by omega, fun h => absurd rfl h, fun h => absurd rfl h⟩
      · obtain ⟨v, hv, hr⟩ := k4 i j c hc
        exact ⟨v, by rw [Nat.zero_add]; exact hv, hr⟩
      · simp only [Env.at]
        rw [← h2, cell?_eq k2]
  · intro i j es e k fs f l r b z r' b' z' hij hgi hgj hk
    rcases hrow _ _ hgi with h | ⟨x, hx, h⟩
    · cases h
    · cases h; exact absurd rfl hk
  · rcases hrow _ _ hg with h | ⟨x, hx, h⟩ <;> cases h
  · intro i j s p t q r r' hij hgi
    rcases hrow _ _ hgi with h | ⟨x, hx, h⟩ <;> cases h
theorem Glob.at (gl : List Nat) (ly : List Laid) (w : World) : Glob gl (Env.at gl ly w) := fun g hg => by
  simp only [Env.at]
  split
  · exact ⟨_, _, rfl⟩
  · exact ⟨0, 0, by simp [hg]⟩

theorem call1_ext {cf : CallF} (hcf : CExt cf) (n : Nat) (fn : Fun) {X : Nat → Option Blk} {vs : List V} {h k : H} {r : V} {h' : H} (e : Ext X h k) (hr : call1 cf n fn vs h = some (r, h')) :
    ∃ k', call1 cf n fn vs k = some (r, k') ∧ Ext X h' k' := by
  unfold call1 at hr ⊢
  cases hs : exec cf n fn.body (enter 0 vs) h with
  | none => rw [hs] at hr; simp at hr
  | some p =>
    obtain ⟨x, fr, m⟩ := p
    obtain ⟨k1, hk1, e1⟩ := exec_ext hcf n fn.body e hs
    rw [hs] at hr; rw [hk1]
    simp only at hr ⊢
    cases bx : x.isBrk
    case true => rw [bx] at hr; simp at hr
    case false =>
      rw [bx] at hr
      simp only [Bool.false_eq_true, if_false] at hr ⊢
      cases h2 : rvs fr m fn.res with
      | none => rw [h2] at hr; simp at hr
      | some ws =>
        rw [h2] at hr; rw [rvs_ext e1 h2]
        simp only at hr ⊢
        split at hr
        · rename_i hz
          simp only [Option.map_eq_some_iff] at hr
          obtain ⟨⟨vs', h2⟩, hq, hr⟩ := hr
          simp only [Prod.mk.injEq] at hr
          obtain ⟨k2, hk2, e2⟩ := frzR_ext e1 hq
          simp only [hz, if_true, Option.map_eq_some_iff]
          exact ⟨k2, ⟨_, hk2, by simp [hr.1]⟩, hr.2 ▸ e2⟩
        · rename_i hz
          simp only [Option.some.injEq, Prod.mk.injEq] at hr
          simp only [hz]
          exact ⟨k1, by simp [hr.1], hr.2 ▸ e1⟩

theorem call1_dom {cf : CallF} (hcf : CDom cf) (n : Nat) (fn : Fun) {vs : List V} {h : H} {r : V} {h' : H} (hr : call1 cf n fn vs h = some (r, h')) (nid : Nat) : Dom nid h h' := by
  unfold call1 at hr
  cases hs : exec cf n fn.body (enter 0 vs) h with
  | none => rw [hs] at hr; simp at hr
  | some p =>
    obtain ⟨x, fr, m⟩ := p
    have e1 := exec_dm hcf n fn.body hs
    rw [hs] at hr
    simp only at hr
    cases bx : x.isBrk
    case true => rw [bx] at hr; simp at hr
    case false =>
      rw [bx] at hr
      simp only [Bool.false_eq_true, if_false] at hr
      cases h2 : rvs fr m fn.res with
      | none => rw [h2] at hr; simp at hr
      | some ws =>
        rw [h2] at hr
        simp only at hr
        split at hr
        · simp only [Option.map_eq_some_iff] at hr
          obtain ⟨⟨vs', h2⟩, hq, hr⟩ := hr
          simp only [Prod.mk.injEq] at hr
          rw [← hr.2]
          exact (e1.dom nid).trans (frzR_dom hq)
        · simp only [Option.some.injEq, Prod.mk.injEq] at hr
          rw [← hr.2]
          exact e1.dom nid

/-- One function over a table of answers: what the evaluator says, the program does. -/
theorem call1_sound {ixf : Option Nat} {cf : CallF} (hxt : CExt cf) (hdm : CDom cf) (hcf : CfOk num gl P w0 cf)
    (hix : ∀ f, ixf = some f → ∀ args w, (callFunc f args).run P w = ((Extern.BytealgIndexByte.indexByte args).run P w).andThen fun v w' => .ok (.value v) w')
    {f : Nat} {F : Fun} (ho : okFun num gl ixf P f F = true) {n : Nat} {vs : List V} {h : H} {r : V} {h' : H}
    (hc : call1 cf n F vs h = some (r, h')) {S : Env} {w : World} {args : Array Value} (s : Sim num w0 S h w) (hg : Glob gl S) (rargs : VRels num S vs args.toList) :
    (∀ w', (callFunc (num f) args).run P w' = .ok (.enter (num f) args) w') ∧
    Calls P (num f) args w fun e w' => ∃ T c, e = .returned c ∧ S.le T ∧ VRel num T r c ∧ Sim num w0 T h' w' := by
  unfold okFun at ho
  split at ho
  · rename_i fn hfn
    simp only [Bool.and_eq_true, bne_iff_ne, ne_eq] at ho
    obtain ⟨⟨h1, h2⟩, h3⟩ := ho
    split at h2
    · rename_i c hbody
      refine ⟨fun w' => by simp [callFunc, hfn, h1, hbody], ?_⟩
      refine calls_of_wp hfn hbody ?_
      unfold call1 at hc
      split at hc
      · rename_i x fr h1' hx
        split at hc
        · cases hc
        · rename_i hbrk
          refine exec_sound hxt hdm hcf hix n c F.body h2 hx hg (FRel.start rargs fn.ntmps) s (fun T a' w' k1 k2 k3 => ?_)
          have post : a'.defers = [] ∧ ∃ v, (results fn a'.tmps).run P w' = .ok v w' ∧ ∃ T c, Ending.returned v = .returned c ∧ S.le T ∧ VRel num T r c ∧ Sim num w0 T h' w' := by
            refine ⟨k3.defers, ?_⟩
            split at hc
            · rename_i us hus
              obtain ⟨cs, m1, m2⟩ := res_run k3 k2 fn.results.toList F.res us h3 hus
              have hres : (results fn a'.tmps).run P w' = .ok (if h : cs.toArray.size = 1 then cs.toArray[0] else .tuple cs.toArray) w' := by
                have hd : results fn a'.tmps = (do let vs ← fn.results.mapM (rsem a'.tmps); pure (if h : vs.size = 1 then vs[0] else .tuple vs)) := by
                  unfold results
                  congr 1
                rw [hd, Sem.run_bind, Array.mapM_eq_mapM_toList, Sem.run_map, m1]
                rfl
              split at hc
              · simp only [Option.map_eq_some_iff, Prod.mk.injEq] at hc
                obtain ⟨⟨us', h2'⟩, e1, rfl, rfl⟩ := hc
                obtain ⟨U, q1, q2, q3⟩ := frzR_sound k2 e1 m2
                exact ⟨_, hres, U, _, rfl, Env.le_trans k1 q1, pack_rel q2, q3⟩
              · simp only [Option.some.injEq, Prod.mk.injEq] at hc
                obtain ⟨rfl, rfl⟩ := hc
                exact ⟨_, hres, T, _, rfl, k1, pack_rel m2, k2⟩
            · cases hc
          cases x with
          | norm => exact post
          | ret => exact post
          | brk id => simp [X.isBrk] at hbrk
      · cases hc
    · cases h2
  · cases ho

/-- Calls where the answers of functions without code are given. -/
noncomputable def callO (o : CallF) (fns : Nat → Option Fun) : Nat → CallF
  | 0 => o
  | n + 1 => fun f vs h => match fns f with
    | some F => call1 (callO o fns n) n F vs h
    | none => o f vs h
theorem callO_ext {o : CallF} (ho : CExt o) (fns : Nat → Option Fun) : ∀ n, CExt (callO o fns n)
  | 0 => ho
  | n + 1 => fun X f vs h k r h' e hr => by
    simp only [callO] at hr ⊢
    cases hf : fns f with
    | none => rw [hf] at hr; exact ho _ _ _ _ _ _ _ e hr
    | some F =>
      rw [hf] at hr
      exact call1_ext (callO_ext ho fns n) n F e hr
theorem callO_dom {o : CallF} (ho : CDom o) (fns : Nat → Option Fun) : ∀ n, CDom (callO o fns n)
  | 0 => ho
  | n + 1 => fun f vs h r h' hr nid => by
    simp only [callO] at hr
    cases hf : fns f with
    | none => rw [hf] at hr; exact ho _ _ _ _ _ hr nid
    | some F =>
      rw [hf] at hr
      exact call1_dom (callO_dom ho fns n) n F hr nid
theorem callO_sound {ixf : Option Nat} {o : CallF} (hxt : CExt o) (hdm : CDom o) (hcf : CfOk num gl P w0 o)
    (hix : ∀ f, ixf = some f → ∀ args w, (callFunc f args).run P w = ((Extern.BytealgIndexByte.indexByte args).run P w).andThen fun v w' => .ok (.value v) w')
    {fns : Nat → Option Fun} (hok : ∀ f F, fns f = some F → okFun num gl ixf P f F = true) : ∀ n, CfOk num gl P w0 (callO o fns n)
  | 0 => hcf
  | n + 1 => fun f vs h r h' hc S w args s hg rargs => by
    simp only [callO] at hc
    cases hf : fns f with
    | none => rw [hf] at hc; exact hcf f vs h _ _ hc S w args s hg rargs
    | some F =>
      rw [hf] at hc
      exact call1_sound (callO_ext hxt fns n) (callO_dom hdm fns n) (callO_sound hxt hdm hcf hix hok n) hix (hok f F hf) hc s hg rargs

/-- A run from a start with laid variables. -/
theorem calls_at {w : World} {cf : CallF} (hcf : CfOk num gl P w cf) {f nx : Nat} {vs : List V} {r : V} {h' : H} (hn : gl.all (fun g => decide (g < nx * 256)) = true) {ly : List Laid} (hl : ∀ x, x ∈ ly → x.g ∈ gl ∧ Laid.Ok num gl ly w x)
    (hc : cf f vs (lays ly (deads gl ⟨nx, .nil⟩)) = some (r, h')) {args : Array Value} (rargs : VRels num (Env.at gl ly w) vs args.toList) :
    Calls P (num f) args w fun e w' => ∃ T c, e = .returned c ∧ VRel num T r c ∧ Below w.heap.size w w' := by
  obtain ⟨_, h2⟩ := hcf f vs _ r h' hc _ w args (Sim.at num w gl ly nx hn hl) (Glob.at gl ly w) rargs
  refine Calls.mono h2 fun e w' he => ?_
  obtain ⟨T, c, k1, _, k3, k4⟩ := he
  exact ⟨T, c, k1, k3, k4.below⟩
end
end Go.Proofs.YtpcinbogdlhndaaDoor.Ai

namespace Go.Proofs.YtpcinbogdlhndaaDoor.Ai
open Go Go.RowKit

/-! ### A run whose strings are not known: what is joined is noted, not checked -/

/-- The checks of a region, as what is to be shown. -/
def chkP (lg : Log) : List (Bool × Nat × Nat) → Prop
  | [] => True
  | (w, c, l) :: r =>
    (match w with
      | true => (match findL c lg.ls, findL l lg.ls with
        | some a, some b => (!(a == b)) = true
        | _, _ => True)
      | false => (match findL c lg.cs, findL l lg.ls with
        | some (a, b), some id => a.get id = b.get id
        | _, _ => True)) ∧ chkP lg r
theorem chkP_ok {lg : Log} : ∀ {l : List (Bool × Nat × Nat)}, chkP lg l → chkOk lg l = true
  | [], _ => rfl
  | (w, c, l) :: r, h => by
    obtain ⟨h1, h2⟩ := h
    simp only [chkOk, Bool.and_eq_true]
    refine ⟨?_, chkP_ok h2⟩
    cases w with
    | true =>
      simp only [if_true] at h1 ⊢
      split at h1
      · rename_i a b e1 e2
        rw [e1, e2]; exact h1
      · rename_i hn
        split
        · rename_i a b e1 e2
          exact absurd e2 (hn a b e1)
        · rfl
    | false =>
      simp only [Bool.false_eq_true, if_false] at h1 ⊢
      split at h1
      · rename_i a b id e1 e2
        rw [e1, e2]
        simp only
        rw [h1]; exact obeq_refl _
      · rename_i hn
        split
        · rename_i a b id e1 e2
          exact absurd e2 (hn a b id e1)
        · rfl

/-- A string joined of two. -/
def joined (fr : Fr) : I → Option (List Nat)
  | .bin .add x y => match x.ev fr, y.ev fr with
    | some (.str s), some (.str t) => some (s ++ t)
    | _, _ => none
  | _ => none
/-- m ≤ n, by the constructors alone. -/
def leI : Int → Int → Bool
  | .ofNat a, .ofNat b => Nat.ble a b
  | .ofNat _, .negSucc _ => false
  | .negSucc _, .ofNat _ => true
  | .negSucc a, .negSucc b => Nat.ble b a
theorem leI_eq (m n : Int) : leI m n = decide (m ≤ n) := by
  cases m <;> cases n <;> simp only [leI]
  · rw [Bool.eq_iff_iff]; simp
  · rename_i a b
    have h1 : (0 : Int) ≤ Int.ofNat a := Int.natCast_nonneg a
    have h2 := Int.negSucc_lt_zero b
    rw [eq_comm, decide_eq_false_iff_not]; omega
  · rename_i a b
    have h1 : (0 : Int) ≤ Int.ofNat b := Int.natCast_nonneg b
    have h2 := Int.negSucc_lt_zero a
    rw [eq_comm, decide_eq_true_iff]; omega
  · rw [Bool.eq_iff_iff]; simp; omega
/-- A comparison of two numbers. -/
def cmpU (fr : Fr) : I → Option Bool
  | .bin .geq x y => match x.ev fr, y.ev fr with
    | some (.int k m), some (.int k' n) => if k = k' then some (leI n m) else none
    | _, _ => none
  | .bin .leq x y => match x.ev fr, y.ev fr with
    | some (.int k m), some (.int k' n) => if k = k' then some (leI m n) else none
    | _, _ => none
  | _ => none
def Small (l : List Prop) : Prop := ∀ p, p ∈ l → p
abbrev CallU := Nat → List V → H → Option (V × H × List Prop)

def stepU (cu : CallU) (fr : Fr) (h : H) (nid : Nat) (i : I) : Option (V × H × List Prop) :=
  match joined fr i with
  | some s => some (.str s, h, [s.length < 2 ^ 62])
  | none => match cmpU fr i with
   | some b => some (.bool b, h, [])
   | none => match i with
    | .call f xs => match evs fr xs with
      | some vs => cu f vs h
      | none => none
    | .callv x xs => match x.ev fr, evs fr xs with
      | some (.fn f a b), some vs => cu f (a ++ vs ++ b) h
      | _, _ => none
    | i => (stepc (fun _ _ _ => none) fr h nid i).map fun (v, h') => (v, h', [])

def runU (cu : CallU) (tick : Nat) (logged : Bool) : List Op1 → Fr → H → Log → List Prop → Option (Fr × H × Log × List Prop)
  | [], fr, h, lg, ob => some (fr, h, lg, ob)
  | o :: r, fr, h, lg, ob =>
    match wantedv fr o.g with
    | none => none
    | some false => runU cu tick logged r (putv fr o.dst .und) h lg ob
    | some true =>
      match stepU cu fr h (tick * 256 + o.ix) o.op with
      | none => none
      | some (v, h', ob') =>
        runU cu tick logged r (putv fr o.dst v) h'
          (if logged then lg.push o.ix h h' (addrOf fr (tick * 256 + o.ix) o.op) else lg) (ob' ++ ob)

def loopU (b : Fr → H → List Prop → Option (X × Fr × H × List Prop)) : Nat → Fr → H → List Prop → Option (X × Fr × H × List Prop)
  | 0, _, _, _ => none
  | n + 1, fr, h, ob => match b fr h ob with
    | some (.norm, fr', h', ob') => loopU b n fr' h' ob'
    | r => r

def execU (cu : CallU) (k : Nat) : IC → Fr → H → List Prop → Option (X × Fr × H × List Prop)
  | .skip, fr, h, ob => some (.norm, fr, h, ob)
  | .reg _ al ops chk out, fr, h, ob =>
    let h0 := if al then { h with nx := h.nx + 1 } else h
    match runU cu h.nx (!chk.isEmpty) ops fr h0 ⟨[], []⟩ ob with
    | some (fr', h', lg, ob') => some (.norm, (match out with | some l => Fr.keep l fr' | none => fr'), h', match chk with | [] => ob' | c :: r => chkP lg (c :: r) :: ob')
    | none => none
  | .seq a b, fr, h, ob => match execU cu k a fr h ob with
    | some (.norm, fr', h', ob') => execU cu k b fr' h' ob'
    | r => r
  | .cond c a b, fr, h, ob => match c.ev fr with
    | some (.bool true) => execU cu k a fr h ob
    | some (.bool false) => execU cu k b fr h ob
    | _ => none
  | .block id b, fr, h, ob => match execU cu k b fr h ob with
    | some (.brk j, fr', h', ob') => if j = id then some (.norm, fr', h', ob') else some (.brk j, fr', h', ob')
    | r => r
  | .loop b, fr, h, ob => loopU (execU cu k b) k fr h ob
  | .exit id, fr, h, ob => some (.brk id, fr, h, ob)
  | .ret, fr, h, ob => some (.ret, fr, h, ob)

noncomputable def callU1 (cu : CallU) (n : Nat) (F : Fun) (vs : List V) (h : H) : Option (V × H × List Prop) :=
  match execU cu n F.body (enter 0 vs) h [] with
  | some (x, fr, h', ob) => if x.isBrk then none else match rvs fr h' F.res with
    | some us => if F.fz then (frzR h' us).map fun (vs', h2) => (pack vs', h2, ob) else some (pack us, h', ob)
    | none => none
  | none => none
noncomputable def callU (ou : CallU) (fns : Nat → Option Fun) : Nat → CallU
  | 0 => ou
  | n + 1 => fun f vs h => match fns f with
    | some F => callU1 (callU ou fns n) n F vs h
    | none => ou f vs h

/-- What U says, the evaluator says, if all that is joined is small. -/
def ULe (cu : CallU) (c : CallF) : Prop := ∀ f vs h r h' ob, cu f vs h = some (r, h', ob) → Small ob → c f vs h = some (r, h')

theorem stepc_none {fr : Fr} {h : H} {nid : Nat} {i : I} {c : CallF} {r : V × H} (hr : stepc (fun _ _ _ => none) fr h nid i = some r) : stepc c fr h nid i = some r :=
  stepc_mono (fun f vs h r hr => by cases hr) hr

theorem stepU_le {cu : CallU} {c : CallF} (hc : ULe cu c) {fr : Fr} {h : H} {nid : Nat} {i : I} {v : V} {h' : H} {ob : List Prop} (hr : stepU cu fr h nid i = some (v, h', ob)) (hs : Small ob) :
    stepc c fr h nid i = some (v, h') := by
  unfold stepU at hr
  split at hr
  · rename_i s hj
    cases hr
    unfold joined at hj
    split at hj
    · rename_i x y
      split at hj
      · rename_i s t h1 h2
        cases hj
        have := hs _ (List.mem_singleton_self _)
        rw [List.length_append] at this
        simp [stepc, I.sort, stepP, h1, h2, binv, this]
      · cases hj
    · cases hj
  · split at hr
    · rename_i b hj
      cases hr
      unfold cmpU at hj
      split at hj
      · rename_i x y
        split at hj
        · rename_i k m k' n h1 h2
          split at hj
          · rename_i hk
            cases hj
            simp [stepc, I.sort, stepP, h1, h2, binv, hk, leI_eq]
          · cases hj
        · cases hj
      · rename_i x y
        split at hj
        · rename_i k m k' n h1 h2
          split at hj
          · rename_i hk
            cases hj
            simp [stepc, I.sort, stepP, h1, h2, binv, hk, leI_eq]
          · cases hj
        · cases hj
      · cases hj
    split at hr
    · rename_i f xs _ _
      split at hr
      · rename_i vs hv
        have := hc _ _ _ _ _ _ hr hs
        simp [stepc, I.sort, stepC, hv, this]
      · cases hr
    · rename_i x xs _ _
      split at hr
      · rename_i f a b vs h1 h2
        have := hc _ _ _ _ _ _ hr hs
        simp only [List.append_assoc] at this
        simp [stepc, I.sort, stepC, h1, h2, this]
      · cases hr
    · simp only [Option.map_eq_some_iff, Prod.mk.injEq] at hr
      obtain ⟨⟨v1, h1⟩, hq, rfl, rfl, _⟩ := hr
      exact stepc_none hq

theorem runU_le {cu : CallU} {c : CallF} (hc : ULe cu c) (tick : Nat) (lgd : Bool) : ∀ (l : List Op1) (fr : Fr) (h : H) (lg : Log) (ob : List Prop) (fr' : Fr) (h' : H) (lg' : Log) (ob' : List Prop),
    runU cu tick lgd l fr h lg ob = some (fr', h', lg', ob') → (∃ p, ob' = p ++ ob) ∧ (Small ob' → runOps c tick lgd l fr h lg = some (fr', h', lg'))
  | [], fr, h, lg, ob, fr', h', lg', ob', hr => by
    simp only [runU, Option.some.injEq, Prod.mk.injEq] at hr
    obtain ⟨rfl, rfl, rfl, rfl⟩ := hr
    exact ⟨⟨[], rfl⟩, fun _ => rfl⟩
  | o :: l, fr, h, lg, ob, fr', h', lg', ob', hr => by
    simp only [runU] at hr
    simp only [runOps]
    cases hw : wantedv fr o.g with
    | none => rw [hw] at hr; cases hr
    | some b =>
      rw [hw] at hr
      cases b with
      | false => exact runU_le hc tick lgd l _ _ _ _ _ _ _ _ hr
      | true =>
        simp only at hr ⊢
        cases hs : stepU cu fr h (tick * 256 + o.ix) o.op with
        | none => rw [hs] at hr; cases hr
        | some y =>
          obtain ⟨v, h1, ob1⟩ := y
          rw [hs] at hr
          simp only at hr
          obtain ⟨⟨p, hp⟩, h2⟩ := runU_le hc tick lgd l _ _ _ _ _ _ _ _ hr
          refine ⟨⟨p ++ ob1, by rw [hp, List.append_assoc]⟩, fun hsm => ?_⟩
          have hsm1 : Small ob1 := fun s hs => hsm s (by rw [hp]; simp [hs])
          rw [stepU_le hc hs hsm1]
          exact h2 hsm

theorem loopU_le {bu : Fr → H → List Prop → Option (X × Fr × H × List Prop)} {b : Fr → H → Option (X × Fr × H)}
    (hb : ∀ fr h ob x fr' h' ob', bu fr h ob = some (x, fr', h', ob') → (∃ p, ob' = p ++ ob) ∧ (Small ob' → b fr h = some (x, fr', h'))) : ∀ (n : Nat) fr h ob x fr' h' ob',
    loopU bu n fr h ob = some (x, fr', h', ob') → (∃ p, ob' = p ++ ob) ∧ (Small ob' → loopN b n fr h = some (x, fr', h'))
  | 0, fr, h, ob, x, fr', h', ob', hr => by simp [loopU] at hr
  | n + 1, fr, h, ob, x, fr', h', ob', hr => by
    simp only [loopU] at hr
    simp only [loopN]
    cases hx : bu fr h ob with
    | none => rw [hx] at hr; cases hr
    | some y =>
      obtain ⟨x1, fr1, h1, ob1⟩ := y
      rw [hx] at hr
      obtain ⟨⟨p, hp⟩, h2⟩ := hb _ _ _ _ _ _ _ hx
      cases x1 with
      | norm =>
        simp only at hr
        obtain ⟨⟨q, hq⟩, h3⟩ := loopU_le hb n _ _ _ _ _ _ _ hr
        refine ⟨⟨q ++ p, by rw [hq, hp, List.append_assoc]⟩, fun hsm => ?_⟩
        have hsm1 : Small ob1 := fun s hs => hsm s (by rw [hq]; simp [hs])
        rw [h2 hsm1]
        exact h3 hsm
      | brk id =>
        simp only [Option.some.injEq, Prod.mk.injEq] at hr
        obtain ⟨rfl, rfl, rfl, rfl⟩ := hr
        exact ⟨⟨p, hp⟩, fun hsm => by rw [h2 hsm]⟩
      | ret =>
        simp only [Option.some.injEq, Prod.mk.injEq] at hr
        obtain ⟨rfl, rfl, rfl, rfl⟩ := hr
        exact ⟨⟨p, hp⟩, fun hsm => by rw [h2 hsm]⟩

theorem execU_le {cu : CallU} {c : CallF} (hc : ULe cu c) (k : Nat) : ∀ (i : IC) fr h ob x fr' h' ob',
    execU cu k i fr h ob = some (x, fr', h', ob') → (∃ p, ob' = p ++ ob) ∧ (Small ob' → exec c k i fr h = some (x, fr', h'))
  | .skip, fr, h, ob, x, fr', h', ob', hr => by
    simp only [execU, Option.some.injEq, Prod.mk.injEq] at hr
    obtain ⟨rfl, rfl, rfl, rfl⟩ := hr
    exact ⟨⟨[], rfl⟩, fun _ => rfl⟩
  | .exit id, fr, h, ob, x, fr', h', ob', hr => by
    simp only [execU, Option.some.injEq, Prod.mk.injEq] at hr
    obtain ⟨rfl, rfl, rfl, rfl⟩ := hr
    exact ⟨⟨[], rfl⟩, fun _ => rfl⟩
  | .ret, fr, h, ob, x, fr', h', ob', hr => by
    simp only [execU, Option.some.injEq, Prod.mk.injEq] at hr
    obtain ⟨rfl, rfl, rfl, rfl⟩ := hr
    exact ⟨⟨[], rfl⟩, fun _ => rfl⟩
  | .reg _ al ops chk out, fr, h, ob, x, fr', h', ob', hr => by
    simp only [execU] at hr
    simp only [exec]
    split at hr
    · rename_i fr1 h1 lg1 ob1 hs
      obtain ⟨⟨p, hp⟩, h2⟩ := runU_le hc _ _ _ _ _ _ _ _ _ _ _ hs
      simp only [Option.some.injEq, Prod.mk.injEq] at hr
      obtain ⟨rfl, rfl, rfl, rfl⟩ := hr
      cases chk with
      | nil => exact ⟨⟨p, hp⟩, fun hsm => by rw [h2 hsm]; simp only [chkOk, if_true]; cases out <;> rfl⟩
      | cons c r =>
        refine ⟨⟨chkP lg1 (c :: r) :: p, by rw [hp]; rfl⟩, fun hsm => ?_⟩
        have hk : chkOk lg1 (c :: r) = true := chkP_ok (hsm _ (List.mem_cons_self ..))
        rw [h2 (fun q hq => hsm q (List.mem_cons_of_mem _ hq))]
        simp only [hk, if_true]
        cases out <;> rfl
    · cases hr
  | .seq a b, fr, h, ob, x, fr', h', ob', hr => by
    simp only [execU] at hr
    simp only [exec]
    cases hx : execU cu k a fr h ob with
    | none => rw [hx] at hr; cases hr
    | some y =>
      obtain ⟨x1, fr1, h1, ob1⟩ := y
      rw [hx] at hr
      obtain ⟨⟨p, hp⟩, h2⟩ := execU_le hc k a _ _ _ _ _ _ _ hx
      cases x1 with
      | norm =>
        simp only at hr
        obtain ⟨⟨q, hq⟩, h3⟩ := execU_le hc k b _ _ _ _ _ _ _ hr
        refine ⟨⟨q ++ p, by rw [hq, hp, List.append_assoc]⟩, fun hsm => ?_⟩
        have hsm1 : Small ob1 := fun s hs => hsm s (by rw [hq]; simp [hs])
        rw [h2 hsm1]
        exact h3 hsm
      | brk id =>
        simp only [Option.some.injEq, Prod.mk.injEq] at hr
        obtain ⟨rfl, rfl, rfl, rfl⟩ := hr
        exact ⟨⟨p, hp⟩, fun hsm => by rw [h2 hsm]⟩
      | ret =>
        simp only [Option.some.injEq, Prod.mk.injEq] at hr
        obtain ⟨rfl, rfl, rfl, rfl⟩ := hr
        exact ⟨⟨p, hp⟩, fun hsm => by rw [h2 hsm]⟩
  | .cond o a b, fr, h, ob, x, fr', h', ob', hr => by
    simp only [execU] at hr
    simp only [exec]
    split at hr
    · rename_i hv
      rw [hv]
      exact execU_le hc k a _ _ _ _ _ _ _ hr
    · rename_i hv
      rw [hv]
      exact execU_le hc k b _ _ _ _ _ _ _ hr
    · cases hr
  | .block id b, fr, h, ob, x, fr', h', ob', hr => by
    simp only [execU] at hr
    simp only [exec]
    cases hx : execU cu k b fr h ob with
    | none => rw [hx] at hr; cases hr
    | some y =>
      obtain ⟨x1, fr1, h1, ob1⟩ := y
      rw [hx] at hr
      obtain ⟨⟨p, hp⟩, h2⟩ := execU_le hc k b _ _ _ _ _ _ _ hx
      cases x1 with
      | norm =>
        simp only [Option.some.injEq, Prod.mk.injEq] at hr
        obtain ⟨rfl, rfl, rfl, rfl⟩ := hr
        exact ⟨⟨p, hp⟩, fun hsm => by rw [h2 hsm]⟩
      | ret =>
        simp only [Option.some.injEq, Prod.mk.injEq] at hr
        obtain ⟨rfl, rfl, rfl, rfl⟩ := hr
        exact ⟨⟨p, hp⟩, fun hsm => by rw [h2 hsm]⟩
      | brk j =>
        simp only at hr
        split at hr
        · rename_i hj
          simp only [Option.some.injEq, Prod.mk.injEq] at hr
          obtain ⟨rfl, rfl, rfl, rfl⟩ := hr
          exact ⟨⟨p, hp⟩, fun hsm => by rw [h2 hsm]; simp only [hj, if_true]⟩
        · rename_i hj
          simp only [Option.some.injEq, Prod.mk.injEq] at hr
          obtain ⟨rfl, rfl, rfl, rfl⟩ := hr
          exact ⟨⟨p, hp⟩, fun hsm => by rw [h2 hsm]; simp only [hj, if_false]⟩
  | .loop b, fr, h, ob, x, fr', h', ob', hr => by
    simp only [execU] at hr
    simp only [exec]
    exact loopU_le (fun fr h ob x fr' h' ob' hb => execU_le hc k b fr h ob x fr' h' ob' hb) k _ _ _ _ _ _ _ hr

/-- All of a list. -/
def conj : List Prop → Prop
  | [] => True
  | p :: l => p ∧ conj l
theorem conj_small : ∀ {l : List Prop}, conj l → Small l
  | [], _ => fun p hp => by cases hp
  | q :: l, h => fun p hp => by
    rcases List.mem_cons.1 hp with rfl | hp
    · exact h.1
    · exact conj_small h.2 p hp
/-- The answer is a truth value, and it and all that is to be shown holds. -/
def holdsU (x : Option (V × H × List Prop)) : Prop := match x with
  | some (.bool b, _, l) => b = true ∧ conj l
  | _ => False
theorem holdsU_eq {x : Option (V × H × List Prop)} (h : holdsU x) : ∃ h' l, x = some (.bool true, h', l) ∧ Small l := by
  unfold holdsU at h
  split at h
  · rename_i b h' l
    obtain ⟨rfl, h2⟩ := h
    exact ⟨h', l, rfl, conj_small h2⟩
  · exact h.elim

theorem callU_le {ou : CallU} {o : CallF} (ho : ULe ou o) (fns : Nat → Option Fun) : ∀ n, ULe (callU ou fns n) (callO o fns n)
  | 0 => ho
  | n + 1 => fun f vs h r h' ob hr hs => by
    simp only [callU] at hr
    simp only [callO]
    cases hf : fns f with
    | none =>
      rw [hf] at hr
      exact ho _ _ _ _ _ _ hr hs
    | some F =>
      rw [hf] at hr
      simp only at hr ⊢
      unfold callU1 at hr
      unfold call1
      split at hr
      · rename_i x fr h1 ob1 hx
        obtain ⟨_, h2⟩ := execU_le (callU_le ho fns n) n F.body _ _ _ _ _ _ _ hx
        split at hr
        · cases hr
        · rename_i hb
          split at hr
          · rename_i us hus
            split at hr
            · rename_i hz
              simp only [Option.map_eq_some_iff, Prod.mk.injEq] at hr
              obtain ⟨⟨v, k⟩, hq, rfl, rfl, rfl⟩ := hr
              rw [h2 hs]
              simp [hb, hus, hz, hq]
            · rename_i hz
              simp only [Option.some.injEq, Prod.mk.injEq] at hr
              obtain ⟨rfl, rfl, rfl⟩ := hr
              rw [h2 hs]
              simp [hb, hus, hz]
          · cases hr
      · cases hr
end Go.Proofs.YtpcinbogdlhndaaDoor.Ai

namespace Go.Proofs.YtpcinbogdlhndaaDoor.Ai
open Go Go.RowKit

/-! ### strconv.Itoa and strconv.FormatInt at base 10, by the kit's contracts -/

def InI64 (n : Int) : Prop := -9223372036854775808 ≤ n ∧ n ≤ 9223372036854775807
instance (n : Int) : Decidable (InI64 n) := by unfold InI64; infer_instance
def dec (n : Int) : List Nat := (Lib.itoa n).map UInt8.toNat
theorem dec_length (n : Int) (h : InI64 n) : (dec n).length ≤ 21 := by
  unfold dec
  rw [List.length_map]
  exact Lib.itoa_length_le n h.1 h.2

def decO (fi ff : Nat) : CallF := fun f vs h => match vs with
  | [.int .i64 n] => if f = fi ∧ InI64 n then some (.str (dec n), h) else none
  | [.int .i64 n, .int .i64 b] => if f = ff ∧ b = 10 ∧ InI64 n then some (.str (dec n), h) else none
  | _ => none
def decU (fi ff : Nat) : CallU := fun f vs h => match vs with
  | [.int .i64 n] => if f = fi then some (.str (dec n), h, [InI64 n]) else none
  | [.int .i64 n, .int .i64 b] => if f = ff ∧ b = 10 then some (.str (dec n), h, [InI64 n]) else none
  | _ => none
theorem decU_le (fi ff : Nat) : ULe (decU fi ff) (decO fi ff) := by
  intro f vs h r h' ob hr hs
  unfold decU at hr
  unfold decO
  split at hr
  · split at hr
    · rename_i hf
      cases hr
      simp [hf, hs _ (List.mem_singleton_self _)]
    · cases hr
  · split at hr
    · rename_i hf
      cases hr
      simp [hf, hs _ (List.mem_singleton_self _)]
    · cases hr
  · cases hr
theorem decO_some {fi ff f : Nat} {vs : List V} {h : H} {r : V} {h' : H} (hr : decO fi ff f vs h = some (r, h')) :
    h' = h ∧ ∃ n, InI64 n ∧ r = .str (dec n) ∧ ((f = fi ∧ vs = [.int .i64 n]) ∨ (f = ff ∧ vs = [.int .i64 n, .int .i64 10])) := by
  unfold decO at hr
  split at hr
  · split at hr
    · rename_i n hc
      cases hr
      exact ⟨rfl, n, hc.2, rfl, .inl ⟨hc.1, rfl⟩⟩
    · cases hr
  · split at hr
    · rename_i n b hc
      cases hr
      obtain ⟨h1, rfl, h3⟩ := hc
      exact ⟨rfl, n, h3, rfl, .inr ⟨h1, rfl⟩⟩
    · cases hr
  · cases hr
theorem decO_ext (fi ff : Nat) : CExt (decO fi ff) := by
  intro X f vs h k r h' e hr
  obtain ⟨rfl, n, hn, rfl, hv⟩ := decO_some hr
  refine ⟨k, ?_, e⟩
  rcases hv with ⟨rfl, rfl⟩ | ⟨rfl, rfl⟩ <;> simp [decO, hn]
theorem decO_dom (fi ff : Nat) : CDom (decO fi ff) := by
  intro f vs h r h' hr nid
  obtain ⟨rfl, _⟩ := decO_some hr
  exact Dom.refl _ _

theorem tabIs_below {P : Program} {w w' : World} {name : String} {k : IntKind} {zs : List Int} (h : Lib.TabIs P w name k zs) (b : Below w.heap.size w w') : Lib.TabIs P w' name k zs := by
  unfold Lib.TabIs at h ⊢
  unfold World.var? at h ⊢
  cases hg : P.globalNamed name with
  | none => rw [hg] at h; simp at h
  | some g =>
    rw [hg] at h
    simp only [Option.bind_some] at h ⊢
    have hlt : g < w.heap.size := by
      rcases Nat.lt_or_ge g w.heap.size with hl | hl
      · exact hl
      · rw [Array.getElem?_eq_none hl] at h; simp at h
    rw [b.block g hlt]
    exact h

section
variable {num : Nat → Nat} {gl : List Nat} {P : Program} {w0 : World}
theorem below_grow (w : World) (k : Nat) (os : Array Obj) : Below w.heap.size w (Sort.grow (w.drewN k) os) :=
  ⟨rfl, rfl, rfl, by simp [Sort.grow], fun i hi => by
    show ((w.drewN k).heap ++ os)[i]? = _
    rw [World.heap_drewN, Array.getElem?_append_left hi]⟩
theorem decO_sound {fi ff : Nat} (htab : Lib.TabIs P w0 "internal/strconv.uint64pow10" .u64 Lib.pow10Tab)
    (ei : ∀ args w, (callFunc (num fi) args).run P w = .ok (.enter (num fi) args) w) (ef : ∀ args w, (callFunc (num ff) args).run P w = .ok (.enter (num ff) args) w)
    (hi : ∀ (n : Int), -9223372036854775808 ≤ n → n ≤ 9223372036854775807 → ∀ (w : World), Lib.TabIs P w "internal/strconv.uint64pow10" .u64 Lib.pow10Tab →
      Calls P (num fi) #[.int .i64 n] w fun e w' => e = .returned (.string ⟨(Lib.itoa n).toArray⟩) ∧ ∃ k os, w' = Sort.grow (w.drewN k) os)
    (hf : ∀ (n : Int), -9223372036854775808 ≤ n → n ≤ 9223372036854775807 → ∀ (w : World), Lib.TabIs P w "internal/strconv.uint64pow10" .u64 Lib.pow10Tab →
      Calls P (num ff) #[.int .i64 n, .int .i64 10] w fun e w' => e = .returned (.string ⟨(Lib.itoa n).toArray⟩) ∧ ∃ k os, w' = Sort.grow (w.drewN k) os) :
    CfOk num gl P w0 (decO fi ff) := by
  intro f vs h r h' hc S w args s hg rargs
  obtain ⟨rfl, n, hn, rfl, hv⟩ := decO_some hc
  have ht := tabIs_below htab s.below
  have done : ∀ e w', (e = Ending.returned (.string ⟨(Lib.itoa n).toArray⟩) ∧ ∃ k os, w' = Sort.grow (w.drewN k) os) → ∃ T c, e = .returned c ∧ S.le T ∧ VRel num T (.str (dec n)) c ∧ Sim num w0 T h' w' := by
    rintro e w' ⟨rfl, k, os, rfl⟩
    exact ⟨S, _, rfl, Env.le_refl _, .str _ _ (by simp [dec]), s.later (below_grow w k os)⟩
  rcases hv with ⟨rfl, rfl⟩ | ⟨rfl, rfl⟩
  · obtain ⟨v, b, e1, r1, r2⟩ := rargs.head
    cases r1
    have hb : b = [] := by have := r2.1; cases b <;> simp_all
    subst hb
    have : args = #[.int .i64 n] := by cases args; simp_all
    subst this
    exact ⟨fun w' => ei _ w', Calls.mono (hi n hn.1 hn.2 w ht) done⟩
  · obtain ⟨v, b, e1, r1, r2⟩ := rargs.head
    obtain ⟨v2, b2, e2, r3, r4⟩ := r2.head
    cases r1
    cases r3
    have hb : b2 = [] := by have := r4.1; cases b2 <;> simp_all
    subst hb
    subst e2
    have : args = #[.int .i64 n, .int .i64 10] := by cases args; simp_all
    subst this
    exact ⟨fun w' => ef _ w', Calls.mono (hf n hn.1 hn.2 w ht) done⟩
end
end Go.Proofs.YtpcinbogdlhndaaDoor.Ai
end
