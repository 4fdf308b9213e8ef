/-
  Starts with laid variables; runs with strings that are not known; decimal numerals. By an AI agent; no person has read it.
-/
import Derived.Test.YtakahhnlbciicaaAiD
import Derived.IntWalk
noncomputable section
namespace Go.Proofs.Ytakahhnlbciicaa.Ai
open Go Go.RowKit

/-! ### A start with package variables that are laid, in a world all of which is read by value -/

/-- A package variable whose cells are known: its number, its places, the cells of one, the cells of all. -/
structure Laid where
  g : Nat
  es : List V
  e : Nat
  z : Nat

def Laid.find (ly : List Laid) (id : Nat) : Option Laid := ly.find? fun x => x.g == id
theorem Laid.find_some {ly : List Laid} {id : Nat} {x : Laid} (h : Laid.find ly id = some x) : x ∈ ly ∧ x.g = id :=
  ⟨List.mem_of_find?_eq_some h, by simpa using List.find?_some h⟩

/-- All that the world holds is read by value. -/
def Env.at (gl : List Nat) (ly : List Laid) (w : World) : Env :=
  ⟨fun id => match Laid.find ly id with
    | some x => some (id, 0, x.e, x.z)
    | none => if gl.contains id then some (id, 0, 0, 0) else none, fun r o => w.cell? ⟨r, o, none⟩⟩
noncomputable def lays : List Laid → H → H
  | [], h => h
  | x :: l, h => (lays l h).set x.g (.row x.es x.e .ro)
theorem lays_get : ∀ (ly : List Laid) (h : H) (id : Nat), (lays ly h).get id = match Laid.find ly id with
    | some x => some (.row x.es x.e .ro)
    | none => h.get id
  | [], h, id => rfl
  | x :: l, h, id => by
    simp only [lays]
    rw [H.get_set, lays_get l h id]
    unfold Laid.find
    rw [List.find?_cons]
    by_cases e : id = x.g
    · subst e; simp
    · have : (x.g == id) = false := by simpa using fun h => e h.symm
      rw [this, if_neg e]
theorem lays_nx : ∀ (ly : List Laid) (h : H), (lays ly h).nx = h.nx
  | [], _ => rfl
  | x :: l, h => by simp only [lays]; rw [H.nx_set, lays_nx l h]

section
variable {num : Nat → Nat} {gl : List Nat} {P : Program} {w0 : World}

/-- The world holds what is laid. -/
def Laid.Ok (num : Nat → Nat) (gl : List Nat) (ly : List Laid) (w : World) (x : Laid) : Prop :=
  0 < x.e ∧ (∃ cs el fz, w.heap[x.g]? = some (.cells cs el fz) ∧ cs.size = x.z ∧ ∀ (i j : Nat) (c : V), cellAt x.es i j = some c → ∃ v, cs[i * x.e + j]? = some v ∧ VRel num (Env.at gl ly w) c v) ∧
  (∀ (i : Nat) (y : V), x.es[i]? = some y → y.cells.length = x.e) ∧ x.es.length * x.e ≤ x.z

theorem Sim.at (num : Nat → Nat) (w : World) (gl : List Nat) (ly : List Laid) (n : Nat) (hn : gl.all (fun g => decide (g < n * 256)) = true) (hl : ∀ x, x ∈ ly → x.g ∈ gl ∧ Laid.Ok num gl ly w x) :
    Sim num w (Env.at gl ly w) (lays ly (deads gl ⟨n, .nil⟩)) w := by
  have hrow : ∀ id b, (lays ly (deads gl ⟨n, .nil⟩)).get id = some b → b = .dead ∨ ∃ x, Laid.find ly id = some x ∧ b = .row x.es x.e .ro := by
    intro id b hb
    rw [lays_get] at hb
    split at hb
    · rename_i x hx
      exact Or.inr ⟨x, hx, (Option.some.inj hb).symm⟩
    · rw [deads_get] at hb
      split at hb
      · exact Or.inl (Option.some.inj hb).symm
      · cases hb
  refine ⟨Below.refl _ _, fun r o v hv => hv, fun id => ?_, fun id hid => ?_, fun id es e k hg => ?_, ?_, fun id l p hg => ?_, ?_⟩
  · rw [lays_get]
    simp only [Env.at]
    split
    · rfl
    · rw [deads_get]
      split
      · rfl
      · rfl
  · have hlt : ∀ g, g ∈ gl → g < n * 256 := fun g hg => by simpa using List.all_eq_true.1 hn g hg
    rw [lays_nx, deads_nx] at hid
    simp only at hid
    rw [lays_get]
    split
    · rename_i x hx
      obtain ⟨h1, h2⟩ := Laid.find_some hx
      have := hlt _ (hl x h1).1
      omega
    · rw [deads_get, if_neg]
      · rfl
      · intro hc
        have := hlt id (by simpa using hc)
        omega
  · rcases hrow _ _ hg with h | ⟨x, hx, h⟩
    · cases h
    · cases h
      obtain ⟨h1, h2⟩ := Laid.find_some hx
      obtain ⟨_, k1, ⟨cs, el, fz, k2, k3, k4⟩, k5, k6⟩ := hl x h1
      refine ⟨id, 0, x.z, by simp [Env.at, hx], k1, ⟨cs, el, fz, by rw [← h2]; exact k2, k3, fun h => absurd rfl h, fun i j c hc => ?_, fun _ o ho => ?_⟩, k5, by omega, fun h => absurd rfl h, fun h => absurd rfl h⟩
      · obtain ⟨v, hv, hr⟩ := k4 i j c hc
        exact ⟨v, by rw [Nat.zero_add]; exact hv, hr⟩
      · simp only [Env.at]
        rw [← h2, cell?_eq k2]
  · intro i j es e k fs f l r b z r' b' z' hij hgi hgj hk
    rcases hrow _ _ hgi with h | ⟨x, hx, h⟩
    · cases h
    · cases h; exact absurd rfl hk
  · rcases hrow _ _ hg with h | ⟨x, hx, h⟩ <;> cases h
  · intro i j s p t q r r' hij hgi
    rcases hrow _ _ hgi with h | ⟨x, hx, h⟩ <;> cases h
theorem Glob.at (gl : List Nat) (ly : List Laid) (w : World) : Glob gl (Env.at gl ly w) := fun g hg => by
  simp only [Env.at]
  split
  · exact ⟨_, _, rfl⟩
  · exact ⟨0, 0, by simp [hg]⟩

theorem call1_ext {cf : CallF} (hcf : CExt cf) (n : Nat) (fn : Fun) {X : Nat → Option Blk} {vs : List V} {h k : H} {r : V} {h' : H} (e : Ext X h k) (hr : call1 cf n fn vs h = some (r, h')) :
    ∃ k', call1 cf n fn vs k = some (r, k') ∧ Ext X h' k' := by
  unfold call1 at hr ⊢
  cases hs : exec cf n fn.body (enter 0 vs) h with
  | none => rw [hs] at hr; simp at hr
  | some p =>
    obtain ⟨x, fr, m⟩ := p
    obtain ⟨k1, hk1, e1⟩ := exec_ext hcf n fn.body e hs
    rw [hs] at hr; rw [hk1]
    simp only at hr ⊢
    cases bx : x.isBrk
    case true => rw [bx] at hr; simp at hr
    case false =>
      rw [bx] at hr
      simp only [Bool.false_eq_true, if_false] at hr ⊢
      cases h2 : rvs fr m fn.res with
      | none => rw [h2] at hr; simp at hr
      | some ws =>
        rw [h2] at hr; rw [rvs_ext e1 h2]
        simp only at hr ⊢
        split at hr
        · rename_i hz
          simp only [Option.map_eq_some_iff] at hr
          obtain ⟨⟨vs', h2⟩, hq, hr⟩ := hr
          simp only [Prod.mk.injEq] at hr
          obtain ⟨k2, hk2, e2⟩ := frzR_ext e1 hq
          simp only [hz, if_true, Option.map_eq_some_iff]
          exact ⟨k2, ⟨_, hk2, by simp [hr.1]⟩, hr.2 ▸ e2⟩
        · rename_i hz
          simp only [Option.some.injEq, Prod.mk.injEq] at hr
          simp only [hz]
          exact ⟨k1, by simp [hr.1], hr.2 ▸ e1⟩

theorem call1_dom {cf : CallF} (hcf : CDom cf) (n : Nat) (fn : Fun) {vs : List V} {h : H} {r : V} {h' : H} (hr : call1 cf n fn vs h = some (r, h')) (nid : Nat) : Dom nid h h' := by
  unfold call1 at hr
  cases hs : exec cf n fn.body (enter 0 vs) h with
  | none => rw [hs] at hr; simp at hr
  | some p =>
    obtain ⟨x, fr, m⟩ := p
    have e1 := exec_dm hcf n fn.body hs
    rw [hs] at hr
    simp only at hr
    cases bx : x.isBrk
    case true => rw [bx] at hr; simp at hr
    case false =>
      rw [bx] at hr
      simp only [Bool.false_eq_true, if_false] at hr
      cases h2 : rvs fr m fn.res with
      | none => rw [h2] at hr; simp at hr
      | some ws =>
        rw [h2] at hr
        simp only at hr
        split at hr
        · simp only [Option.map_eq_some_iff] at hr
          obtain ⟨⟨vs', h2⟩, hq, hr⟩ := hr
          simp only [Prod.mk.injEq] at hr
          rw [← hr.2]
          exact (e1.dom nid).trans (frzR_dom hq)
        · simp only [Option.some.injEq, Prod.mk.injEq] at hr
          rw [← hr.2]
          exact e1.dom nid

/-- One function over a table of answers: what the evaluator says, the program does. -/
theorem call1_sound {ixf : Option Nat} {cf : CallF} (hxt : CExt cf) (hdm : CDom cf) (hcf : CfOk num gl P w0 cf)
    (hix : ∀ f, ixf = some f → ∀ args w, (callFunc f args).run P w = ((Extern.BytealgIndexByte.indexByte args).run P w).andThen fun v w' => .ok (.value v) w')
    {f : Nat} {F : Fun} (ho : okFun num gl ixf P f F = true) {n : Nat} {vs : List V} {h : H} {r : V} {h' : H}
    (hc : call1 cf n F vs h = some (r, h')) {S : Env} {w : World} {args : Array Value} (s : Sim num w0 S h w) (hg : Glob gl S) (rargs : VRels num S vs args.toList) :
    (∀ w', (callFunc (num f) args).run P w' = .ok (.enter (num f) args) w') ∧
    Calls P (num f) args w fun e w' => ∃ T c, e = .returned c ∧ S.le T ∧ VRel num T r c ∧ Sim num w0 T h' w' := by
  unfold okFun at ho
  split at ho
  · rename_i fn hfn
    simp only [Bool.and_eq_true, bne_iff_ne, ne_eq] at ho
    obtain ⟨⟨h1, h2⟩, h3⟩ := ho
    split at h2
    · rename_i c hbody
      refine ⟨fun w' => by simp [callFunc, hfn, h1, hbody], ?_⟩
      refine calls_of_wp hfn hbody ?_
      unfold call1 at hc
      split at hc
      · rename_i x fr h1' hx
        split at hc
        · cases hc
        · rename_i hbrk
          refine exec_sound hxt hdm hcf hix n c F.body h2 hx hg (FRel.start rargs fn.ntmps) s (fun T a' w' k1 k2 k3 => ?_)
          have post : a'.defers = [] ∧ ∃ v, (results fn a'.tmps).run P w' = .ok v w' ∧ ∃ T c, Ending.returned v = .returned c ∧ S.le T ∧ VRel num T r c ∧ Sim num w0 T h' w' := by
            refine ⟨k3.defers, ?_⟩
            split at hc
            · rename_i us hus
              obtain ⟨cs, m1, m2⟩ := res_run k3 k2 fn.results.toList F.res us h3 hus
              have hres : (results fn a'.tmps).run P w' = .ok (if h : cs.toArray.size = 1 then cs.toArray[0] else .tuple cs.toArray) w' := by
                have hd : results fn a'.tmps = (do let vs ← fn.results.mapM (rsem a'.tmps); pure (if h : vs.size = 1 then vs[0] else .tuple vs)) := by
                  unfold results
                  congr 1
                rw [hd, Sem.run_bind, Array.mapM_eq_mapM_toList, Sem.run_map, m1]
                rfl
              split at hc
              · simp only [Option.map_eq_some_iff, Prod.mk.injEq] at hc
                obtain ⟨⟨us', h2'⟩, e1, rfl, rfl⟩ := hc
                obtain ⟨U, q1, q2, q3⟩ := frzR_sound k2 e1 m2
                exact ⟨_, hres, U, _, rfl, Env.le_trans k1 q1, pack_rel q2, q3⟩
              · simp only [Option.some.injEq, Prod.mk.injEq] at hc
                obtain ⟨rfl, rfl⟩ := hc
                exact ⟨_, hres, T, _, rfl, k1, pack_rel m2, k2⟩
            · cases hc
          cases x with
          | norm => exact post
          | ret => exact post
          | brk id => simp [X.isBrk] at hbrk
      · cases hc
    · cases h2
  · cases ho

/-- Calls where the answers of functions without code are given. -/
noncomputable def callO (o : CallF) (fns : Nat → Option Fun) : Nat → CallF
  | 0 => o
  | n + 1 => fun f vs h => match fns f with
    | some F => call1 (callO o fns n) n F vs h
    | none => o f vs h
theorem callO_ext {o : CallF} (ho : CExt o) (fns : Nat → Option Fun) : ∀ n, CExt (callO o fns n)
  | 0 => ho
  | n + 1 => fun X f vs h k r h' e hr => by
    simp only [callO] at hr ⊢
    cases hf : fns f with
    | none => rw [hf] at hr; exact ho _ _ _ _ _ _ _ e hr
    | some F =>
      rw [hf] at hr
      exact call1_ext (callO_ext ho fns n) n F e hr
theorem callO_dom {o : CallF} (ho : CDom o) (fns : Nat → Option Fun) : ∀ n, CDom (callO o fns n)
  | 0 => ho
  | n + 1 => fun f vs h r h' hr nid => by
    simp only [callO] at hr
    cases hf : fns f with
    | none => rw [hf] at hr; exact ho _ _ _ _ _ hr nid
    | some F =>
      rw [hf] at hr
      exact call1_dom (callO_dom ho fns n) n F hr nid
theorem callO_sound {ixf : Option Nat} {o : CallF} (hxt : CExt o) (hdm : CDom o) (hcf : CfOk num gl P w0 o)
    (hix : ∀ f, ixf = some f → ∀ args w, (callFunc f args).run P w = ((Extern.BytealgIndexByte.indexByte args).run P w).andThen fun v w' => .ok (.value v) w')
    {fns : Nat → Option Fun} (hok : ∀ f F, fns f = some F → okFun num gl ixf P f F = true) : ∀ n, CfOk num gl P w0 (callO o fns n)
  | 0 => hcf
  | n + 1 => fun f vs h r h' hc S w args s hg rargs => by
    simp only [callO] at hc
    cases hf : fns f with
    | none => rw [hf] at hc; exact hcf f vs h _ _ hc S w args s hg rargs
    | some F =>
      rw [hf] at hc
      exact call1_sound (callO_ext hxt fns n) (callO_dom hdm fns n) (callO_sound hxt hdm hcf hix hok n) hix (hok f F hf) hc s hg rargs

/-- A run from a start with laid variables. -/
theorem calls_at {w : World} {cf : CallF} (hcf : CfOk num gl P w cf) {f nx : Nat} {vs : List V} {r : V} {h' : H} (hn : gl.all (fun g => decide (g < nx * 256)) = true) {ly : List Laid} (hl : ∀ x, x ∈ ly → x.g ∈ gl ∧ Laid.Ok num gl ly w x)
    (hc : cf f vs (lays ly (deads gl ⟨nx, .nil⟩)) = some (r, h')) {args : Array Value} (rargs : VRels num (Env.at gl ly w) vs args.toList) :
    Calls P (num f) args w fun e w' => ∃ T c, e = .returned c ∧ VRel num T r c ∧ Below w.heap.size w w' := by
  obtain ⟨_, h2⟩ := hcf f vs _ r h' hc _ w args (Sim.at num w gl ly nx hn hl) (Glob.at gl ly w) rargs
  refine Calls.mono h2 fun e w' he => ?_
  obtain ⟨T, c, k1, _, k3, k4⟩ := he
  exact ⟨T, c, k1, k3, k4.below⟩
end
end Go.Proofs.Ytakahhnlbciicaa.Ai

namespace Go.Proofs.Ytakahhnlbciicaa.Ai
open Go

/-! ### Runs of loops and of code with unknown values -/

/-- A loop by an invariant: at round i it goes on to round i + 1 or ends; at round n it ends. -/
theorem loopN_ind {b : Fr → H → Option (X × Fr × H)} {n : Nat} {I : Nat → Fr → H → Prop} {Q : X → Fr → H → Prop}
    (step : ∀ i fr h, i < n → I i fr h → (∃ fr' h', b fr h = some (.norm, fr', h') ∧ I (i + 1) fr' h') ∨ (∃ x fr' h', x ≠ .norm ∧ b fr h = some (x, fr', h') ∧ Q x fr' h'))
    (last : ∀ fr h, I n fr h → ∃ x fr' h', x ≠ .norm ∧ b fr h = some (x, fr', h') ∧ Q x fr' h') :
    ∀ (m i : Nat), n - i ≤ m → i ≤ n → ∀ (k : Nat), m < k → ∀ fr h, I i fr h → ∃ x fr' h', loopN b k fr h = some (x, fr', h') ∧ Q x fr' h' := by
  have fin : ∀ (k : Nat) fr h x fr' h', x ≠ .norm → b fr h = some (x, fr', h') → loopN b (k + 1) fr h = some (x, fr', h') := by
    intro k fr h x fr' h' hx hb
    simp only [loopN, hb]
    cases x with
    | norm => exact absurd rfl hx
    | brk id => rfl
    | ret => rfl
  intro m
  induction m with
  | zero =>
    intro i hi hin k hk fr h hI
    obtain ⟨k, rfl⟩ : ∃ j, k = j + 1 := ⟨k - 1, by omega⟩
    have : i = n := by omega
    subst this
    obtain ⟨x, fr', h', hx, hb, hq⟩ := last fr h hI
    exact ⟨x, fr', h', fin k _ _ _ _ _ hx hb, hq⟩
  | succ m ih =>
    intro i hi hin k hk fr h hI
    obtain ⟨k, rfl⟩ : ∃ j, k = j + 1 := ⟨k - 1, by omega⟩
    rcases Nat.lt_or_ge i n with hlt | hge
    · rcases step i fr h hlt hI with ⟨fr', h', hb, hI'⟩ | ⟨x, fr', h', hx, hb, hq⟩
      · obtain ⟨x, fr2, h2, hl, hq⟩ := ih (i + 1) (by omega) (by omega) k (by omega) fr' h' hI'
        exact ⟨x, fr2, h2, by simp only [loopN, hb]; exact hl, hq⟩
      · exact ⟨x, fr', h', fin k _ _ _ _ _ hx hb, hq⟩
    · have : i = n := by omega
      subst this
      obtain ⟨x, fr', h', hx, hb, hq⟩ := last fr h hI
      exact ⟨x, fr', h', fin k _ _ _ _ _ hx hb, hq⟩

theorem Fr.keep_nil (m : Nat) : Fr.keep m [] = [] := rfl
/-- What is kept, by numbers alone. -/
theorem Fr.keep_cons' (m k : Nat) (v : V) (r : Fr) : Fr.keep m ((k, v) :: r) = if m / 2 ^ k % 2 = 1 then (k, v) :: Fr.keep (m ^^^ 2 ^ k) r else Fr.keep m r := by
  rw [Fr.keep_cons]
  simp only [Nat.testBit_eq_decide_div_mod_eq, decide_eq_true_eq]

theorem wrp_i64 {n : Int} (h0 : -9223372036854775808 ≤ n) (h1 : n ≤ 9223372036854775807) : wrp .i64 n = n := by
  unfold wrp
  exact IntWalk.i64_in n ⟨h0, h1⟩

/-- Only new names were taken: what was known stays, with what it held. -/
def Grow (h k : H) : Prop := h.nx ≤ k.nx ∧ ∀ id, id < h.nx * 256 → k.get id = h.get id
theorem Grow.refl (h : H) : Grow h h := ⟨Nat.le_refl _, fun _ _ => rfl⟩
theorem Grow.trans {a b c : H} (h : Grow a b) (k : Grow b c) : Grow a c := by
  obtain ⟨h1, h2⟩ := h
  obtain ⟨k1, k2⟩ := k
  refine ⟨Nat.le_trans h1 k1, fun id hi => ?_⟩
  rw [k2 id (Nat.lt_of_lt_of_le hi (Nat.mul_le_mul_right 256 h1)), h2 id hi]
theorem Grow.up {h k : H} (g : Grow h k) (n : Nat) (hn : k.nx ≤ n) : Grow h { k with nx := n } := by
  obtain ⟨h1, h2⟩ := g
  exact ⟨Nat.le_trans h1 hn, fun id hi => h2 id hi⟩
theorem Grow.set {h k : H} (g : Grow h k) {id : Nat} (hid : h.nx * 256 ≤ id) (b : Blk) : Grow h (k.set id b) :=
  ⟨g.1, fun j hj => by rw [H.get_set, if_neg (Nat.ne_of_lt (Nat.lt_of_lt_of_le hj hid))]; exact g.2 j hj⟩
theorem call_succ (fns : Nat → Option Fun) (n f : Nat) (vs : List V) (h : H) : call fns (n + 1) f vs h = match fns f with
    | none => none
    | some F => call1 (call fns n) n F vs h := rfl
end Go.Proofs.Ytakahhnlbciicaa.Ai
end
