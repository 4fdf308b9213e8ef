/-
  The relation of the evaluator with the memory of the model; operations that touch no memory. By an AI agent; no person has read it.
-/
import Derived.Test.YtakahhnlbciicaaAiA
import Derived.Below
import Derived.Laws.World
import Derived.Laws.Entries
import Derived.Laws.Slices
import Derived.Laws.Strings
import Derived.Laws.Shifts
import Derived.Laws.Build
import Derived.Laws.StructEq
import Derived.WalkSpells
import Derived.Laws.Externs
noncomputable section
namespace Go.Proofs.Ytakahhnlbciicaa.Ai
open Go Go.RowKit

/-- Where the blocks of the evaluator's memory lie (block, first cell, cells of an element, cells of the block), and the cells that will never change. -/
structure Env where
  β : Nat → Option (Nat × Nat × Nat × Nat)
  F : Nat → Nat → Option Value

def Env.le (S T : Env) : Prop := (∀ id x, S.β id = some x → T.β id = some x) ∧ ∀ r o v, S.F r o = some v → T.F r o = some v
theorem Env.le_refl (S : Env) : S.le S := ⟨fun _ _ h => h, fun _ _ _ h => h⟩
theorem Env.le_trans {S T U : Env} (h : S.le T) (k : T.le U) : S.le U := ⟨fun i x e => k.1 i x (h.1 i x e), fun r o v e => k.2 r o v (h.2 r o v e)⟩

/-- A value of the evaluator and one of the model. -/
inductive VRel (num : Nat → Nat) (S : Env) : V → Value → Prop
  | int (k : IntKind) (n : Int) : VRel num S (.int k n) (.int k n)
  | bool (b : Bool) : VRel num S (.bool b) (.bool b)
  | str (s : List Nat) (b : ByteArray) (h : b.data.toList.map UInt8.toNat = s) : VRel num S (.str s) (.string b)
  | agg (cs : List V) (vs : Array Value) (hl : cs.length = vs.size) (h : ∀ (i : Nat) (c : V) (v : Value), cs[i]? = some c → vs[i]? = some v → VRel num S c v) : VRel num S (.agg cs) (.agg vs)
  | tup (cs : List V) (vs : Array Value) (hl : cs.length = vs.size) (h : ∀ (i : Nat) (c : V) (v : Value), cs[i]? = some c → vs[i]? = some v → VRel num S c v) : VRel num S (.tup cs) (.tuple vs)
  | nil : VRel num S .nil (.pointer none)
  | ptr (id i off r b e z : Nat) (h : S.β id = some (r, b, e, z)) : VRel num S (.ptr id i off) (.pointer (some ⟨r, b + i * e + off, none⟩))
  | vptr (cs : List V) (r o : Nat) (cv : Nat → Value) (hF : ∀ j : Nat, j < cs.length → S.F r (o + j) = some (cv j)) (h : ∀ (j : Nat) (c : V), cs[j]? = some c → VRel num S c (cv j)) :
      VRel num S (.vptr cs) (.pointer (some ⟨r, o, none⟩))
  | sl0 (full : Bool) (a : Option Addr) (cap : Nat) (h : full = true → cap = 0) : VRel num S (.sl full []) (.slice a 0 cap)
  | sl (full : Bool) (l : List V) (r o e cap n : Nat) (cv : Nat → Value) (hn : n = l.length) (hne : l ≠ []) (hf : full = true → cap = n) (hcap : n ≤ cap) (he : 0 < e)
      (hc : ∀ x : V, x ∈ l → x.cells.length = e) (hF : ∀ k : Nat, k < n * e → S.F r (o + k) = some (cv k))
      (h : ∀ (i j : Nat) (x c : V), l[i]? = some x → x.cells[j]? = some c → VRel num S c (cv (i * e + j))) : VRel num S (.sl full l) (.slice (some ⟨r, o, none⟩) n cap)
  | ref (id lo len e : Nat) (cap : Option Nat) (r b z c : Nat) (h : S.β id = some (r, b, e, z)) (hl : len ≤ c) (hcap : ∀ k, cap = some k → c = k) (hz : b + (lo + c) * e ≤ z) :
      VRel num S (.ref id lo len e cap) (.slice (some ⟨r, b + lo * e, none⟩) len c)
  | fn (f : Nat) (a b : List V) (va vb : Array Value) (hla : a.length = va.size) (hlb : b.length = vb.size)
      (ha : ∀ (i : Nat) (c : V) (v : Value), a[i]? = some c → va[i]? = some v → VRel num S c v) (hb : ∀ (i : Nat) (c : V) (v : Value), b[i]? = some c → vb[i]? = some v → VRel num S c v) :
      VRel num S (.fn f a b) (.func (.func (num f)) va vb)
  | nfn : VRel num S .nfn .nilFunc
  | iface (t : Nat) (v : V) (cv : Value) (h : VRel num S v cv) : VRel num S (.iface t v) (.iface t cv)
  | nifc : VRel num S .nifc .nilIface
  | und : VRel num S .und undef

theorem VRel.mono {num : Nat → Nat} {S T : Env} (hST : S.le T) {v : V} {c : Value} (h : VRel num S v c) : VRel num T v c := by
  induction h with
  | int k n => exact .int k n
  | bool b => exact .bool b
  | str s b h => exact .str s b h
  | agg cs vs hl _ ih => exact .agg cs vs hl ih
  | tup cs vs hl _ ih => exact .tup cs vs hl ih
  | nil => exact .nil
  | ptr id i off r b e z h => exact .ptr id i off r b e z (hST.1 _ _ h)
  | vptr cs r o cv hF _ ih => exact .vptr cs r o cv (fun j hj => hST.2 _ _ _ (hF j hj)) ih
  | sl0 full a cap h => exact .sl0 full a cap h
  | sl full l r o e cap n cv hn hne hf hcap he hc hF _ ih => exact .sl full l r o e cap n cv hn hne hf hcap he hc (fun k hk => hST.2 _ _ _ (hF k hk)) ih
  | ref id lo len e cap r b z c h hl hcap hz => exact .ref id lo len e cap r b z c (hST.1 _ _ h) hl hcap hz
  | fn f a b va vb hla hlb _ _ iha ihb => exact .fn f a b va vb hla hlb iha ihb
  | nfn => exact .nfn
  | iface t v cv _ ih => exact .iface t v cv ih
  | nifc => exact .nifc
  | und => exact .und

/-- Lists of values. -/
def VRels (num : Nat → Nat) (S : Env) (l : List V) (a : List Value) : Prop := l.length = a.length ∧ ∀ (i : Nat) (c : V) (v : Value), l[i]? = some c → a[i]? = some v → VRel num S c v
theorem VRels.nil (num : Nat → Nat) (S : Env) : VRels num S [] [] := ⟨rfl, fun i c v h => by simp at h⟩
theorem VRels.cons {num : Nat → Nat} {S : Env} {c : V} {v : Value} {l : List V} {a : List Value} (h : VRel num S c v) (k : VRels num S l a) : VRels num S (c :: l) (v :: a) :=
  ⟨by simp [k.1], fun i x y hx hy => by
    cases i with
    | zero => simp at hx hy; subst hx hy; exact h
    | succ i => simp at hx hy; exact k.2 i x y hx hy⟩
theorem VRels.mono {num : Nat → Nat} {S T : Env} (hST : S.le T) {l : List V} {a : List Value} (h : VRels num S l a) : VRels num T l a :=
  ⟨h.1, fun i c v hc hv => (h.2 i c v hc hv).mono hST⟩
theorem VRels.head {num : Nat → Nat} {S : Env} {c : V} {l : List V} {a : List Value} (h : VRels num S (c :: l) a) : ∃ v b, a = v :: b ∧ VRel num S c v ∧ VRels num S l b := by
  obtain ⟨h1, h2⟩ := h
  cases a with
  | nil => simp at h1
  | cons v b => exact ⟨v, b, rfl, h2 0 c v rfl rfl, by simpa using h1, fun i x y hx hy => h2 (i + 1) x y (by simpa using hx) (by simpa using hy)⟩
theorem VRels.append {num : Nat → Nat} {S : Env} {l m : List V} {a b : List Value} (h : VRels num S l a) (k : VRels num S m b) : VRels num S (l ++ m) (a ++ b) := by
  refine ⟨by simp [h.1, k.1], fun i c v hc hv => ?_⟩
  by_cases hi : i < l.length
  · rw [List.getElem?_append_left hi] at hc
    rw [List.getElem?_append_left (by rw [← h.1]; exact hi)] at hv
    exact h.2 i c v hc hv
  · rw [List.getElem?_append_right (by omega)] at hc
    rw [List.getElem?_append_right (by rw [← h.1]; omega), ← h.1] at hv
    exact k.2 _ c v hc hv

theorem VRel.cells {num : Nat → Nat} {S : Env} {v : V} {c : Value} (h : VRel num S v c) : VRels num S v.cells c.cells.toList := by
  cases h with
  | agg cs vs hl h => exact ⟨by simpa [V.cells, Value.cells] using hl, fun i x y hx hy => h i x y hx (by simpa [Value.cells] using hy)⟩
  | _ => exact VRels.cons (by constructor <;> assumption) (VRels.nil _ _)

/-- The cells of an element of a row. -/
def cellAt (es : List V) (i j : Nat) : Option V := (es[i]?).bind fun x => x.cells[j]?

/-- No cell of a block of z cells is frozen. -/
def FzOk (fz : Nat × Nat) (z : Nat) : Prop := ∀ o, o < z → ¬ (fz.1 ≤ o ∧ o < fz.2)
theorem FzOk.zero (z : Nat) : FzOk (0, 0) z := fun o _ h => by simp at h

/-- The end of what a row owns. -/
def Kind.hi (k : Kind) (b e n z : Nat) : Nat := if k = .slk then z else b + n * e

structure RowOk (num : Nat → Nat) (B : Nat) (S : Env) (w : World) (es : List V) (e : Nat) (k : Kind) (r b z : Nat) : Prop where
  pos : 0 < e
  blk : ∃ cs el fz, w.heap[r]? = some (.cells cs el fz) ∧ cs.size = z ∧ (k ≠ .ro → FzOk fz z) ∧
    (∀ (i j : Nat) (c : V), cellAt es i j = some c → ∃ v, cs[b + i * e + j]? = some v ∧ VRel num S c v) ∧
    (k = .ro → ∀ o, o < es.length * e → S.F r (b + o) = cs[b + o]?)
  len : ∀ (i : Nat) (x : V), es[i]? = some x → x.cells.length = e
  fits : b + es.length * e ≤ z
  old : k ≠ .ro → B ≤ r
  noF : k ≠ .ro → ∀ o, b ≤ o → o < k.hi b e es.length z → S.F r o = none

/-- The evaluator's memory h lies in the world w as S says; below block B all is as in w0. -/
structure Sim (num : Nat → Nat) (w0 : World) (S : Env) (h : H) (w : World) : Prop where
  below : Below w0.heap.size w0 w
  frz : ∀ r o v, S.F r o = some v → w.cell? ⟨r, o, none⟩ = some v
  dom : ∀ id, (S.β id).isSome = (h.get id).isSome
  fresh : ∀ id, h.nx * 256 ≤ id → h.get id = none
  row : ∀ id es e k, h.get id = some (.row es e k) → ∃ r b z, S.β id = some (r, b, e, z) ∧ RowOk num w0.heap.size S w es e k r b z
  disj : ∀ i j es e k fs f l r b z r' b' z', i ≠ j → h.get i = some (.row es e k) → h.get j = some (.row fs f l) → k ≠ .ro → l ≠ .ro →
    S.β i = some (r, b, e, z) → S.β j = some (r', b', f, z') → r = r' → k.hi b e es.length z ≤ b' ∨ l.hi b' f fs.length z' ≤ b
  iter : ∀ id s pos, h.get id = some (.iter s pos) → ∃ r sb, S.β id = some (r, 0, 0, 0) ∧ w.heap[r]? = some (.stringIter sb pos) ∧ sb.data.toList.map UInt8.toNat = s ∧ w0.heap.size ≤ r
  iterD : ∀ i j s p t q r r', i ≠ j → h.get i = some (.iter s p) → h.get j = some (.iter t q) → S.β i = some (r, 0, 0, 0) → S.β j = some (r', 0, 0, 0) → r ≠ r'

theorem cell?_eq {w : World} {r o : Nat} {cs : Array Value} {el : TypeId} {fz : Nat × Nat} (h : w.heap[r]? = some (.cells cs el fz)) : w.cell? ⟨r, o, none⟩ = cs[o]? := by
  simp [World.cell?, h]
theorem cell?_lt {w : World} {r o : Nat} {v : Value} (h : w.cell? ⟨r, o, none⟩ = some v) : r < w.heap.size := World.block_lt_of_cell? w ⟨r, o, none⟩ h
theorem heap_lt {w : World} {r : Nat} {o : Obj} (h : w.heap[r]? = some o) : r < w.heap.size := (Array.getElem?_eq_some_iff.1 h).1
theorem alloc_old {w : World} {o : Obj} {r : Nat} {x : Obj} (h : w.heap[r]? = some x) : (w.alloc o).heap[r]? = some x := by
  show (w.heap.push o)[r]? = _
  rw [Array.getElem?_push, if_neg (by have := heap_lt h; omega)]; exact h
theorem alloc_new (w : World) (o : Obj) : (w.alloc o).heap[w.heap.size]? = some o := by
  show (w.heap.push o)[w.heap.size]? = _
  simp
theorem cell?_alloc {w : World} {o : Obj} {r i : Nat} {v : Value} (h : w.cell? ⟨r, i, none⟩ = some v) : (w.alloc o).cell? ⟨r, i, none⟩ = some v := by
  rw [World.cell?_alloc_lt (a := ⟨r, i, none⟩) (h := cell?_lt h)]; exact h

/-- Nothing but draws. -/
theorem Sim.drew {num : Nat → Nat} {w0 : World} {S : Env} {h : H} {w : World} (s : Sim num w0 S h w) : Sim num w0 S h w.drew :=
  ⟨s.below.drew, s.frz, s.dom, s.fresh, fun id es e k hk => by
    obtain ⟨r, b, z, h1, h2⟩ := s.row id es e k hk
    exact ⟨r, b, z, h1, ⟨h2.pos, h2.blk, h2.len, h2.fits, h2.old, h2.noF⟩⟩, s.disj, s.iter, s.iterD⟩

/-- The counter goes up. -/
theorem Sim.tick {num : Nat → Nat} {w0 : World} {S : Env} {h : H} {w : World} (s : Sim num w0 S h w) (n : Nat) (hn : h.nx ≤ n) : Sim num w0 S { h with nx := n } w :=
  ⟨s.below, s.frz, s.dom, fun id hi => by rw [H.get_nx]; exact s.fresh id (Nat.le_trans (Nat.mul_le_mul_right _ hn) hi), s.row, s.disj, s.iter, s.iterD⟩
/-- Memories that hold the same. -/
theorem Sim.heq {num : Nat → Nat} {w0 : World} {S : Env} {h k : H} {w : World} (s : Sim num w0 S h w) (e : HEq h k) : Sim num w0 S k w := by
  obtain ⟨e1, e2⟩ := e
  refine ⟨s.below, s.frz, fun id => by rw [e2]; exact s.dom id, fun id hi => by rw [e2]; exact s.fresh id (by rw [← e1]; exact hi), fun id => ?_, fun i j => ?_, fun id => ?_, fun i j => ?_⟩
  · rw [e2]; exact s.row id
  · rw [e2, e2]; exact s.disj i j
  · rw [e2]; exact s.iter id
  · rw [e2, e2]; exact s.iterD i j

def Env.add (S : Env) (id : Nat) (x : Nat × Nat × Nat × Nat) : Env := { S with β := fun i => if i = id then some x else S.β i }
theorem Env.le_add {S : Env} {id : Nat} (x : Nat × Nat × Nat × Nat) (h : S.β id = none) : S.le (S.add id x) :=
  ⟨fun i y hy => by
    simp only [Env.add]
    by_cases hi : i = id
    · subst hi; rw [h] at hy; cases hy
    · rw [if_neg hi]; exact hy, fun _ _ _ h => h⟩
theorem Env.add_self (S : Env) (id : Nat) (x : Nat × Nat × Nat × Nat) : (S.add id x).β id = some x := by simp [Env.add]
theorem Env.add_ne (S : Env) {id i : Nat} (x : Nat × Nat × Nat × Nat) (h : i ≠ id) : (S.add id x).β i = S.β i := by simp [Env.add, h]

theorem RowOk.mono {num : Nat → Nat} {B : Nat} {S T : Env} {w w' : World} {es : List V} {e : Nat} {k : Kind} {r b z : Nat} (h : RowOk num B S w es e k r b z) (hST : S.le T)
    (hw : w'.heap[r]? = w.heap[r]?) (hF : k ≠ .ro → ∀ o, b ≤ o → o < k.hi b e es.length z → T.F r o = none) : RowOk num B T w' es e k r b z := by
  obtain ⟨cs, el, fz, h1, h2, h3, h4, h5⟩ := h.blk
  refine ⟨h.pos, ⟨cs, el, fz, by rw [hw]; exact h1, h2, h3, fun i j c hc => ?_, fun hk o ho => ?_⟩, h.len, h.fits, h.old, hF⟩
  · obtain ⟨v, hv, hr⟩ := h4 i j c hc
    exact ⟨v, hv, hr.mono hST⟩
  · have := h5 hk o ho
    have hlt : b + o < cs.size := by have := h.fits; omega
    rw [Array.getElem?_eq_getElem hlt] at this ⊢
    exact hST.2 _ _ _ this

/-- A new row in a new block. -/
theorem Sim.alloc {num : Nat → Nat} {w0 : World} {S : Env} {h : H} {w : World} (s : Sim num w0 S h w) {nid : Nat} (hn : h.get nid = none) (hx : nid < h.nx * 256)
    {es : List V} {e : Nat} {k : Kind} (hk : k ≠ .ro) (he : 0 < e) (hl : ∀ (i : Nat) (x : V), es[i]? = some x → x.cells.length = e) (cs : Array Value) (el : TypeId) {fz : Nat × Nat} (hfz : FzOk fz cs.size)
    (hz : es.length * e ≤ cs.size) (hc : ∀ (i j : Nat) (c : V), cellAt es i j = some c → ∃ v, cs[i * e + j]? = some v ∧ VRel num S c v) :
    S.le (S.add nid (w.heap.size, 0, e, cs.size)) ∧ Sim num w0 (S.add nid (w.heap.size, 0, e, cs.size)) (h.set nid (.row es e k)) (w.alloc (.cells cs el fz)) := by
  have hb : S.β nid = none := by
    have := s.dom nid
    rw [hn] at this
    cases hb : S.β nid with
    | none => rfl
    | some x => rw [hb] at this; simp at this
  have hle := Env.le_add (w.heap.size, 0, e, cs.size) hb
  have hFnew : ∀ o, S.F w.heap.size o = none := fun o => by
    cases hf : S.F w.heap.size o with
    | none => rfl
    | some v => exact absurd (cell?_lt (s.frz _ _ _ hf)) (Nat.lt_irrefl _)
  have hsz : w0.heap.size ≤ w.heap.size := s.below.size
  refine ⟨hle, s.below.alloc hsz _, fun r o v hf => cell?_alloc (s.frz r o v hf), fun id => ?_, fun id hi => ?_, fun id es' e' k' hg => ?_, ?_, fun id s' pos hg => ?_, ?_⟩
  · rw [H.get_set]
    by_cases hi : id = nid
    · subst hi; simp [Env.add_self]
    · rw [Env.add_ne _ _ hi, if_neg hi]; exact s.dom id
  · rw [H.get_set, if_neg (by intro e; subst e; simp at hi; omega)]
    exact s.fresh id hi
  · rw [H.get_set] at hg
    by_cases hi : id = nid
    · subst hi
      rw [if_pos rfl] at hg
      cases hg
      refine ⟨_, _, _, Env.add_self _ _ _, he, ⟨cs, el, fz, alloc_new _ _, rfl, fun _ => hfz, fun i j c hcc => ?_, fun hr => absurd hr hk⟩, hl, by omega, fun _ => hsz, fun _ o _ _ => hFnew o⟩
      obtain ⟨v, hv, hr⟩ := hc i j c hcc
      exact ⟨v, by simpa using hv, hr.mono hle⟩
    · rw [if_neg hi] at hg
      obtain ⟨r, b, z, h1, h2⟩ := s.row id es' e' k' hg
      obtain ⟨_, _, _, hblk, _⟩ := h2.blk
      refine ⟨r, b, z, by rw [Env.add_ne _ _ hi]; exact h1, h2.mono hle (by rw [hblk]; exact alloc_old hblk) h2.noF⟩
  · intro i j es' e' k' fs f l r b z r' b' z' hij hgi hgj hk' hl' hbi hbj hr
    rw [H.get_set] at hgi hgj
    by_cases hi : i = nid
    · subst hi
      rw [Env.add_self] at hbi
      rw [if_neg (Ne.symm hij)] at hgj
      rw [Env.add_ne _ _ (Ne.symm hij)] at hbj
      obtain ⟨r2, b2, z2, h1, h2⟩ := s.row j fs f l hgj
      rw [h1] at hbj
      cases hbj
      obtain ⟨_, _, _, hblk, _⟩ := h2.blk
      cases hbi
      exact absurd (heap_lt hblk) (by omega)
    · rw [if_neg hi] at hgi
      rw [Env.add_ne _ _ hi] at hbi
      by_cases hj : j = nid
      · subst hj
        rw [Env.add_self] at hbj
        obtain ⟨r2, b2, z2, h1, h2⟩ := s.row i es' e' k' hgi
        rw [h1] at hbi
        cases hbi
        obtain ⟨_, _, _, hblk, _⟩ := h2.blk
        cases hbj
        exact absurd (heap_lt hblk) (by omega)
      · rw [if_neg hj] at hgj
        rw [Env.add_ne _ _ hj] at hbj
        exact s.disj i j es' e' k' fs f l r b z r' b' z' hij hgi hgj hk' hl' hbi hbj hr
  · rw [H.get_set] at hg
    by_cases hi : id = nid
    · subst hi; rw [if_pos rfl] at hg; cases hg
    · rw [if_neg hi] at hg
      obtain ⟨r, sb, h1, h2, h3, h4⟩ := s.iter id s' pos hg
      exact ⟨r, sb, by rw [Env.add_ne _ _ hi]; exact h1, alloc_old h2, h3, h4⟩
  · intro i j s' p t q r r' hij hgi hgj hbi hbj
    rw [H.get_set] at hgi hgj
    by_cases hi : i = nid
    · rw [if_pos hi] at hgi; cases hgi
    · by_cases hj : j = nid
      · rw [if_pos hj] at hgj; cases hgj
      · rw [if_neg hi] at hgi
        rw [if_neg hj] at hgj
        rw [Env.add_ne _ _ hi] at hbi
        rw [Env.add_ne _ _ hj] at hbj
        exact s.iterD i j s' p t q r r' hij hgi hgj hbi hbj

end Go.Proofs.Ytakahhnlbciicaa.Ai

namespace Go.Proofs.Ytakahhnlbciicaa.Ai
open Go Go.RowKit

variable {num : Nat → Nat} {w0 : World} {S : Env} {h : H} {w : World}

/-- A row is given up. -/
theorem Sim.kill (s : Sim num w0 S h w) {id : Nat} (hi : (h.get id).isSome = true) : Sim num w0 S (h.set id .dead) w := by
  have hne : ∀ j x, (h.set id .dead).get j = some x → x ≠ .dead → j ≠ id ∧ h.get j = some x := by
    intro j x hj hx
    rw [H.get_set] at hj
    by_cases e : j = id
    · rw [if_pos e] at hj; cases hj; exact absurd rfl hx
    · rw [if_neg e] at hj; exact ⟨e, hj⟩
  refine ⟨s.below, s.frz, fun j => ?_, fun j hj => ?_, fun j es e k hj => ?_, fun i j es e k fs f l r b z r' b' z' hij hgi hgj => ?_, fun j s' p hj => ?_, fun i j s' p t q r r' hij hgi hgj => ?_⟩
  · rw [H.get_set]
    by_cases e : j = id
    · rw [if_pos e, s.dom, e, hi]; rfl
    · rw [if_neg e]; exact s.dom j
  · rw [H.get_set, if_neg]
    · exact s.fresh j hj
    · intro e
      subst e
      rw [s.fresh j hj] at hi; cases hi
  · exact s.row j es e k (hne _ _ hj (by simp)).2
  · exact s.disj i j es e k fs f l r b z r' b' z' hij (hne _ _ hgi (by simp)).2 (hne _ _ hgj (by simp)).2
  · exact s.iter j s' p (hne _ _ hj (by simp)).2
  · exact s.iterD i j s' p t q r r' hij (hne _ _ hgi (by simp)).2 (hne _ _ hgj (by simp)).2

/-- Cells lo to hi of block r belong to nobody. -/
structure Room (w0 : World) (S : Env) (h : H) (w : World) (r lo hi z : Nat) : Prop where
  blk : ∃ cs el fz, w.heap[r]? = some (.cells cs el fz) ∧ cs.size = z ∧ FzOk fz z
  old : w0.heap.size ≤ r
  noF : ∀ o, lo ≤ o → o < hi → S.F r o = none
  rows : ∀ j fs f l b' z', h.get j = some (.row fs f l) → l ≠ .ro → S.β j = some (r, b', f, z') → hi ≤ b' ∨ l.hi b' f fs.length z' ≤ lo
  iters : ∀ j s p, h.get j = some (.iter s p) → S.β j ≠ some (r, 0, 0, 0)

/-- A row that is given up leaves room. -/
theorem Sim.room (s : Sim num w0 S h w) {id : Nat} {es : List V} {e : Nat} {k : Kind} {r b z : Nat} (hg : h.get id = some (.row es e k)) (hk : k ≠ .ro) (hb : S.β id = some (r, b, e, z)) :
    Room w0 S (h.set id .dead) w r b (k.hi b e es.length z) z := by
  obtain ⟨r1, b1, z1, h1, h2⟩ := s.row id es e k hg
  rw [h1] at hb; cases hb
  obtain ⟨cs, el, fz, c1, c2, c3, _⟩ := h2.blk
  refine ⟨⟨cs, el, fz, c1, c2, c3 hk⟩, h2.old hk, fun o => h2.noF hk o, fun j fs f l b' z' hj hl hbj => ?_, fun j s' p hj hbj => ?_⟩
  · rw [H.get_set] at hj
    by_cases e1 : j = id
    · rw [if_pos e1] at hj; cases hj
    · rw [if_neg e1] at hj
      exact s.disj id j es e k fs f l _ _ _ _ _ _ (Ne.symm e1) hg hj hk hl h1 hbj rfl
  · rw [H.get_set] at hj
    by_cases e1 : j = id
    · rw [if_pos e1] at hj; cases hj
    · rw [if_neg e1] at hj
      obtain ⟨r2, sb, d1, d2, _⟩ := s.iter j s' p hj
      rw [d1] at hbj; cases hbj
      rw [c1] at d2; cases d2

/-- w' is w but for cells lo to hi of block r. -/
structure Wrote (w w' : World) (r lo hi : Nat) : Prop where
  os : w'.os = w.os
  tape : w'.tape = w.tape
  output : w'.output = w.output
  size : w'.heap.size = w.heap.size
  other : ∀ k, k ≠ r → w'.heap[k]? = w.heap[k]?
  here : ∀ cs el fz, w.heap[r]? = some (.cells cs el fz) → ∃ cs' : Array Value, w'.heap[r]? = some (.cells cs' el fz) ∧ cs'.size = cs.size ∧ ∀ o, ¬ (lo ≤ o ∧ o < hi) → cs'[o]? = cs[o]?

theorem Wrote.refl (w : World) (r lo hi : Nat) : Wrote w w r lo hi := ⟨rfl, rfl, rfl, rfl, fun _ _ => rfl, fun cs _ _ h => ⟨cs, h, rfl, fun _ _ => rfl⟩⟩
theorem Wrote.trans {a b c : World} {r lo hi : Nat} (h : Wrote a b r lo hi) (k : Wrote b c r lo hi) : Wrote a c r lo hi :=
  ⟨k.os.trans h.os, k.tape.trans h.tape, k.output.trans h.output, k.size.trans h.size, fun i hi => (k.other i hi).trans (h.other i hi), fun cs el fz he => by
    obtain ⟨c1, d1, d2, d3⟩ := h.here cs el fz he
    obtain ⟨c2, e1, e2, e3⟩ := k.here c1 el fz d1
    exact ⟨c2, e1, e2.trans d2, fun o ho => (e3 o ho).trans (d3 o ho)⟩⟩
theorem Wrote.mono {a b : World} {r lo hi lo' hi' : Nat} (h : Wrote a b r lo hi) (h1 : lo' ≤ lo) (h2 : hi ≤ hi') : Wrote a b r lo' hi' :=
  ⟨h.os, h.tape, h.output, h.size, h.other, fun cs el fz he => by
    obtain ⟨c1, d1, d2, d3⟩ := h.here cs el fz he
    exact ⟨c1, d1, d2, fun o ho => d3 o (fun hh => ho ⟨Nat.le_trans h1 hh.1, Nat.lt_of_lt_of_le hh.2 h2⟩)⟩⟩
theorem Wrote.setCell (w : World) (r o : Nat) (v : Value) : Wrote w (w.setCell ⟨r, o, none⟩ v) r o (o + 1) := by
  refine ⟨rfl, rfl, rfl, by simp, fun k hk => ?_, fun cs el fz he => ?_⟩
  · simp only [World.setCell, Array.getElem?_modify]
    rw [if_neg (by omega)]
  · refine ⟨cs.setIfInBounds o v, ?_, by simp, fun i hi => ?_⟩
    · simp only [World.setCell, Array.getElem?_modify, he]
      simp
    · rw [Array.getElem?_setIfInBounds_ne (by omega)]

/-- Room may be written. -/
theorem Sim.write (s : Sim num w0 S h w) {r lo hi z : Nat} (f : Room w0 S h w r lo hi z) {w' : World} (wr : Wrote w w' r lo hi) : Sim num w0 S h w' ∧ Room w0 S h w' r lo hi z := by
  obtain ⟨cs, el, fz, c1, c2, c3⟩ := f.blk
  obtain ⟨cs', d1, d2, d3⟩ := wr.here cs el _ c1
  have hcell : ∀ k o, ¬ (k = r ∧ lo ≤ o ∧ o < hi) → w'.cell? ⟨k, o, none⟩ = w.cell? ⟨k, o, none⟩ := by
    intro k o hn
    by_cases hk : k = r
    · subst hk
      rw [cell?_eq d1, cell?_eq c1]
      exact d3 o (fun hh => hn ⟨rfl, hh⟩)
    · simp [World.cell?, wr.other k hk]
  have hF : ∀ k o v, S.F k o = some v → ¬ (k = r ∧ lo ≤ o ∧ o < hi) := by
    rintro k o v hv ⟨rfl, h1, h2⟩
    rw [f.noF o h1 h2] at hv; cases hv
  refine ⟨⟨?_, fun k o v hv => ?_, s.dom, s.fresh, fun id es e k hg => ?_, s.disj, fun id s' p hg => ?_, s.iterD⟩, ⟨⟨cs', el, fz, d1, d2.trans c2, c3⟩, f.old, f.noF, f.rows, f.iters⟩⟩
  · exact s.below.trans ⟨wr.os, wr.tape, wr.output, Nat.le_of_eq wr.size.symm, fun k hk => wr.other k (by have := f.old; omega)⟩
  · rw [hcell _ _ (hF _ _ _ hv)]; exact s.frz _ _ _ hv
  · obtain ⟨r1, b, z1, h1, h2⟩ := s.row id es e k hg
    refine ⟨r1, b, z1, h1, h2.pos, ?_, h2.len, h2.fits, h2.old, h2.noF⟩
    obtain ⟨es1, el1, fz1, e1, e2, e3, e4, e5⟩ := h2.blk
    by_cases hr : r1 = r
    · subst hr
      rw [c1] at e1; cases e1
      have out : ∀ o, o < es.length * e → ¬ (lo ≤ b + o ∧ b + o < hi) := by
        intro o ho hh
        by_cases hk : k = .ro
        · have := e5 hk o ho
          have hlt : b + o < cs.size := by have := h2.fits; omega
          rw [Array.getElem?_eq_getElem hlt, f.noF _ hh.1 hh.2] at this
          cases this
        · have hd := f.rows id es e k b z1 hg hk h1
          have hhi : b + es.length * e ≤ k.hi b e es.length z1 := by
            unfold Kind.hi
            split
            · exact h2.fits
            · exact Nat.le_refl _
          rcases hd with hd | hd <;> omega
      have hin : ∀ i j c, cellAt es i j = some c → i * e + j < es.length * e := by
        intro i j c hc
        unfold cellAt at hc
        cases hx : es[i]? with
        | none => rw [hx] at hc; cases hc
        | some x =>
          rw [hx] at hc
          have hl := h2.len i x hx
          have hi : i < es.length := (List.getElem?_eq_some_iff.1 hx).1
          have hj : j < e := by rw [← hl]; exact (List.getElem?_eq_some_iff.1 hc).1
          have : (i + 1) * e ≤ es.length * e := Nat.mul_le_mul_right _ hi
          rw [Nat.add_mul] at this; omega
      refine ⟨cs', el, fz, d1, d2.trans e2, fun hk => e3 hk, fun i j c hc => ?_, fun hk o ho => ?_⟩
      · obtain ⟨v, hv, hr⟩ := e4 i j c hc
        refine ⟨v, ?_, hr⟩
        rw [d3 _ (by have := out (i * e + j) (hin i j c hc); rwa [← Nat.add_assoc] at this)]; exact hv
      · rw [d3 _ (out o ho)]; exact e5 hk o ho
    · exact ⟨es1, el1, fz1, by rw [wr.other _ hr]; exact e1, e2, e3, e4, e5⟩
  · obtain ⟨r1, sb, e1, e2, e3, e4⟩ := s.iter id s' p hg
    exact ⟨r1, sb, e1, by rw [wr.other _ (by intro e; subst e; rw [c1] at e2; cases e2)]; exact e2, e3, e4⟩

/-- A new row in room that nobody owns; its name is new, or was given up at just this place. -/
theorem Sim.claim (s : Sim num w0 S h w) {r lo hi z : Nat} (f : Room w0 S h w r lo hi z) {nid : Nat} (hn : h.get nid = none ∨ (h.get nid = some .dead)) (hx : nid < h.nx * 256)
    {es : List V} {e : Nat} {k : Kind} (hk : k ≠ .ro) (he : 0 < e) (hl : ∀ (i : Nat) (x : V), es[i]? = some x → x.cells.length = e)
    {T : Env} (hT : S.le T) (hTF : T.F = S.F) (hTn : T.β nid = some (r, lo, e, z)) (hTo : ∀ i, i ≠ nid → T.β i = S.β i)
    (hhi : k.hi lo e es.length z ≤ hi) (hfit : lo + es.length * e ≤ z) {cs : Array Value} {el : TypeId} {fz : Nat × Nat} (hcs : w.heap[r]? = some (.cells cs el fz))
    (hc : ∀ (i j : Nat) (c : V), cellAt es i j = some c → ∃ v, cs[lo + i * e + j]? = some v ∧ VRel num S c v) : Sim num w0 T (h.set nid (.row es e k)) w := by
  obtain ⟨cs0, el0, fz0, c1, c2, c3⟩ := f.blk
  rw [hcs] at c1; cases c1
  have hold : ∀ j x, (h.set nid (.row es e k)).get j = some x → j ≠ nid → h.get j = some x := by
    intro j x hj e1; rw [H.get_set, if_neg e1] at hj; exact hj
  refine ⟨s.below, fun k o v hv => s.frz k o v (by rw [← hTF]; exact hv), fun id => ?_, fun id hid => ?_, fun id es' e' k' hg => ?_, ?_, fun id s' p hg => ?_, ?_⟩
  · rw [H.get_set]
    by_cases h1 : id = nid
    · rw [if_pos h1, h1, hTn]; rfl
    · rw [if_neg h1, hTo id h1]; exact s.dom id
  · rw [H.get_set, if_neg (by intro e; subst e; exact absurd hid (Nat.not_le.2 hx))]; exact s.fresh id hid
  · by_cases h1 : id = nid
    · subst h1
      rw [H.get_set, if_pos rfl] at hg
      cases hg
      refine ⟨r, lo, z, hTn, he, ⟨cs, el, fz, hcs, c2, fun _ => c3, fun i j c hcc => ?_, fun hr => absurd hr hk⟩, hl, hfit, fun _ => f.old, fun _ o ho1 ho2 => ?_⟩
      · obtain ⟨v, hv, hr⟩ := hc i j c hcc
        exact ⟨v, hv, hr.mono hT⟩
      · rw [hTF]; exact f.noF o ho1 (Nat.lt_of_lt_of_le ho2 hhi)
    · obtain ⟨r1, b1, z1, h2, h3⟩ := s.row id es' e' k' (hold _ _ hg h1)
      exact ⟨r1, b1, z1, by rw [hTo id h1]; exact h2, h3.mono hT rfl (fun hk' o ho1 ho2 => by rw [hTF]; exact h3.noF hk' o ho1 ho2)⟩
  · intro i j es' e' k' fs f' l r1 b1 z1 r' b' z' hij hgi hgj hk' hl' hbi hbj hr
    by_cases hi1 : i = nid
    · subst hi1
      rw [H.get_set, if_pos rfl] at hgi; cases hgi
      rw [hTn] at hbi; cases hbi
      have hgj' := hold _ _ hgj (Ne.symm hij)
      rw [hTo j (Ne.symm hij)] at hbj
      subst hr
      rcases f.rows j fs f' l b' z' hgj' hl' hbj with h2 | h2
      · exact .inl (Nat.le_trans hhi h2)
      · exact .inr h2
    · have hgi' := hold _ _ hgi hi1
      rw [hTo i hi1] at hbi
      by_cases hj1 : j = nid
      · subst hj1
        rw [H.get_set, if_pos rfl] at hgj; cases hgj
        rw [hTn] at hbj; cases hbj
        subst hr
        rcases f.rows i es' e' k' b1 z1 hgi' hk' hbi with h2 | h2
        · exact .inr (Nat.le_trans hhi h2)
        · exact .inl h2
      · rw [hTo j hj1] at hbj
        exact s.disj i j es' e' k' fs f' l r1 b1 z1 r' b' z' hij hgi' (hold _ _ hgj hj1) hk' hl' hbi hbj hr
  · by_cases h1 : id = nid
    · subst h1; rw [H.get_set, if_pos rfl] at hg; cases hg
    · obtain ⟨r1, sb, h2, h3, h4, h5⟩ := s.iter id s' p (hold _ _ hg h1)
      exact ⟨r1, sb, by rw [hTo id h1]; exact h2, h3, h4, h5⟩
  · intro i j s' p t q r1 r' hij hgi hgj hbi hbj
    by_cases hi1 : i = nid
    · subst hi1; rw [H.get_set, if_pos rfl] at hgi; cases hgi
    · by_cases hj1 : j = nid
      · subst hj1; rw [H.get_set, if_pos rfl] at hgj; cases hgj
      · rw [hTo i hi1] at hbi
        rw [hTo j hj1] at hbj
        exact s.iterD i j s' p t q r1 r' hij (hold _ _ hgi hi1) (hold _ _ hgj hj1) hbi hbj

end Go.Proofs.Ytakahhnlbciicaa.Ai

namespace Go.Proofs.Ytakahhnlbciicaa.Ai
open Go Go.RowKit

/-! ### Is the evaluator's operation the program's? -/
def okNil : Value → Bool
  | .pointer none => true
  | _ => false
def okSl0 : Value → Bool
  | .slice none 0 0 => true
  | _ => false
def aggOf : Value → Option (List Value)
  | .agg vs => some vs.toList
  | _ => none
mutual
def okV : V → Value → Bool
  | .int k n, c => match c with | .int k' n' => (k == k') && (n == n') | _ => false
  | .bool a, c => match c with | .bool b => a == b | _ => false
  | .str s, c => match c with | .string b => b.data.toList.map UInt8.toNat == s | _ => false
  | .nil, c => okNil c
  | .sl _ l, c => l.isEmpty && okSl0 c
  | .agg cs, c => match aggOf c with | some vs => okVs cs vs | none => false
  | .nfn, c => match c with | .nilFunc => true | _ => false
  | .nifc, c => match c with | .nilIface => true | _ => false
  | _, _ => false
def okVs : List V → List Value → Bool
  | [], m => m.isEmpty
  | c :: l, m => match m with | [] => false | v :: m => okV c v && okVs l m
end
theorem okNil_eq {c : Value} (h : okNil c = true) : c = .pointer none := by unfold okNil at h; split at h <;> first | rfl | cases h
theorem okSl0_eq {c : Value} (h : okSl0 c = true) : c = .slice none 0 0 := by unfold okSl0 at h; split at h <;> first | rfl | cases h
theorem aggOf_eq {c : Value} {l : List Value} (h : aggOf c = some l) : c = .agg l.toArray := by
  unfold aggOf at h
  split at h
  · cases h; simp
  · cases h
mutual
theorem okV_rel {num : Nat → Nat} {S : Env} : ∀ (v : V) (c : Value), okV v c = true → VRel num S v c
  | .int k n, c, h => by
    simp only [okV] at h
    split at h
    · simp at h; obtain ⟨rfl, rfl⟩ := h; exact .int _ _
    · cases h
  | .bool b, c, h => by
    simp only [okV] at h
    split at h
    · simp at h; subst h; exact .bool _
    · cases h
  | .str s, c, h => by
    simp only [okV] at h
    split at h
    · exact .str _ _ (by simpa using h)
    · cases h
  | .nil, c, h => by
    simp only [okV] at h
    rw [okNil_eq h]; exact .nil
  | .sl f l, c, h => by
    simp only [okV, Bool.and_eq_true, List.isEmpty_iff] at h
    rw [okSl0_eq h.2, h.1]
    exact .sl0 _ _ _ (fun _ => rfl)
  | .agg cs, c, h => by
    simp only [okV] at h
    cases hc : aggOf c with
    | none => rw [hc] at h; cases h
    | some l =>
      rw [hc] at h
      obtain ⟨h1, h2⟩ := okVs_rel (num := num) (S := S) cs l h
      rw [aggOf_eq hc]
      exact .agg cs l.toArray (by simpa using h1) (fun i c v hc hv => h2 i c v hc (by simpa using hv))
  | .nfn, c, h => by
    simp only [okV] at h
    split at h
    · exact .nfn
    · cases h
  | .nifc, c, h => by
    simp only [okV] at h
    split at h
    · exact .nifc
    · cases h
  | .tup _, c, h => by simp [okV] at h
  | .ptr _ _ _, c, h => by simp [okV] at h
  | .vptr _, c, h => by simp [okV] at h
  | .ref _ _ _ _ _, c, h => by simp [okV] at h
  | .fn _ _ _, c, h => by simp [okV] at h
  | .iface _ _, c, h => by simp [okV] at h
  | .und, c, h => by simp [okV] at h
theorem okVs_rel {num : Nat → Nat} {S : Env} : ∀ (l : List V) (m : List Value), okVs l m = true → VRels num S l m
  | [], m, h => by
    simp only [okVs, List.isEmpty_iff] at h
    subst h; exact VRels.nil _ _
  | c :: l, m, h => by
    simp only [okVs] at h
    cases m with
    | nil => cases h
    | cons v m =>
      simp only [Bool.and_eq_true] at h
      exact VRels.cons (okV_rel c v h.1) (okVs_rel l m h.2)
end

def okO (num : Nat → Nat) (gl : List Nat) : Operand → O → Bool
  | .tmp t, .t n => t == n
  | .const c, .c v => okV v c
  | .global g, .c v => match v with | .ptr id 0 0 => (id == g) && gl.contains g | _ => false
  | .func f, .c v => match v with | .fn k [] [] => num k == f | _ => false
  | _, _ => false
def okOs (num : Nat → Nat) (gl : List Nat) : List Operand → List O → Bool
  | [], [] => true
  | x :: l, y :: m => okO num gl x y && okOs num gl l m
  | _, _ => false
def okOo (num : Nat → Nat) (gl : List Nat) : Option Operand → Option O → Bool
  | none, none => true
  | some x, some y => okO num gl x y
  | _, _ => false

/-- The package-level variables that the code names lie where they should. -/
def Glob (gl : List Nat) (S : Env) : Prop := ∀ g, g ∈ gl → ∃ e z, S.β g = some (g, 0, e, z)
theorem Glob.mono {gl : List Nat} {S T : Env} (h : Glob gl S) (k : S.le T) : Glob gl T := fun g hg => by
  obtain ⟨e, z, h1⟩ := h g hg; exact ⟨e, z, k.1 _ _ h1⟩

/-- The frame of the evaluator and the model's. -/
structure FRel (num : Nat → Nat) (S : Env) (nt : Nat) (fr : Fr) (a : Act) : Prop where
  size : nt ≤ a.tmps.size
  defers : a.defers = []
  rel : ∀ t v, fr.get t = some v → VRel num S v (a.tmps.getD t undef)
theorem FRel.mono {num : Nat → Nat} {S T : Env} {nt : Nat} {fr : Fr} {a : Act} (h : FRel num S nt fr a) (k : S.le T) : FRel num T nt fr a :=
  ⟨h.size, h.defers, fun t v e => (h.rel t v e).mono k⟩
theorem FRel.feq {num : Nat → Nat} {S : Env} {nt : Nat} {fr gr : Fr} {a : Act} (h : FRel num S nt fr a) (k : FEq fr gr) : FRel num S nt gr a :=
  ⟨h.size, h.defers, fun t v e => h.rel t v (by rw [k t]; exact e)⟩
theorem FRel.put {num : Nat → Nat} {S : Env} {nt : Nat} {fr : Fr} {a : Act} (h : FRel num S nt fr a) {d : Option Nat} (hd : ∀ n, d = some n → n < nt) {v : V} {c : Value} (hv : VRel num S v c) :
    FRel num S nt (putv fr d v) (a.put d c) := by
  cases d with
  | none => exact h
  | some d =>
    have hlt : d < a.tmps.size := Nat.lt_of_lt_of_le (hd d rfl) h.size
    refine ⟨by simp [Act.put]; exact h.size, h.defers, fun t x hx => ?_⟩
    rw [get_putv] at hx
    simp only [Option.some.injEq] at hx
    by_cases e : d = t
    · subst e
      rw [if_pos rfl] at hx
      cases hx
      simp [Act.put, hlt]
      exact hv
    · rw [if_neg e] at hx
      have := h.rel t x hx
      simpa [Act.put, Array.getElem?_setIfInBounds_ne e] using this
theorem FRel.keep {num : Nat → Nat} {S : Env} {nt : Nat} {fr : Fr} {a : Act} (h : FRel num S nt fr a) (l : Nat) : FRel num S nt (Fr.keep l fr) a :=
  ⟨h.size, h.defers, fun t v e => by
    rw [Fr.get_keep] at e
    split at e
    · exact h.rel t v e
    · cases e⟩

section ops
variable {num : Nat → Nat} {gl : List Nat} {S : Env} {nt : Nat} {fr : Fr} {a : Act} {P : Program} {w : World}

theorem okO_rel (hg : Glob gl S) (hf : FRel num S nt fr a) {x : Operand} {y : O} (h : okO num gl x y = true) {v : V} (hv : y.ev fr = some v) : VRel num S v (a.eval x) := by
  cases x <;> cases y <;> simp only [okO] at h <;> try (cases h; done)
  · simp at h; subst h; exact hf.rel _ _ hv
  · simp only [O.ev, Option.some.injEq] at hv; subst hv; exact okV_rel _ _ h
  · simp only [O.ev, Option.some.injEq] at hv; subst hv
    split at h
    · simp only [Bool.and_eq_true, beq_iff_eq, List.contains_eq_mem, decide_eq_true_eq] at h
      obtain ⟨rfl, h2⟩ := h
      obtain ⟨e, z, h3⟩ := hg _ h2
      have := VRel.ptr (num := num) (S := S) _ 0 0 _ 0 e z h3
      simpa [Act.eval] using this
    · cases h
  · simp only [O.ev, Option.some.injEq] at hv; subst hv
    split at h
    · simp only [beq_iff_eq] at h
      subst h
      exact .fn _ [] [] #[] #[] rfl rfl (fun i c v hc => by simp at hc) (fun i c v hc => by simp at hc)
    · cases h
theorem okOs_rel (hg : Glob gl S) (hf : FRel num S nt fr a) : ∀ {l : List Operand} {m : List O} (_ : okOs num gl l m = true) {vs : List V} (_ : evs fr m = some vs), VRels num S vs (l.map a.eval)
  | [], m, h, vs, hv => by
    cases m <;> simp [okOs] at h
    simp [evs] at hv; subst hv; exact VRels.nil _ _
  | x :: l, m, h, vs, hv => by
    cases m with
    | nil => simp [okOs] at h
    | cons y m =>
      simp only [okOs, Bool.and_eq_true] at h
      simp only [evs] at hv
      cases h1 : y.ev fr with
      | none => rw [h1] at hv; simp at hv
      | some v => cases h2 : evs fr m with
        | none => rw [h1, h2] at hv; simp at hv
        | some ws =>
          rw [h1, h2] at hv
          simp only [Option.some.injEq] at hv; subst hv
          exact VRels.cons (okO_rel hg hf h.1 h1) (okOs_rel hg hf h.2 h2)

/-! ### What the model's operations do -/
def sizeB (P : Program) (t n : Nat) : Bool := match P.info? t with | some i => i.size == n | none => false
theorem run_sizeB {t n : Nat} (h : sizeB P t n = true) : (sizeOf t).run P w = .ok n w := by
  unfold sizeB at h
  split at h
  · rename_i i hi
    simp only [beq_iff_eq] at h
    simp [sizeOf, typeInfo, hi, h]
  · cases h
def aggB (P : Program) (t : Nat) (ag : Bool) : Bool := match P.underlying t with
  | some (.struct _) | some (.array _ _) => ag
  | some _ => !ag
  | none => false
theorem run_aggB {t : Nat} {ag : Bool} (h : aggB P t ag = true) : (isAgg t).run P w = .ok ag w := by
  unfold aggB at h
  cases hu : P.underlying t with
  | none => rw [hu] at h; cases h
  | some d =>
    rw [hu] at h
    simp only [isAgg, Sem.run_bind, run_underlying hu, Result.andThen_ok]
    cases d <;> simp_all
theorem run_partB {t n : Nat} {ag : Bool} (h1 : aggB P t ag = true) (h2 : sizeB P t n = true) (cs : Array Value) (off : Nat) (hn : ag = false → n = 1) (hfit : off + n ≤ cs.size) :
    (part t cs off).run P w = .ok (if ag then .agg (cs.extract off (off + n)) else cs.getD off undef) w := by
  unfold part
  simp only [Sem.run_bind, run_aggB h1, Result.andThen_ok]
  cases ag
  · have := hn rfl
    have hlt : off < cs.size := by omega
    simp [Array.getElem?_eq_getElem hlt]
  · simp [run_sizeB h2]

theorem VRel.mk_part {cs : List V} {vs : Array Value} (hl : cs.length = vs.size) (h : ∀ (i : Nat) (c : V) (v : Value), cs[i]? = some c → vs[i]? = some v → VRel num S c v)
    {off n : Nat} {ag : Bool} {l : List V} {v : V} (hc : cut cs off n = some l) (hm : mk ag l = some v) :
    (ag = false → n = 1) ∧ off + n ≤ vs.size ∧ VRel num S v (if ag then .agg (vs.extract off (off + n)) else vs.getD off undef) := by
  unfold cut at hc
  split at hc
  · rename_i hfit
    simp only [Option.some.injEq] at hc
    subst hc
    have hlen : ((cs.drop off).take n).length = n := by simp; omega
    have hget : ∀ i, i < n → ((cs.drop off).take n)[i]? = cs[off + i]? := fun i hi => by simp [hi]
    unfold mk at hm
    cases ag
    · simp only [Bool.false_eq_true, if_false] at hm
      split at hm
      · rename_i x hx
        simp only [Option.some.injEq] at hm
        subst hm
        rw [hx] at hlen hget
        simp at hlen
        have h0 := hget 0 (by omega)
        simp at h0
        have hlt : off < vs.size := by omega
        refine ⟨fun _ => hlen.symm, by omega, ?_⟩
        have := h off x vs[off] h0.symm (Array.getElem?_eq_getElem hlt)
        simpa [hlt] using this
      · cases hm
    · simp only [if_true, Option.some.injEq] at hm
      subst hm
      refine ⟨fun e => (by cases e), by omega, ?_⟩
      simp only [if_true]
      refine .agg _ _ (by simp; omega) (fun i c v hc hv => ?_)
      have hi : i < n := by have := (List.getElem?_eq_some_iff.1 hc).1; omega
      rw [hget i hi] at hc
      refine h (off + i) c v hc ?_
      rw [Array.getElem?_extract] at hv
      split at hv
      · exact hv
      · cases hv
  · cases hc

end ops
end Go.Proofs.Ytakahhnlbciicaa.Ai

namespace Go.Proofs.Ytakahhnlbciicaa.Ai
open Go Go.RowKit

def sliceOf (P : Program) (t : Nat) : Option Nat := match P.underlying t with
  | some (.slice e) => some e
  | _ => none
theorem sliceOf_eq {P : Program} {t e : Nat} (h : sliceOf P t = some e) : P.underlying t = some (.slice e) := by
  unfold sliceOf at h; split at h
  · cases h; assumption
  · cases h
def isStrB (P : Program) (t : Nat) : Bool := match P.underlying t with
  | some .string => true
  | _ => false
theorem isStrB_eq {P : Program} {t : Nat} (h : isStrB P t = true) : P.underlying t = some .string := by
  unfold isStrB at h; split at h
  · assumption
  · cases h
def fieldOf (P : Program) (t f : Nat) : Option Field := match P.underlying t with
  | some (.struct fs) => fs[f]?
  | _ => none
theorem fieldOf_eq {P : Program} {t f : Nat} {x : Field} (h : fieldOf P t f = some x) : ∃ fs, P.underlying t = some (.struct fs) ∧ fs[f]? = some x := by
  unfold fieldOf at h; split at h
  · exact ⟨_, by assumption, h⟩
  · cases h
def arrOf (P : Program) (t : Nat) : Option (Nat × Nat) := match P.underlying t with
  | some (.array n e) => some (n, e)
  | _ => none
theorem arrOf_eq {P : Program} {t n e : Nat} (h : arrOf P t = some (n, e)) : P.underlying t = some (.array n e) := by
  unfold arrOf at h; split at h
  · cases h; assumption
  · cases h

/-- The kinds of scalars. -/
def scB (P : Program) (t : Nat) (k : Sc) : Bool := match P.underlying t, k with
  | some (.int _), .int => true
  | some .bool, .bool => true
  | some .string, .str => true
  | _, _ => false
def scFields (P : Program) : List Field → List Sc → Nat → Bool
  | [], [], _ => true
  | f :: fs, k :: ks, o => (f.name != "_") && (scB P f.type k) && (f.offset == o) && scFields P fs ks (o + 1)
  | _, _, _ => false
def eqB (P : Program) (t : Nat) (ag : Bool) (ks : List Sc) : Bool :=
  if ag then (match P.underlying t with
    | some (.struct fs) => scFields P fs.toList ks 0 && !(P.stoodInHeld t) && !(P.eqGuardType P.depth t)
    | _ => false)
  else match ks with
    | [k] => scB P t k
    | _ => false
def nkB (P : Program) (t : Nat) (k : Nk) : Bool := match P.underlying t, k with
  | some (.pointer _), .ptr => true
  | some (.func _ _ _), .fn => true
  | some (.interface _), .ifc => true
  | _, _ => false
def isNilC (k : Nk) : Operand → Bool
  | .const c => match c, k with
    | .pointer none, .ptr => true
    | .nilFunc, .fn => true
    | .nilIface, .ifc => true
    | _, _ => false
  | _ => false

def placeB (P : Program) (t i off n : Nat) : Bool := match P.underlying t with
  | some (.struct fs) => (match fs[i]? with | some f => (f.offset == off) && sizeB P f.type n | none => false)
  | some (.array _ e) => sizeB P e n && (off == i * n)
  | _ => false
def partsB (num : Nat → Nat) (gl : List Nat) (P : Program) (t : Nat) : List (Nat × Operand) → List (Nat × Nat × O) → Bool
  | [], [] => true
  | (i, x) :: l, (off, n, y) :: m => placeB P t i off n && okO num gl x y && partsB num gl P t l m
  | _, _ => false
def elemsB (num : Nat → Nat) (gl : List Nat) : List (Nat × Operand) → List (Nat × O) → Bool
  | [], [] => true
  | (i, x) :: l, (j, y) :: m => (i == j) && okO num gl x y && elemsB num gl l m
  | _, _ => false
def zeroB (P : Program) (t : Nat) (z : V) : Bool := match P.info? t with
  | some i => (match i.zero with | some c => okV z c | none => false)
  | none => false

def infoB (P : Program) (t : Nat) : Bool := match P.underlying t with
  | some (.struct fs) => fs.toList.all fun f => (P.info? f.type).isSome
  | some (.array _ e) => (P.info? e).isSome
  | _ => false

/-- Pure operations. -/
def okP (num : Nat → Nat) (gl : List Nat) (ixf : Option Nat) (P : Program) (o : Op) (i : I) : Bool :=
  match i with
  | .bad => true
  | .mv y => (match o with | .move x | .assign x => okO num gl x y | _ => false)
  | .pick c a b => (match o with | .pick c' a' b' => okO num gl c' c && okO num gl a' a && okO num gl b' b | _ => false)
  | .nck y => (match o with | .nilCheck x => okO num gl x y | _ => false)
  | .bin b x y => (match o with | .binOp b' _ x' y' _ => (b == b') && okO num gl x' x && okO num gl y' y | _ => false)
  | .eqv ne ag ks x y => (match o with | .binOp b' t x' y' _ => (b' == (if ne then .neq else .eql)) && eqB P t ag ks && okO num gl x' x && okO num gl y' y | _ => false)
  | .isnil k ne x => (match o with | .binOp b' t x' y' _ => (b' == (if ne then .neq else .eql)) && nkB P t k && isNilC k y' && okO num gl x' x | _ => false)
  | .un u x => (match o with | .unOp u' _ x' => (u == u') && okO num gl x' x | _ => false)
  | .cvt k x => (match o with | .convert s d x' => (P.underlying s).isSome && (match P.underlying d with | some (.int k') => (k == k') | _ => false) && okO num gl x' x | _ => false)
  | .cvS x => (match o with | .convert s d x' => (P.underlying s).isSome && isStrB P d && okO num gl x' x | _ => false)
  | .mkf f a b => (match o with | .makeFunc fn a' b' => (match fn with | .func g => num f == g | _ => false) && okOs num gl a'.toList a && okOs num gl b'.toList b | _ => false)
  | .slc e x lo hi => (match o with | .slice t x' lo' hi' mx => mx.isNone && (if e = 0 then isStrB P t else (match sliceOf P t with | some el => sizeB P el e | none => false)) && okO num gl x' x && okOo num gl lo' lo && okOo num gl hi' hi | _ => false)
  | .fad x off => (match o with | .fieldAddr t x' f => (match fieldOf P t f with | some fd => (fd.offset == off) && !(sizeB P fd.type 0) && (P.info? fd.type).isSome | none => false) && okO num gl x' x | _ => false)
  | .fld x off n ag => (match o with | .field t x' f => (match fieldOf P t f with | some fd => (fd.offset == off) && sizeB P fd.type n && aggB P fd.type ag | none => false) && okO num gl x' x | _ => false)
  | .iad e x i => (match o with | .indexAddr t x' i' => (match sliceOf P t with | some el => sizeB P el e | none => false) && okO num gl x' x && okO num gl i' i | _ => false)
  | .iadA len e x i => (match o with | .indexAddr t x' i' => (match arrOf P t with | some (n, el) => (n == len) && sizeB P el e | none => false) && okO num gl x' x && okO num gl i' i | _ => false)
  | .idx x i => (match o with | .index t x' i' => isStrB P t && okO num gl x' x && okO num gl i' i | _ => false)
  | .idxA len e ag x i => (match o with | .index t x' i' => (match arrOf P t with | some (n, el) => (n == len) && sizeB P el e && aggB P el ag | none => false) && okO num gl x' x && okO num gl i' i | _ => false)
  | .ext x i => (match o with | .extract x' i' => (i == i') && okO num gl x' x | _ => false)
  | .len k x => (match o with | .call c => (match c.callee with | .builtin .len => true | _ => false) && (match c.args.toList, c.argTypes.toList with | [x'], [t] => okO num gl x' x && (if k then isStrB P t else (sliceOf P t).isSome) | _, _ => false) | _ => false)
  | .mx xs => (match o with | .call c => (match c.callee with | .builtin .max => true | _ => false) && okOs num gl c.args.toList xs | _ => false)
  | .mn xs => (match o with | .call c => (match c.callee with | .builtin .min => true | _ => false) && okOs num gl c.args.toList xs | _ => false)
  | .build z ps => (match o with | .build t ps' => zeroB P t (.agg z) && infoB P t && partsB num gl P t ps'.toList ps | _ => false)
  | .mkI t x => (match o with | .makeInterface t' x' => (t == t') && P.concrete t && okO num gl x' x | _ => false)
  | .ixb x c => (match o with
    | .call d => (match d.callee with | .value (.func f) => (ixf == some f) | _ => false)
        && (match d.args.toList with | [x', c'] => okO num gl x' x && okO num gl c' c | _ => false)
    | _ => false)
  | _ => false

section
variable {num : Nat → Nat} {gl : List Nat} {S : Env} {nt : Nat} {fr : Fr} {a : Act} {P : Program}

/-- What is to be shown of a pure operation. -/
def PRes (num : Nat → Nat) (S : Env) (P : Program) (a : Act) (o : Oper) (v : V) : Prop := ∀ w, ∃ c, (execOp a.eval o).run P w = .ok (.value c) w ∧ VRel num S v c

theorem bin_int (k : IntKind) (m n : Int) (b : BinOp) (v : V) (h : binv b (.int k m) (.int k n) = some v) (t : Nat) (x y : Operand) (w : World) :
    ∃ c, (do eqGuard b t x y (.int k m) (.int k n); binOp b t (.int k m) (.int k n) : Sem Value).run P w = .ok c w ∧ VRel num S v c := by
  rw [eqGuard_at_int]
  cases b <;> simp only [binv] at h <;> try (cases h; done)
  case shl =>
    split at h
    · cases h
    · simp only [Option.some.injEq] at h; subst h
      exact ⟨_, by simp [binOp, shift_shl_any _ _ _ _ (by omega : (0 : Int) ≤ n), wrp], .int _ _⟩
  case shr =>
    split at h
    · cases h
    · simp only [Option.some.injEq] at h; subst h
      exact ⟨_, by simp [binOp, shift_shr_any _ _ _ _ (by omega : (0 : Int) ≤ n)], .int _ _⟩
  all_goals
    simp only [if_true] at h
  case quo =>
    split at h
    · cases h
    · rename_i hn
      simp only [Option.some.injEq] at h; subst h
      exact ⟨_, by simp [binOp, Op.intDiv, hn]; rfl, .int _ _⟩
  case rem =>
    split at h
    · cases h
    · rename_i hn
      simp only [Option.some.injEq] at h; subst h
      exact ⟨_, by simp [binOp, Op.intDiv, hn], .int _ _⟩
  case eql =>
    simp only [Option.some.injEq] at h; subst h
    exact ⟨.bool (decide (m = n)), by simp [binOp, Op.intCmp]; rfl, .bool _⟩
  case neq =>
    simp only [Option.some.injEq] at h; subst h
    exact ⟨.bool (!decide (m = n)), by simp [binOp, Op.intCmp, bne]; rfl, .bool _⟩
  all_goals first
    | (simp only [Option.some.injEq] at h; subst h; exact ⟨_, by simp [binOp, Op.intArith, Op.intCmp]; rfl, by constructor⟩)
    | (cases h; done)

theorem less_eq : ∀ (x y : List UInt8), less (x.map UInt8.toNat) (y.map UInt8.toNat) = Op.bytesLess x y
  | [], [] => rfl
  | _ :: _, [] => rfl
  | [], _ :: _ => rfl
  | a :: x, b :: y => by
    simp only [List.map_cons, less, Op.bytesLess, less_eq x y]
    have h1 : decide (a.toNat < b.toNat) = decide (a < b) := by simp [UInt8.lt_iff_toNat_lt]
    have h2 : decide (a.toNat = b.toNat) = (a == b) := by
      rw [Bool.eq_iff_iff]; simp [UInt8.toNat_inj]
    rw [h1, h2]
theorem map_toNat_inj {x y : List UInt8} : x.map UInt8.toNat = y.map UInt8.toNat ↔ x = y := by
  constructor
  · intro h
    exact List.map_inj_right (fun a b e => UInt8.toNat_inj.1 e) |>.1 h
  · intro h; rw [h]
theorem beq_str (x y : ByteArray) : ((x.data.toList.map UInt8.toNat) == (y.data.toList.map UInt8.toNat)) = (x.toList == y.toList) := by
  rw [ByteArray.toList_eq, ByteArray.toList_eq, Bool.eq_iff_iff]
  simp [map_toNat_inj]

theorem bin_str (s t : List Nat) (x y : ByteArray) (hx : x.data.toList.map UInt8.toNat = s) (hy : y.data.toList.map UInt8.toNat = t) (b : BinOp) (v : V) (h : binv b (.str s) (.str t) = some v)
    (ty : Nat) (p q : Operand) (w : World) : ∃ c, (do eqGuard b ty p q (.string x) (.string y); binOp b ty (.string x) (.string y) : Sem Value).run P w = .ok c w ∧ VRel num S v c := by
  rw [eqGuard_at_string]
  subst hx hy
  cases b <;> simp only [binv] at h <;> try (cases h; done)
  case add =>
    split at h
    · rename_i hlt
      simp only [Option.some.injEq] at h; subst h
      simp only [List.length_map, Array.length_toList] at hlt
      have e1 : x.data.size = x.size := rfl
      have e2 : y.data.size = y.size := rfl
      rw [e1, e2] at hlt
      refine ⟨.string (x ++ y), ?_, .str _ _ (by simp)⟩
      have : ¬ (9223372036854775807 < (x.size : Int) + (y.size : Int)) := by omega
      simp [binOp, Op.stringOp, this]
    · cases h
  all_goals
    simp only [Option.some.injEq] at h; subst h
    simp only [beq_str, less_eq]
    try simp only [← ByteArray.toList_eq]
    exact ⟨_, by simp [binOp, Op.stringOp], .bool _⟩

end
end Go.Proofs.Ytakahhnlbciicaa.Ai

namespace Go.Proofs.Ytakahhnlbciicaa.Ai
open Go Go.RowKit

section
variable {num : Nat → Nat} {gl : List Nat} {S : Env} {nt : Nat} {fr : Fr} {a : Act} {P : Program}

theorem scB_int {t : Nat} (h : scB P t .int = true) : ∃ k, P.underlying t = some (.int k) := by
  unfold scB at h; split at h <;> first | exact ⟨_, by assumption⟩ | simp_all
theorem scB_bool {t : Nat} (h : scB P t .bool = true) : P.underlying t = some .bool := by
  unfold scB at h; split at h <;> first | assumption | simp_all
theorem scB_str {t : Nat} (h : scB P t .str = true) : P.underlying t = some .string := by
  unfold scB at h; split at h <;> first | assumption | simp_all
theorem eq1_run {k : Sc} {x y : V} {b : Bool} (h : eq1 k x y = some b) {t : Nat} (ht : scB P t k = true) {cx cy : Value} (hx : VRel num S x cx) (hy : VRel num S y cy) (d : Nat) (w : World) :
    (Op.equalIn (d + 1) t cx cy).run P w = .ok b w := by
  cases k <;> cases x <;> cases y <;> simp only [eq1] at h <;> try (cases h; done)
  case int =>
    split at h
    · simp only [Option.some.injEq] at h; subst h
      rename_i k1 m k2 n hk
      subst hk
      cases hx; cases hy
      obtain ⟨k', hu⟩ := scB_int ht
      rw [run_equalIn_int _ _ _ _ k' _ _ hu]; rfl
    · cases h
  case bool =>
    simp only [Option.some.injEq] at h; subst h
    cases hx; cases hy
    rw [run_equalIn_bool' _ _ _ _ _ (scB_bool ht)]
  case str =>
    simp only [Option.some.injEq] at h; subst h
    cases hx; cases hy
    rename_i b1 h1 b2 h2
    rw [run_equalIn_string _ _ _ _ _ (scB_str ht), ← h1, ← h2, beq_str]

theorem scB_agg {w : World} {t : Nat} {k : Sc} (h : scB P t k = true) : (isAgg t).run P w = .ok false w := by
  unfold scB at h
  cases hu : P.underlying t with
  | none => rw [hu] at h; simp at h
  | some d =>
    simp only [isAgg, Sem.run_bind, run_underlying hu, Result.andThen_ok]
    cases d <;> simp_all

theorem eqs_run {cs ds : List V} {xs ys : Array Value} (hx : VRels num S cs xs.toList) (hy : VRels num S ds ys.toList) (d : Nat) (w : World) :
    ∀ (fs : List Field) (ks : List Sc) (o : Nat) (b : Bool), scFields P fs ks o = true → eqs ks (cs.drop o) (ds.drop o) = some b → (Op.eqFields (d + 1) xs ys fs).run P w = .ok b w
  | [], ks, o, b, hs, he => by
    cases ks <;> simp [scFields] at hs
    cases h1 : cs.drop o <;> cases h2 : ds.drop o <;> rw [h1, h2] at he <;> simp [eqs] at he
    subst he; simp [Op.eqFields]
  | f :: fs, ks, o, b, hs, he => by
    cases ks with
    | nil => simp [scFields] at hs
    | cons k ks =>
      simp only [scFields, Bool.and_eq_true, beq_iff_eq, bne_iff_ne, ne_eq] at hs
      obtain ⟨⟨⟨h1, h2⟩, h3⟩, h4⟩ := hs
      cases hc : cs.drop o with
      | nil => rw [hc] at he; simp [eqs] at he
      | cons c cr => cases hd : ds.drop o with
        | nil => rw [hc, hd] at he; simp [eqs] at he
        | cons e dr =>
          rw [hc, hd] at he
          simp only [eqs] at he
          cases h5 : eq1 k c e with
          | none => rw [h5] at he; simp at he
          | some p => cases h6 : eqs ks cr dr with
            | none => rw [h5, h6] at he; simp at he
            | some q =>
              rw [h5, h6] at he
              simp only [Option.some.injEq] at he
              have gc : cs[o]? = some c := by
                have := congrArg (fun l => l[0]?) hc
                simpa using this
              have gd : ds[o]? = some e := by
                have := congrArg (fun l => l[0]?) hd
                simpa using this
              have lx : o < xs.size := by
                have := (List.getElem?_eq_some_iff.1 gc).1
                have h9 := hx.1
                simp at h9; omega
              have ly : o < ys.size := by
                have := (List.getElem?_eq_some_iff.1 gd).1
                have h9 := hy.1
                simp at h9; omega
              have rx := hx.2 o c xs[o] gc (by simp [lx])
              have ry := hy.2 o e ys[o] gd (by simp [ly])
              have dc : cs.drop (o + 1) = cr := by rw [← List.drop_drop, hc]; rfl
              have dd : ds.drop (o + 1) = dr := by rw [← List.drop_drop, hd]; rfl
              have ih := eqs_run hx hy d w fs ks (o + 1) q h4 (by rw [dc, dd]; exact h6)
              have px : (part f.type xs f.offset).run P w = .ok xs[o] w := by
                unfold part; simp only [Sem.run_bind, scB_agg h2, Result.andThen_ok]; simp [h3, lx]
              have py : (part f.type ys f.offset).run P w = .ok ys[o] w := by
                unfold part; simp only [Sem.run_bind, scB_agg h2, Result.andThen_ok]; simp [h3, ly]
              simp only [Op.eqFields, ne_eq, h1, not_false_eq_true, if_true, Sem.run_bind, px, py, Result.andThen_ok, eq1_run h5 h2 rx ry d w]
              subst he
              cases p
              · simp
              · simp [ih]

theorem eqv_run {ag : Bool} {ks : List Sc} {x y : V} {b : Bool} (h : eqv ag ks x y = some b) {t : Nat} (ht : eqB P t ag ks = true) {cx cy : Value} (hx : VRel num S x cx) (hy : VRel num S y cy)
    (p q : Operand) (w : World) : (do eqGuard .eql t p q cx cy; binOp .eql t cx cy : Sem Value).run P w = .ok (.bool b) w ∧
      (do eqGuard .neq t p q cx cy; binOp .neq t cx cy : Sem Value).run P w = .ok (.bool (!b)) w := by
  unfold eqv at h
  unfold eqB at ht
  cases ag
  · simp only [Bool.false_eq_true, if_false] at h ht
    split at h
    · rename_i k
      have key := eq1_run h ht hx hy 9999 w
      cases k <;> cases x <;> cases y <;> simp only [eq1] at h <;> try (cases h; done)
      · cases hx; cases hy
        rename_i m k1 n k2
        simp only [eqGuard_at_int]
        split at h
        · simp only [Option.some.injEq] at h; subst h
          rename_i hk; subst hk
          exact ⟨by simp [binOp, Op.intCmp]; rfl, by simp [binOp, Op.intCmp, bne]; rfl⟩
        · cases h
      · cases hx; cases hy
        simp only [eqGuard_at_bool]
        refine ⟨?_, ?_⟩ <;> simp [binOp, Op.equal, Op.maxDepth, key]
      · cases hx; cases hy
        rename_i b1 h1 b2 h2
        simp only [eqGuard_at_string]
        simp only [Option.some.injEq] at h; subst h
        rw [← h1, ← h2, beq_str]
        exact ⟨by simp [binOp, Op.stringOp], by simp [binOp, Op.stringOp]⟩
    · cases h
  · simp only [if_true] at h ht
    split at h
    · rename_i l m
      split at ht
      · rename_i fs hu
        simp only [Bool.and_eq_true, Bool.not_eq_true'] at ht
        obtain ⟨⟨h1, h2⟩, h3⟩ := ht
        have hfs : P.fieldsOf t = fs := by simp [Program.fieldsOf, hu]
        cases hx with
        | agg _ xs hl hxx => cases hy with
          | agg _ ys hm hyy =>
            have key := eqs_run (P := P) (num := num) (S := S) (cs := l) (ds := m) (xs := xs) (ys := ys) ⟨by simpa using hl, fun i c v hc hv => hxx i c v hc (by simpa using hv)⟩ ⟨by simpa using hm, fun i c v hc hv => hyy i c v hc (by simpa using hv)⟩ 9998 w fs.toList ks 0 b h1 (by simpa using h)
            have k2 : (Op.equalIn 10000 t (.agg xs) (.agg ys)).run P w = .ok b w := by
              rw [run_equalIn_agg w 9999 t xs ys (by rw [hfs]; exact hu) h2, hfs]; exact key
            refine ⟨?_, ?_⟩
            · simp only [Sem.run_bind, run_eqGuard_agg w _ t p q xs ys h3, Result.andThen_ok, run_eql_struct, k2]
            · simp only [Sem.run_bind, run_eqGuard_agg w _ t p q xs ys h3, Result.andThen_ok, run_neq_struct, k2]
      · cases ht
    · cases h

theorem nil_ptr {t e : Nat} (hu : P.underlying t = some (.pointer e)) (x : Option Addr) (d : Nat) (w : World) : (Op.equalIn (d + 1) t (.pointer x) (.pointer none)).run P w = .ok x.isNone w := by
  cases x <;> simp only [Op.equalIn, Sem.run_bind, run_underlying hu, Result.andThen_ok] <;> rfl
theorem nil_fn {t : Nat} {as bs : Array TypeId} {v : Bool} (hu : P.underlying t = some (.func as bs v)) (d : Nat) (w : World) : (Op.equalIn (d + 1) t .nilFunc .nilFunc).run P w = .ok true w ∧
    ∀ f x y, (Op.equalIn (d + 1) t (.func f x y) .nilFunc).run P w = .ok false w := by
  refine ⟨?_, fun f x y => ?_⟩ <;> simp only [Op.equalIn, Sem.run_bind, run_underlying hu, Result.andThen_ok] <;> rfl
theorem nil_ifc {t : Nat} {ms : Array (String × TypeId)} (hu : P.underlying t = some (.interface ms)) (d : Nat) (w : World) : (Op.equalIn (d + 1) t .nilIface .nilIface).run P w = .ok true w ∧
    ∀ u x, (Op.equalIn (d + 1) t (.iface u x) .nilIface).run P w = .ok false w := by
  refine ⟨?_, fun f x => ?_⟩ <;> simp only [Op.equalIn, Sem.run_bind, run_underlying hu, Result.andThen_ok] <;> rfl

theorem isnil_run {k : Nk} {x : V} {b : Bool} (h : nilk k x = some b) {t : Nat} (ht : nkB P t k = true) {cx : Value} (hx : VRel num S x cx) {y : Operand} (hy : isNilC k y = true) (p : Operand) (w : World) :
    (do eqGuard .eql t p y cx (a.eval y); binOp .eql t cx (a.eval y) : Sem Value).run P w = .ok (.bool b) w ∧
      (do eqGuard .neq t p y cx (a.eval y); binOp .neq t cx (a.eval y) : Sem Value).run P w = .ok (.bool (!b)) w := by
  unfold nilk at h
  cases y <;> simp only [isNilC] at hy <;> try (cases hy; done)
  rename_i c
  simp only [Act.eval]
  have hb : ∀ j b', nilv x = some (j, b') → j = k ∧ b' = b := by
    intro j b' e
    rw [e] at h
    simp only at h
    split at h
    · rename_i hk; simp only [Option.some.injEq] at h; exact ⟨hk, h⟩
    · cases h
  cases k
  · have hc : c = .pointer none := by revert hy; split <;> simp_all
    subst hc
    obtain ⟨e, hu⟩ : ∃ e, P.underlying t = some (.pointer e) := by unfold nkB at ht; split at ht <;> first | exact ⟨_, by assumption⟩ | simp_all
    have hx' : ∃ z, cx = .pointer z ∧ z.isNone = b := by
      cases hx <;> first | (have := (hb _ _ rfl).1; cases this; done) | (have := (hb _ _ rfl).2; exact ⟨_, rfl, by simpa using this⟩) | (simp [nilv] at h; done)
    obtain ⟨z, rfl, hz⟩ := hx'
    have key := nil_ptr hu z 9999 w
    simp only [eqGuard_at_pointer]
    refine ⟨?_, ?_⟩ <;> simp [binOp, Op.equal, Op.maxDepth, key, hz]
  · have hc : c = .nilFunc := by revert hy; split <;> simp_all
    subst hc
    obtain ⟨as, bs, v, hu⟩ : ∃ as bs v, P.underlying t = some (.func as bs v) := by unfold nkB at ht; split at ht <;> first | exact ⟨_, _, _, by assumption⟩ | simp_all
    obtain ⟨k1, k2⟩ := nil_fn hu 9999 w
    cases hx <;> first
      | (have := (hb _ _ rfl).1; cases this; done)
      | (simp [nilv] at h; done)
      | (have hb' := (hb _ _ rfl).2; subst hb'; refine ⟨?_, ?_⟩ <;> simp [eqGuard, binOp, Op.equal, Op.maxDepth, k1, k2])
  · have hc : c = .nilIface := by revert hy; split <;> simp_all
    subst hc
    obtain ⟨ms, hu⟩ : ∃ ms, P.underlying t = some (.interface ms) := by unfold nkB at ht; split at ht <;> first | exact ⟨_, by assumption⟩ | simp_all
    obtain ⟨k1, k2⟩ := nil_ifc hu 9999 w
    cases hx <;> first
      | (have := (hb _ _ rfl).1; cases this; done)
      | (simp [nilv] at h; done)
      | (have hb' := (hb _ _ rfl).2; subst hb'; refine ⟨?_, ?_⟩ <;> simp [eqGuard, binOp, Op.equal, Op.maxDepth, k1, k2])

end
end Go.Proofs.Ytakahhnlbciicaa.Ai

namespace Go.Proofs.Ytakahhnlbciicaa.Ai
open Go Go.RowKit

section
variable {num : Nat → Nat} {gl : List Nat} {S : Env} {nt : Nat} {fr : Fr} {a : Act} {P : Program}

theorem evs_len : ∀ {l : List O} {vs : List V}, evs fr l = some vs → vs.length = l.length
  | [], vs, h => by simp [evs] at h; subst h; rfl
  | o :: l, vs, h => by
    simp only [evs] at h
    cases h1 : o.ev fr <;> cases h2 : evs fr l <;> rw [h1, h2] at h <;> simp at h
    subst h; simp [evs_len h2]

theorem slc_str (s : List Nat) (b : ByteArray) (hb : b.data.toList.map UInt8.toNat = s) (l n : Nat) : VRel num S (.str ((s.drop l).take n)) (.string (b.extract l (l + n))) := by
  refine .str _ _ ?_
  subst hb
  rw [ByteArray.data_extract, Array.toList_extract]
  simp [List.extract_eq_take_drop, List.map_take, List.map_drop]

theorem VRel.str_inv {s : List Nat} {c : Value} (h : VRel num S (.str s) c) : ∃ b, c = .string b ∧ b.data.toList.map UInt8.toNat = s := by cases h; exact ⟨_, rfl, by assumption⟩
theorem VRel.int_inv {k : IntKind} {n : Int} {c : Value} (h : VRel num S (.int k n) c) : c = .int k n := by cases h; rfl
theorem VRel.bool_inv {b : Bool} {c : Value} (h : VRel num S (.bool b) c) : c = .bool b := by cases h; rfl

theorem foldv_mx {v w : V} {l : List V} {c : Value} {cs : List Value} (hv : VRel num S v c) (hl : VRels num S l cs) (h : foldv mxv v l = some w) (W : World) :
    ∃ d, (cs.foldlM Builtin.max2 c : Sem Value).run P W = .ok d W ∧ VRel num S w d := by
  induction l generalizing v c cs with
  | nil =>
    simp only [foldv, Option.some.injEq] at h; subst h
    have : cs = [] := by have := hl.1; simpa using this.symm
    subst this
    exact ⟨c, by simp, hv⟩
  | cons x l ih =>
    obtain ⟨d, ds, rfl, h1, h2⟩ := hl.head
    simp only [foldv] at h
    cases hm : mxv v x with
    | none => rw [hm] at h; cases h
    | some y =>
      rw [hm] at h
      cases v <;> cases x <;> simp only [mxv] at hm <;> try (cases hm; done)
      rename_i k m k' n
      simp only [Option.some.injEq] at hm; subst hm
      rw [hv.int_inv, h1.int_inv]
      obtain ⟨e, h3, h4⟩ := ih (c := .int k (if n > m then n else m)) (.int _ _) h2 h
      exact ⟨e, by simp only [List.foldlM_cons, Sem.run_bind, Builtin.max2, Sem.run_pure, Result.andThen_ok]; exact h3, h4⟩
theorem foldv_mn {v w : V} {l : List V} {c : Value} {cs : List Value} (hv : VRel num S v c) (hl : VRels num S l cs) (h : foldv mnv v l = some w) (W : World) :
    ∃ d, (cs.foldlM Builtin.min2 c : Sem Value).run P W = .ok d W ∧ VRel num S w d := by
  induction l generalizing v c cs with
  | nil =>
    simp only [foldv, Option.some.injEq] at h; subst h
    have : cs = [] := by have := hl.1; simpa using this.symm
    subst this
    exact ⟨c, by simp, hv⟩
  | cons x l ih =>
    obtain ⟨d, ds, rfl, h1, h2⟩ := hl.head
    simp only [foldv] at h
    cases hm : mnv v x with
    | none => rw [hm] at h; cases h
    | some y =>
      rw [hm] at h
      cases v <;> cases x <;> simp only [mnv] at hm <;> try (cases hm; done)
      rename_i k m k' n
      simp only [Option.some.injEq] at hm; subst hm
      rw [hv.int_inv, h1.int_inv]
      obtain ⟨e, h3, h4⟩ := ih (c := .int k (if n < m then n else m)) (.int _ _) h2 h
      exact ⟨e, by simp only [List.foldlM_cons, Sem.run_bind, Builtin.min2, Sem.run_pure, Result.andThen_ok]; exact h3, h4⟩

theorem ixb_find (s : ByteArray) (c : UInt8) : ∀ (n k : Nat), k + n = s.size →
    (match (List.range' k n).find? (fun i => s[i]! == c) with | some i => (i : Int) | none => -1) = ixb ((s.data.toList.drop k).map UInt8.toNat) (c.toNat : Int) k
  | 0, k, h => by
    have : s.data.toList.drop k = [] := by
      apply List.drop_eq_nil_of_le
      have e : s.data.toList.length = s.size := by simp
      omega
    rw [this]; simp [ixb]
  | n + 1, k, h => by
    have hk : k < s.size := by omega
    have hk' : k < s.data.toList.length := by simp; exact hk
    have hd : s.data.toList.drop k = s[k] :: s.data.toList.drop (k + 1) := by
      rw [List.drop_eq_getElem_cons hk']; rfl
    rw [hd]
    simp only [List.range'_succ, List.find?_cons, List.map_cons, ixb]
    have hg : s[k]! = s[k] := by simp [hk]
    rw [hg]
    by_cases hc : s[k] = c
    · simp [hc]
    · have h1 : ¬ ((s[k].toNat : Int) = (c.toNat : Int)) := by
        intro e; apply hc; apply UInt8.toNat_inj.1; omega
      have h2 : (s[k] == c) = false := by simpa using hc
      rw [h2, if_neg h1]
      exact ixb_find s c n (k + 1) (by omega)
theorem firstIdx_eq (s : ByteArray) (c : UInt8) : firstIdx s c = ixb (s.data.toList.map UInt8.toNat) (c.toNat : Int) 0 := by
  have := ixb_find s c s.size 0 (by omega)
  rw [← List.range_eq_range'] at this
  simp only [List.drop_zero] at this
  rw [← this]
  unfold firstIdx
  cases List.find? (fun i => s[i]! == c) (List.range s.size) <;> rfl

end
end Go.Proofs.Ytakahhnlbciicaa.Ai

namespace Go.Proofs.Ytakahhnlbciicaa.Ai
open Go Go.RowKit

section
variable {num : Nat → Nat} {gl : List Nat} {S : Env} {nt : Nat} {fr : Fr} {a : Act} {P : Program} {ixf : Option Nat}

theorem slice_bounds (hg : Glob gl S) (hf : FRel num S nt fr a) {lo hi : Option O} {lo' hi' : Option Operand} (hl : okOo num gl lo' lo = true) (hh : okOo num gl hi' hi = true)
    {l u : Option Int} (el : oint fr lo = some l) (eu : oint fr hi = some u) (isS : Bool) (n cap : Nat) (h0 : 0 ≤ l.getD 0) (h1 : l.getD 0 ≤ u.getD n) (h2 : u.getD n ≤ cap) (w : World) :
    (Instr.sliceBounds isS n cap (lo'.map a.eval) (hi'.map a.eval) none).run P w = .ok ((l.getD 0).toNat, (u.getD n).toNat, cap) w := by
  have gl' : ∀ (x : Option O) (x' : Option Operand) (y : Option Int), okOo num gl x' x = true → oint fr x = some y →
      (x' = none ∧ y = none) ∨ ∃ p k m, x' = some p ∧ y = some m ∧ a.eval p = .int k m := by
    intro x x' y h1 h2
    cases x with
    | none => cases x' <;> simp [okOo] at h1; simp [oint] at h2; exact .inl ⟨rfl, h2.symm⟩
    | some o =>
      cases x' with
      | none => simp [okOo] at h1
      | some p =>
        simp only [okOo] at h1
        simp only [oint] at h2
        cases hv : o.ev fr with
        | none => rw [hv] at h2; simp at h2
        | some v =>
          rw [hv] at h2
          cases v <;> simp only [] at h2 <;> try (cases h2; done)
          simp only [Option.some.injEq] at h2
          exact .inr ⟨p, _, _, rfl, h2.symm, (okO_rel hg hf h1 hv).int_inv⟩
  have hh0 : 0 ≤ u.getD n := Int.le_trans h0 h1
  have e2 : ((u.getD n).toNat : Int) = u.getD n := Int.toNat_of_nonneg hh0
  rcases gl' lo lo' l hl el with ⟨rfl, rfl⟩ | ⟨p, k, m, rfl, rfl, hp⟩ <;> rcases gl' hi hi' u hh eu with ⟨rfl, rfl⟩ | ⟨q, k', m', rfl, rfl, hq⟩
  · simp [Instr.sliceBounds]
  · simp only [Option.getD_some] at h1 h2 hh0 e2
    simp [Instr.sliceBounds, hq, run_sliceBound w k' m' cap _ hh0 h2]
  · simp only [Option.getD_some] at h0 h1
    simp only [Option.getD_none] at h1
    simp [Instr.sliceBounds, hp, run_sliceBound w k m n _ h0 h1]
  · simp only [Option.getD_some] at h0 h1 h2 hh0 e2
    simp [Instr.sliceBounds, hp, hq, run_sliceBound w k' m' cap _ hh0 h2, run_sliceBound w k m m'.toNat _ h0 (by omega)]

theorem fieldAt_run {t f off : Nat} {fd : Field} (h : fieldOf P t f = some fd) (ho : fd.offset = off) (hz : sizeB P fd.type 0 = false) (hi : (P.info? fd.type).isSome = true) (r o : Nat) (w : World) :
    (Instr.fieldAt t (.pointer (some ⟨r, o, none⟩)) f).run P w = .ok (.pointer (some ⟨r, o + off, none⟩)) w := by
  obtain ⟨fs, h1, h2⟩ := fieldOf_eq h
  obtain ⟨i, hi⟩ := Option.isSome_iff_exists.1 hi
  have hsz : (sizeOf fd.type).run P w = .ok i.size w := by simp [sizeOf, typeInfo, hi]
  have hne : i.size ≠ 0 := by
    intro e
    unfold sizeB at hz
    rw [hi] at hz
    simp [e] at hz
  simp only [Instr.fieldAt, Sem.run_bind, run_underlying h1, Result.andThen_ok, h2, Instr.sureAddr, Sem.run_pure, fieldPlace, hsz, hne, if_false, ho, Addr.add_lit]

theorem getElem?_map {α β : Type} (f : α → β) (l : List α) (i : Nat) : (l.map f)[i]? = (l[i]?).map f := by simp

theorem ps_mv (hg : Glob gl S) (hf : FRel num S nt fr a) {o : Oper} {y : O} (hok : okP num gl ixf P o.op (.mv y) = true) {v : V} (hv : stepP fr (.mv y) = some v) : PRes num S P a o v := by
  intro w
  simp only [stepP] at hv
  simp only [okP] at hok
  split at hok
  · rename_i x heq; exact ⟨_, by simp only [execOp, heq, Sem.run_pure], okO_rel hg hf hok hv⟩
  · rename_i x heq; exact ⟨_, by simp only [execOp, heq, Sem.run_pure], okO_rel hg hf hok hv⟩
  · cases hok

theorem ps_pick (hg : Glob gl S) (hf : FRel num S nt fr a) {o : Oper} {c x y : O} (hok : okP num gl ixf P o.op (.pick c x y) = true) {v : V} (hv : stepP fr (.pick c x y) = some v) : PRes num S P a o v := by
  intro w
  simp only [stepP] at hv
  simp only [okP] at hok
  split at hok
  · rename_i c' x' y' heq
    simp only [Bool.and_eq_true] at hok
    obtain ⟨⟨h1, h2⟩, h3⟩ := hok
    split at hv
    · rename_i hc
      have r1 := okO_rel hg hf h1 hc
      exact ⟨_, by simp only [execOp, heq, Sem.run_bind, r1.bool_inv, asBool, Sem.run_pure, Result.andThen_ok]; rfl, okO_rel hg hf h2 hv⟩
    · rename_i hc
      have r1 := okO_rel hg hf h1 hc
      exact ⟨_, by simp only [execOp, heq, Sem.run_bind, r1.bool_inv, asBool, Sem.run_pure, Result.andThen_ok]; rfl, okO_rel hg hf h3 hv⟩
    · cases hv
  · cases hok

theorem nck_val {v : V} {k : Nk} {o : Oper} {x : Operand} (heq : o.op = .nilCheck x) (h : nilv v = some (k, false)) (r : VRel num S v (a.eval x)) (w : World) :
    (execOp a.eval o).run P w = .ok (.value (a.eval x)) w := by
  simp only [execOp, heq]
  generalize a.eval x = c at r ⊢
  cases r <;> first | rfl | (simp [nilv] at h; done)

theorem ps_nck (hg : Glob gl S) (hf : FRel num S nt fr a) {o : Oper} {y : O} (hok : okP num gl ixf P o.op (.nck y) = true) {v : V} (hv : stepP fr (.nck y) = some v) : PRes num S P a o v := by
  intro w
  simp only [stepP] at hv
  simp only [okP] at hok
  split at hok
  · rename_i x heq
    cases hy : y.ev fr with
    | none => rw [hy] at hv; cases hv
    | some vy =>
      rw [hy] at hv
      have r1 := okO_rel hg hf hok hy
      simp only at hv
      split at hv
      · rename_i k hk
        simp only [Option.some.injEq] at hv; subst hv
        exact ⟨a.eval x, nck_val heq hk r1 w, r1⟩
      · cases hv
  · cases hok

theorem ps_bin (hg : Glob gl S) (hf : FRel num S nt fr a) {o : Oper} {b : BinOp} {x y : O} (hok : okP num gl ixf P o.op (.bin b x y) = true) {v : V} (hv : stepP fr (.bin b x y) = some v) : PRes num S P a o v := by
  intro w
  simp only [stepP] at hv
  simp only [okP] at hok
  split at hok
  · rename_i b' t x' y' t' heq
    simp only [Bool.and_eq_true, beq_iff_eq] at hok
    obtain ⟨⟨rfl, h2⟩, h3⟩ := hok
    cases hx : x.ev fr with
    | none => rw [hx] at hv; cases hv
    | some vx => cases hy : y.ev fr with
      | none => rw [hx, hy] at hv; cases hv
      | some vy =>
        rw [hx, hy] at hv
        simp only at hv
        have r1 := okO_rel hg hf h2 hx
        have r2 := okO_rel hg hf h3 hy
        have key : ∃ c, (do eqGuard b t x' y' (a.eval x') (a.eval y'); binOp b t (a.eval x') (a.eval y') : Sem Value).run P w = .ok c w ∧ VRel num S v c := by
          have hv0 := hv
          cases vx <;> cases vy <;> simp only [binv] at hv <;> try (cases hv; done)
          · rename_i k m k' n
            by_cases e : k = k'
            · subst e
              rw [r1.int_inv, r2.int_inv]
              exact bin_int k m n b v hv0 t x' y' w
            · rw [r1.int_inv, r2.int_inv, eqGuard_at_int]
              cases b <;> simp only [e, if_false] at hv <;> try (cases hv; done)
              · split at hv
                · cases hv
                · simp only [Option.some.injEq] at hv; subst hv
                  exact ⟨_, by simp [binOp, shift_shl_any _ _ _ _ (by omega : (0 : Int) ≤ n), wrp], .int _ _⟩
              · split at hv
                · cases hv
                · simp only [Option.some.injEq] at hv; subst hv
                  exact ⟨_, by simp [binOp, shift_shr_any _ _ _ _ (by omega : (0 : Int) ≤ n)], .int _ _⟩
          · rename_i s1 s2
            obtain ⟨b1, h4, h5⟩ := r1.str_inv
            obtain ⟨b2, h6, h7⟩ := r2.str_inv
            rw [h4, h6]
            exact bin_str s1 s2 b1 b2 h5 h7 b v hv0 t x' y' w
        obtain ⟨c, h4, h5⟩ := key
        exact ⟨c, by simp only [execOp, heq]; rw [Sem.run_bind, h4]; rfl, h5⟩
  · cases hok

theorem ps_eqv (hg : Glob gl S) (hf : FRel num S nt fr a) {o : Oper} {ne ag : Bool} {ks : List Sc} {x y : O} (hok : okP num gl ixf P o.op (.eqv ne ag ks x y) = true) {v : V} (hv : stepP fr (.eqv ne ag ks x y) = some v) : PRes num S P a o v := by
  intro w
  simp only [stepP] at hv
  simp only [okP] at hok
  split at hok
  · rename_i b' t x' y' t' heq
    simp only [Bool.and_eq_true, beq_iff_eq] at hok
    obtain ⟨⟨⟨h1, h2⟩, h3⟩, h4⟩ := hok
    cases hx : x.ev fr with
    | none => rw [hx] at hv; cases hv
    | some vx => cases hy : y.ev fr with
      | none => rw [hx, hy] at hv; cases hv
      | some vy =>
        rw [hx, hy] at hv
        simp only [Option.map_eq_some_iff] at hv
        obtain ⟨b, hb, rfl⟩ := hv
        obtain ⟨k1, k2⟩ := eqv_run (P := P) hb h2 (okO_rel hg hf h3 hx) (okO_rel hg hf h4 hy) x' y' w
        cases ne
        · simp only [Bool.false_eq_true, if_false] at h1; subst h1
          exact ⟨.bool b, by simp only [execOp, heq]; rw [Sem.run_bind, k1]; rfl, by simpa using VRel.bool (num := num) (S := S) b⟩
        · simp only [if_true] at h1; subst h1
          exact ⟨.bool (!b), by simp only [execOp, heq]; rw [Sem.run_bind, k2]; rfl, by simpa using VRel.bool (num := num) (S := S) (!b)⟩
  · cases hok

theorem ps_isnil (hg : Glob gl S) (hf : FRel num S nt fr a) {o : Oper} {k : Nk} {ne : Bool} {x : O} (hok : okP num gl ixf P o.op (.isnil k ne x) = true) {v : V} (hv : stepP fr (.isnil k ne x) = some v) : PRes num S P a o v := by
  intro w
  simp only [stepP] at hv
  simp only [okP] at hok
  split at hok
  · rename_i b' t x' y' t' heq
    simp only [Bool.and_eq_true, beq_iff_eq] at hok
    obtain ⟨⟨⟨h1, h2⟩, h3⟩, h4⟩ := hok
    cases hx : x.ev fr with
    | none => rw [hx] at hv; cases hv
    | some vx =>
      rw [hx] at hv
      simp only [Option.map_eq_some_iff] at hv
      obtain ⟨b, hb, rfl⟩ := hv
      obtain ⟨k1, k2⟩ := isnil_run (P := P) (a := a) hb h2 (okO_rel hg hf h4 hx) h3 x' w
      cases ne
      · simp only [Bool.false_eq_true, if_false] at h1; subst h1
        exact ⟨.bool b, by simp only [execOp, heq]; rw [Sem.run_bind, k1]; rfl, by simpa using VRel.bool (num := num) (S := S) b⟩
      · simp only [if_true] at h1; subst h1
        exact ⟨.bool (!b), by simp only [execOp, heq]; rw [Sem.run_bind, k2]; rfl, by simpa using VRel.bool (num := num) (S := S) (!b)⟩
  · cases hok

theorem ps_un (hg : Glob gl S) (hf : FRel num S nt fr a) {o : Oper} {u : UnOp} {x : O} (hok : okP num gl ixf P o.op (.un u x) = true) {v : V} (hv : stepP fr (.un u x) = some v) : PRes num S P a o v := by
  intro w
  simp only [stepP] at hv
  simp only [okP] at hok
  split at hok
  · rename_i u' t x' heq
    simp only [Bool.and_eq_true, beq_iff_eq] at hok
    obtain ⟨rfl, h2⟩ := hok
    split at hv
    · rename_i b hx
      simp only [Option.some.injEq] at hv; subst hv
      exact ⟨_, by simp only [execOp, heq, (okO_rel hg hf h2 hx).bool_inv, Op.unary]; simp, .bool _⟩
    · rename_i k n hx
      simp only [Option.some.injEq] at hv; subst hv
      exact ⟨_, by simp only [execOp, heq, (okO_rel hg hf h2 hx).int_inv, Op.unary, Op.intArith]; simp [wrp], .int _ _⟩
    · cases hv
  · cases hok

theorem ps_cvt (hg : Glob gl S) (hf : FRel num S nt fr a) {o : Oper} {k : IntKind} {x : O} (hok : okP num gl ixf P o.op (.cvt k x) = true) {v : V} (hv : stepP fr (.cvt k x) = some v) : PRes num S P a o v := by
  intro w
  simp only [stepP] at hv
  simp only [okP] at hok
  split at hok
  · rename_i s d x' heq
    simp only [Bool.and_eq_true] at hok
    obtain ⟨⟨h0, h1⟩, h2⟩ := hok
    split at hv
    · rename_i k' n hx
      simp only [Option.some.injEq] at hv; subst hv
      split at h1
      · rename_i k2 hu
        simp only [beq_iff_eq] at h1
        subst h1
        obtain ⟨ds, hs⟩ := Option.isSome_iff_exists.1 h0
        refine ⟨.int k (wrp k n), ?_, .int _ _⟩
        simp [execOp, heq, (okO_rel hg hf h2 hx).int_inv, convert, run_underlying hs, run_underlying hu, Conv.intToInt, wrp]
      · cases h1
    · cases hv
  · cases hok

theorem ps_cvS (hg : Glob gl S) (hf : FRel num S nt fr a) {o : Oper} {x : O} (hok : okP num gl ixf P o.op (.cvS x) = true) {v : V} (hv : stepP fr (.cvS x) = some v) : PRes num S P a o v := by
  intro w
  simp only [stepP] at hv
  simp only [okP] at hok
  split at hok
  · rename_i s d x' heq
    simp only [Bool.and_eq_true] at hok
    obtain ⟨⟨h0, h1⟩, h2⟩ := hok
    split at hv
    · rename_i l hx
      simp only [Option.some.injEq] at hv; subst hv
      obtain ⟨ds, hs⟩ := Option.isSome_iff_exists.1 h0
      obtain ⟨b, e, hb⟩ := (okO_rel hg hf h2 hx).str_inv
      refine ⟨.string b, ?_, .str _ _ hb⟩
      simp [execOp, heq, e, convert, run_underlying hs, run_underlying (isStrB_eq h1)]
    · cases hv
  · cases hok

theorem ps_mkf (hg : Glob gl S) (hf : FRel num S nt fr a) {o : Oper} {f : Nat} {x y : List O} (hok : okP num gl ixf P o.op (.mkf f x y) = true) {v : V} (hv : stepP fr (.mkf f x y) = some v) : PRes num S P a o v := by
  intro w
  simp only [stepP] at hv
  simp only [okP] at hok
  split at hok
  · rename_i fn x' y' heq
    simp only [Bool.and_eq_true] at hok
    obtain ⟨⟨h0, h1⟩, h2⟩ := hok
    split at hv
    · rename_i vx vy hx hy
      simp only [Option.some.injEq] at hv; subst hv
      split at h0
      · simp only [beq_iff_eq] at h0
        subst h0
        have r1 := okOs_rel hg hf h1 hx
        have r2 := okOs_rel hg hf h2 hy
        refine ⟨.func (.func (num f)) (x'.map a.eval) (y'.map a.eval), by simp [execOp, heq, Instr.makeFunc], .fn f vx vy _ _ ?_ ?_ ?_ ?_⟩
        · simpa using r1.1
        · simpa using r2.1
        · intro i c v hc hv; exact r1.2 i c v hc (by simpa using hv)
        · intro i c v hc hv; exact r2.2 i c v hc (by simpa using hv)
      · cases h0
    · cases hv
  · cases hok

theorem ps_ext (hg : Glob gl S) (hf : FRel num S nt fr a) {o : Oper} {x : O} {i : Nat} (hok : okP num gl ixf P o.op (.ext x i) = true) {v : V} (hv : stepP fr (.ext x i) = some v) : PRes num S P a o v := by
  intro w
  simp only [stepP] at hv
  simp only [okP] at hok
  split at hok
  · rename_i x' i' heq
    simp only [Bool.and_eq_true, beq_iff_eq] at hok
    obtain ⟨rfl, h1⟩ := hok
    split at hv
    · rename_i vs hx
      have r := okO_rel hg hf h1 hx
      cases r' : a.eval x' <;> rw [r'] at r <;> cases r
      rename_i ws hl h
      have hlt : i < ws.size := by rw [← hl]; exact (List.getElem?_eq_some_iff.1 hv).1
      exact ⟨ws[i], by simp [execOp, heq, r', Instr.extract, hlt], h i v ws[i] hv (Array.getElem?_eq_getElem hlt)⟩
    · cases hv
  · cases hok

theorem ps_idx (hg : Glob gl S) (hf : FRel num S nt fr a) {o : Oper} {x i : O} (hok : okP num gl ixf P o.op (.idx x i) = true) {v : V} (hv : stepP fr (.idx x i) = some v) : PRes num S P a o v := by
  intro w
  simp only [stepP] at hv
  simp only [okP] at hok
  split at hok
  · rename_i t x' i' heq
    simp only [Bool.and_eq_true] at hok
    obtain ⟨⟨h0, h1⟩, h2⟩ := hok
    split at hv
    · rename_i s k n hx hi
      obtain ⟨b, e, hb⟩ := (okO_rel hg hf h1 hx).str_inv
      have e2 := (okO_rel hg hf h2 hi).int_inv
      split at hv
      · rename_i hn
        split at hv
        · rename_i c hc
          simp only [Option.some.injEq] at hv; subst hv
          subst hb
          have hlt : n.toNat < b.size := by
            have := (List.getElem?_eq_some_iff.1 hc).1
            simpa using this
          refine ⟨.int .u8 ((b[n.toNat]'hlt).toNat), ?_, ?_⟩
          · simp only [execOp, heq, e, e2, Sem.run_bind]
            rw [run_index_string w t b k n (isStrB_eq h0), dif_pos ⟨hn, by omega⟩]
            rfl
          · have : c = (b[n.toNat]'hlt).toNat := by
              rw [List.getElem?_map] at hc
              have hg : b.data.toList[n.toNat]? = some (b[n.toNat]'hlt) := by
                have : n.toNat < b.data.toList.length := by simpa using hlt
                rw [List.getElem?_eq_getElem this]; rfl
              rw [hg] at hc
              simpa using hc.symm
            subst this
            exact .int _ _
        · cases hv
      · cases hv
    · cases hv
  · cases hok

theorem ps_mkI (hg : Glob gl S) (hf : FRel num S nt fr a) {o : Oper} {t : Nat} {x : O} (hok : okP num gl ixf P o.op (.mkI t x) = true) {v : V} (hv : stepP fr (.mkI t x) = some v) : PRes num S P a o v := by
  intro w
  simp only [stepP] at hv
  simp only [okP] at hok
  split at hok
  · rename_i t' x' heq
    simp only [Bool.and_eq_true, beq_iff_eq] at hok
    obtain ⟨⟨rfl, h1⟩, h2⟩ := hok
    simp only [Option.map_eq_some_iff] at hv
    obtain ⟨u, hu, rfl⟩ := hv
    refine ⟨.iface t (a.eval x'), ?_, .iface _ _ _ (okO_rel hg hf h2 hu)⟩
    simp only [execOp, heq, Sem.run_bind, run_makeInterface w t _ h1]
    rfl
  · cases hok

theorem ps_fld (hg : Glob gl S) (hf : FRel num S nt fr a) {o : Oper} {x : O} {off n : Nat} {ag : Bool} (hok : okP num gl ixf P o.op (.fld x off n ag) = true) {v : V} (hv : stepP fr (.fld x off n ag) = some v) : PRes num S P a o v := by
  intro w
  simp only [stepP] at hv
  simp only [okP] at hok
  split at hok
  · rename_i t x' f heq
    simp only [Bool.and_eq_true] at hok
    obtain ⟨h0, h1⟩ := hok
    split at h0
    · rename_i fd hfd
      simp only [Bool.and_eq_true, beq_iff_eq] at h0
      obtain ⟨⟨rfl, h3⟩, h4⟩ := h0
      obtain ⟨fs, hu, hfs⟩ := fieldOf_eq hfd
      split at hv
      · rename_i cs hx
        split at hv
        · rename_i l hl
          have r := okO_rel hg hf h1 hx
          cases r' : a.eval x' <;> rw [r'] at r <;> cases r
          rename_i vs hl' h
          obtain ⟨k1, k2, k3⟩ := VRel.mk_part hl' h hl hv
          refine ⟨_, ?_, k3⟩
          simp only [execOp, heq, Sem.run_bind, r', Instr.field, run_underlying hu, Result.andThen_ok, hfs, asAgg, Sem.run_pure]
          rw [run_partB h4 h3 vs fd.offset k1 k2]
          rfl
        · cases hv
      · cases hv
    · cases h0
  · cases hok

theorem ps_idxA (hg : Glob gl S) (hf : FRel num S nt fr a) {o : Oper} {len e : Nat} {ag : Bool} {x i : O} (hok : okP num gl ixf P o.op (.idxA len e ag x i) = true) {v : V} (hv : stepP fr (.idxA len e ag x i) = some v) : PRes num S P a o v := by
  intro w
  simp only [stepP] at hv
  simp only [okP] at hok
  split at hok
  · rename_i t x' i' heq
    simp only [Bool.and_eq_true] at hok
    obtain ⟨⟨h0, h1⟩, h2⟩ := hok
    split at h0
    · rename_i n el hfd
      simp only [Bool.and_eq_true, beq_iff_eq] at h0
      obtain ⟨⟨rfl, h3⟩, h4⟩ := h0
      have hu := arrOf_eq hfd
      split at hv
      · rename_i cs k m hx hi
        have e2 := (okO_rel hg hf h2 hi).int_inv
        split at hv
        · rename_i hm
          split at hv
          · rename_i l hl
            have r := okO_rel hg hf h1 hx
            cases r' : a.eval x' <;> rw [r'] at r <;> cases r
            rename_i vs hl' h
            obtain ⟨k1, k2, k3⟩ := VRel.mk_part hl' h hl hv
            refine ⟨_, ?_, k3⟩
            simp only [execOp, heq, Sem.run_bind, r', e2, Instr.index, asIntOf, run_underlying hu, Result.andThen_ok, Sem.run_pure, if_pos hm, run_sizeB h3]
            rw [run_partB h4 h3 vs _ k1 k2]
            rfl
          · cases hv
        · cases hv
      · cases hv
    · cases h0
  · cases hok

theorem ps_fad (hg : Glob gl S) (hf : FRel num S nt fr a) {o : Oper} {x : O} {off : Nat} (hok : okP num gl ixf P o.op (.fad x off) = true) {v : V} (hv : stepP fr (.fad x off) = some v) : PRes num S P a o v := by
  intro w
  simp only [stepP] at hv
  simp only [okP] at hok
  split at hok
  · rename_i t x' f heq
    simp only [Bool.and_eq_true] at hok
    obtain ⟨h0, h1⟩ := hok
    split at h0
    · rename_i fd hfd
      simp only [Bool.and_eq_true, beq_iff_eq, Bool.not_eq_true'] at h0
      obtain ⟨⟨rfl, h3⟩, h4⟩ := h0
      split at hv
      · rename_i id i o' hx
        simp only [Option.some.injEq] at hv; subst hv
        have r := okO_rel hg hf h1 hx
        cases r' : a.eval x' <;> rw [r'] at r <;> cases r
        rename_i r b e z h
        refine ⟨.pointer (some ⟨r, b + i * e + o' + fd.offset, none⟩), ?_, by rw [Nat.add_assoc]; exact .ptr _ _ _ _ _ _ _ h⟩
        simp only [execOp, heq, r', Sem.run_bind]
        rw [fieldAt_run hfd rfl h3 h4]
        rfl
      · rename_i cs hx
        split at hv
        · rename_i hlt
          simp only [Option.some.injEq] at hv; subst hv
          have r := okO_rel hg hf h1 hx
          cases r' : a.eval x' <;> rw [r'] at r <;> cases r
          rename_i r o' cv hF h
          refine ⟨.pointer (some ⟨r, o' + fd.offset, none⟩), ?_, .vptr _ _ _ (fun j => cv (fd.offset + j)) ?_ ?_⟩
          · simp only [execOp, heq, r', Sem.run_bind]
            rw [fieldAt_run hfd rfl h3 h4]
            rfl
          · intro j hj
            rw [Nat.add_assoc]
            exact hF _ (by simp at hj; omega)
          · intro j c hc
            exact h _ c (by simpa using hc)
        · cases hv
      · cases hv
    · cases h0
  · cases hok

theorem ps_iadA (hg : Glob gl S) (hf : FRel num S nt fr a) {o : Oper} {len e : Nat} {x i : O} (hok : okP num gl ixf P o.op (.iadA len e x i) = true) {v : V} (hv : stepP fr (.iadA len e x i) = some v) : PRes num S P a o v := by
  intro w
  simp only [stepP] at hv
  simp only [okP] at hok
  split at hok
  · rename_i t x' i' heq
    simp only [Bool.and_eq_true] at hok
    obtain ⟨⟨h0, h1⟩, h2⟩ := hok
    split at h0
    · rename_i n el hfd
      simp only [Bool.and_eq_true, beq_iff_eq] at h0
      obtain ⟨rfl, h3⟩ := h0
      have hu := arrOf_eq hfd
      split at hv
      · rename_i id j o' k m hx hi
        have e2 := (okO_rel hg hf h2 hi).int_inv
        split at hv
        · rename_i hm
          simp only [Option.some.injEq] at hv; subst hv
          have r := okO_rel hg hf h1 hx
          cases r' : a.eval x' <;> rw [r'] at r <;> cases r
          rename_i r b e1 z h
          refine ⟨.pointer (some ⟨r, b + j * e1 + o' + m.toNat * e, none⟩), ?_, by rw [Nat.add_assoc]; exact .ptr _ _ _ _ _ _ _ h⟩
          simp [execOp, heq, r', e2, Instr.indexAt, asIntOf, run_underlying hu, Instr.sureAddr, hm, run_sizeB h3, Addr.add_lit]
        · cases hv
      · cases hv
    · cases h0
  · cases hok

theorem ps_len (hg : Glob gl S) (hf : FRel num S nt fr a) {o : Oper} {k : Bool} {x : O} (hok : okP num gl ixf P o.op (.len k x) = true) {v : V} (hv : stepP fr (.len k x) = some v) : PRes num S P a o v := by
  intro w
  simp only [stepP] at hv
  simp only [okP] at hok
  split at hok
  · rename_i c heq
    simp only [Bool.and_eq_true] at hok
    obtain ⟨h0, h1⟩ := hok
    split at h0
    · rename_i hcal
      split at h1
      · rename_i x' t hargs htys
        simp only [Bool.and_eq_true] at h1
        obtain ⟨h1, h2⟩ := h1
        have ha : c.args = #[x'] := by rw [← Array.toArray_toList (xs := c.args), hargs]
        have ht : c.argTypes = #[t] := by rw [← Array.toArray_toList (xs := c.argTypes), htys]
        have base : ∀ n : Int, (Builtin.len_ #[t] o.type #[a.eval x']).run P w = .ok (goInt n) w → (execOp a.eval o).run P w = .ok (.value (.int .i64 n)) w := by
          intro n h
          simp only [execOp, heq, resolve, hcal, ha, ht, Sem.run_bind, Sem.run_pure, Result.andThen_ok, invoke, builtin]
          simp [h, goInt]
        split at hv
        · rename_i s hx
          simp only [Option.some.injEq] at hv; subst hv
          simp only [if_true] at h2
          obtain ⟨b, e, hb⟩ := (okO_rel hg hf h1 hx).str_inv
          refine ⟨_, base s.length ?_, .int _ _⟩
          rw [e, run_len_string w t _ b (isStrB_eq h2)]
          subst hb
          simp
        · rename_i f l hx
          simp only [Option.some.injEq] at hv; subst hv
          simp only [Bool.false_eq_true, if_false] at h2
          obtain ⟨el, hel⟩ := Option.isSome_iff_exists.1 h2
          have hu := sliceOf_eq hel
          have r := okO_rel hg hf h1 hx
          refine ⟨_, base l.length ?_, .int _ _⟩
          generalize a.eval x' = cc at r ⊢
          cases r with
          | sl0 => simp [Builtin.len_, run_underlying hu]
          | sl full l r o e cap n cv hn => subst hn; simp [Builtin.len_, run_underlying hu]
        · rename_i id lo n e cap hx
          simp only [Option.some.injEq] at hv; subst hv
          simp only [Bool.false_eq_true, if_false] at h2
          obtain ⟨el, hel⟩ := Option.isSome_iff_exists.1 h2
          have hu := sliceOf_eq hel
          have r := okO_rel hg hf h1 hx
          refine ⟨_, base n ?_, .int _ _⟩
          generalize a.eval x' = cc at r ⊢
          cases r
          simp [Builtin.len_, run_underlying hu]
        · cases hv
      · cases h1
    · cases h0
  · cases hok

theorem ps_mx (hg : Glob gl S) (hf : FRel num S nt fr a) {o : Oper} {xs : List O} (hok : okP num gl ixf P o.op (.mx xs) = true) {v : V} (hv : stepP fr (.mx xs) = some v) : PRes num S P a o v := by
  intro w
  simp only [stepP] at hv
  simp only [okP] at hok
  split at hok
  · rename_i c heq
    simp only [Bool.and_eq_true] at hok
    obtain ⟨h0, h1⟩ := hok
    split at h0
    · rename_i hcal
      split at hv
      · rename_i v0 l hx
        obtain ⟨d, ds, e, h2, h3⟩ := (okOs_rel hg hf h1 hx).head
        obtain ⟨r, h4, h5⟩ := foldv_mx (P := P) h2 h3 hv w
        refine ⟨r, ?_, h5⟩
        simp only [execOp, heq, resolve, hcal, Sem.run_bind, Sem.run_pure, Result.andThen_ok, invoke, builtin, Builtin.max_, Array.toList_map, e, h4]
      · cases hv
    · cases h0
  · cases hok

theorem ps_mn (hg : Glob gl S) (hf : FRel num S nt fr a) {o : Oper} {xs : List O} (hok : okP num gl ixf P o.op (.mn xs) = true) {v : V} (hv : stepP fr (.mn xs) = some v) : PRes num S P a o v := by
  intro w
  simp only [stepP] at hv
  simp only [okP] at hok
  split at hok
  · rename_i c heq
    simp only [Bool.and_eq_true] at hok
    obtain ⟨h0, h1⟩ := hok
    split at h0
    · rename_i hcal
      split at hv
      · rename_i v0 l hx
        obtain ⟨d, ds, e, h2, h3⟩ := (okOs_rel hg hf h1 hx).head
        obtain ⟨r, h4, h5⟩ := foldv_mn (P := P) h2 h3 hv w
        refine ⟨r, ?_, h5⟩
        simp only [execOp, heq, resolve, hcal, Sem.run_bind, Sem.run_pure, Result.andThen_ok, invoke, builtin, Builtin.min_, Array.toList_map, e, h4]
      · cases hv
    · cases h0
  · cases hok

theorem ps_ixb (hg : Glob gl S) (hf : FRel num S nt fr a) (hix : ∀ f, ixf = some f → ∀ args w, (callFunc f args).run P w = ((Extern.BytealgIndexByte.indexByte args).run P w).andThen fun v w' => .ok (.value v) w')
    {o : Oper} {x c : O} (hok : okP num gl ixf P o.op (.ixb x c) = true) {v : V} (hv : stepP fr (.ixb x c) = some v) : PRes num S P a o v := by
  intro w
  simp only [stepP] at hv
  simp only [okP] at hok
  split at hok
  · rename_i d heq
    simp only [Bool.and_eq_true] at hok
    obtain ⟨h0, h1⟩ := hok
    split at h0
    · rename_i f hcal
      simp only [beq_iff_eq] at h0
      split at h1
      · rename_i x' c' hargs
        simp only [Bool.and_eq_true] at h1
        have ha : d.args = #[x', c'] := by rw [← Array.toArray_toList (xs := d.args), hargs]
        split at hv
        · rename_i s n hx hc
          split at hv
          · rename_i hn
            simp only [Option.some.injEq] at hv; subst hv
            obtain ⟨b, e, hb⟩ := (okO_rel hg hf h1.1 hx).str_inv
            have e2 := (okO_rel hg hf h1.2 hc).int_inv
            have hc8 : (n.toNat.toUInt8.toNat : Int) = n := by
              have : n.toNat < 256 := by omega
              simp [Nat.toUInt8, UInt8.toNat_ofNat', Nat.mod_eq_of_lt this]; omega
            refine ⟨.int .i64 (firstIdx b n.toNat.toUInt8), ?_, ?_⟩
            · have := hix f h0 #[.string b, .int .u8 n] w
              rw [run_indexByte_string] at this
              simp only [execOp, heq, resolve, hcal, ha, Act.eval, Deferred.ofValue, Sem.run_bind, Sem.run_pure, Result.andThen_ok, invoke]
              simpa [e, e2] using this
            · rw [firstIdx_eq, hb, hc8]; exact .int _ _
          · cases hv
        · cases hv
      · cases h1
    · cases h0
  · cases hok

theorem ps_iad (hg : Glob gl S) (hf : FRel num S nt fr a) {o : Oper} {e : Nat} {x i : O} (hok : okP num gl ixf P o.op (.iad e x i) = true) {v : V} (hv : stepP fr (.iad e x i) = some v) : PRes num S P a o v := by
  intro w
  simp only [stepP] at hv
  simp only [okP] at hok
  split at hok
  · rename_i t x' i' heq
    simp only [Bool.and_eq_true] at hok
    obtain ⟨⟨h0, h1⟩, h2⟩ := hok
    split at h0
    · rename_i el hel
      have hu := sliceOf_eq hel
      split at hv
      · rename_i vx k m hx hi
        have e2 := (okO_rel hg hf h2 hi).int_inv
        have r := okO_rel hg hf h1 hx
        unfold iadv at hv
        split at hv
        · rename_i f l
          split at hv
          · rename_i hm
            split at hv
            · rename_i y hy
              split at hv
              · rename_i hye
                simp only [Option.some.injEq] at hv; subst hv
                have hlt : m.toNat < l.length := (List.getElem?_eq_some_iff.1 hy).1
                generalize hcx : a.eval x' = cc at r
                cases r with
                | sl0 => simp at hlt
                | sl full l r o' e' cap n cv hn hne hfc hcap he hc hF h =>
                  have hee : e' = e := by rw [← hc y (List.mem_of_getElem? hy)]; exact hye
                  subst hee
                  refine ⟨.pointer (some ⟨r, o' + m.toNat * e', none⟩), ?_, .vptr _ _ _ (fun j => cv (m.toNat * e' + j)) ?_ ?_⟩
                  · have hb : 0 ≤ m ∧ m < (n : Int) := ⟨hm, by omega⟩
                    simp [execOp, heq, hcx, e2, Instr.indexAt, asIntOf, run_underlying hu, hb, run_sizeB h0, Addr.add_lit]
                  · intro j hj
                    rw [Nat.add_assoc]
                    refine hF _ ?_
                    have : (m.toNat + 1) * e' ≤ n * e' := Nat.mul_le_mul_right _ (by omega)
                    rw [Nat.add_mul] at this
                    omega
                  · intro j c hcj
                    exact h m.toNat j y c hy hcj
              · cases hv
            · cases hv
          · cases hv
        · rename_i id lo n e' cap
          split at hv
          · rename_i hm
            simp only [Option.some.injEq] at hv; subst hv
            obtain ⟨hm1, hm2, rfl⟩ := hm
            generalize hcx : a.eval x' = cc at r
            cases r with
            | ref id lo len e cap r b z c h hl hcap hz =>
              refine ⟨.pointer (some ⟨r, b + lo * e' + m.toNat * e', none⟩), ?_, ?_⟩
              · have hb : 0 ≤ m ∧ m < (n : Int) := ⟨hm1, hm2⟩
                simp [execOp, heq, hcx, e2, Instr.indexAt, asIntOf, run_underlying hu, hb, run_sizeB h0, Addr.add_lit]
              · have := VRel.ptr (num := num) id (lo + m.toNat) 0 r b e' z h
                simpa [Nat.add_mul, Nat.add_assoc] using this
          · cases hv
        · cases hv
      · cases hv
    · cases h0
  · cases hok

theorem ps_slc (hg : Glob gl S) (hf : FRel num S nt fr a) {o : Oper} {e : Nat} {x : O} {lo hi : Option O} (hok : okP num gl ixf P o.op (.slc e x lo hi) = true) {v : V} (hv : stepP fr (.slc e x lo hi) = some v) : PRes num S P a o v := by
  intro w
  simp only [stepP] at hv
  simp only [okP] at hok
  split at hok
  · rename_i t x' lo' hi' mx heq
    simp only [Bool.and_eq_true] at hok
    obtain ⟨⟨⟨⟨h0, h1⟩, h2⟩, h3⟩, h4⟩ := hok
    have hmx : mx = none := by simpa using h0
    subst hmx
    split at hv
    · rename_i vx l u hx el eu
      have r := okO_rel hg hf h2 hx
      unfold slcv at hv
      split at hv
      · rename_i s
        simp only at hv
        split at hv
        · rename_i hb
          simp only [Option.some.injEq] at hv; subst hv
          obtain ⟨rfl, b0, b1, b2⟩ := hb
          simp only [if_true] at h1
          obtain ⟨b, eb, hb⟩ := r.str_inv
          have hsz : s.length = b.size := by rw [← hb]; simp
          have e1 := slice_bounds (P := P) hg hf h3 h4 el eu false b.size b.size b0 (by rw [hsz] at b1; exact b1) (by rw [hsz] at b2; exact b2) w
          refine ⟨.string (b.extract (l.getD 0).toNat (u.getD b.size).toNat), ?_, ?_⟩
          · simp only [execOp, heq, Option.map_none, Sem.run_bind, run_sliceAt_string w t _ _ _ _ (isStrB_eq h1), eb, Instr.slice, run_underlying (isStrB_eq h1), Result.andThen_ok, Option.isSome_none, Bool.false_eq_true, if_false, Sem.run_pure, e1]
          · have := slc_str (num := num) (S := S) s b hb (l.getD 0).toNat ((u.getD (s.length : Int)) - l.getD 0).toNat
            have ee : (l.getD 0).toNat + ((u.getD (s.length : Int)) - l.getD 0).toNat = (u.getD (b.size : Int)).toNat := by rw [← hsz]; omega
            rw [ee] at this
            exact this
        · cases hv
      · rename_i full es
        simp only at hv
        split at hv
        · rename_i hb
          simp only [Option.some.injEq] at hv; subst hv
          obtain ⟨b9, b0, b1, b2, b3⟩ := hb
          rw [if_neg (by omega)] at h1
          split at h1
          · rename_i elt helt
            have hu := sliceOf_eq helt
            have hul : P.elem t = elt := by simp [Program.elem, hu]
            have hu' : P.underlying t = some (.slice (P.elem t)) := by rw [hul]; exact hu
            generalize hcx : a.eval x' = cc at r
            have main : ∀ (ba : Option Addr) (n cap : Nat), cc = .slice ba n cap → n = es.length → n ≤ cap →
                (execOp a.eval o).run P w = .ok (.value (sliced ba (l.getD 0).toNat (u.getD (n : Int)).toNat cap e)) w := by
              intro ba n cap hc hn hnc
              have e1 := slice_bounds (P := P) hg hf h3 h4 el eu true n cap b0 (by rw [hn]; exact b1) (by rw [hn]; omega) w
              simp only [execOp, heq, Option.map_none, Sem.run_bind, run_sliceAt_slice w t _ _ _ _ hu', hcx, hc, run_slice_any w t _ _ _ hu', e1, Result.andThen_ok, hul, run_sizeB h1, Sem.run_pure]
            cases r with
            | sl0 full ba cap hcap =>
              have e1 : l.getD 0 = 0 ∧ u.getD ((([] : List V).length : Nat) : Int) = 0 := by simp at b1 b2 ⊢; omega
              refine ⟨_, main ba 0 cap rfl rfl (Nat.zero_le _), ?_⟩
              have e2 := e1.2
              simp only [List.length_nil] at e2
              simp only [sliced, e1.1, e2, List.length_nil, List.drop_nil, List.take_nil, Int.toNat_zero, Nat.sub_zero]
              exact .sl0 _ _ _ (fun hh => by simp at hh; exact hcap hh)
            | sl full l' r o' e' cap n cv hn hne hfc hcap he hc hF h =>
              have hee : e' = e := by
                cases es with
                | nil => exact absurd rfl hne
                | cons y ys => rw [← hc y (List.mem_cons_self ..)]; simpa [headB] using b3
              subst hee
              refine ⟨_, main (some ⟨r, o', none⟩) n cap rfl hn hcap, ?_⟩
              subst hn
              generalize hL : (l.getD 0).toNat = L
              generalize hU : (u.getD (es.length : Int)).toNat = U
              have hLU : L ≤ U := by omega
              have hUn : U ≤ es.length := by omega
              have hUL : (u.getD (es.length : Int) - l.getD 0).toNat = U - L := by omega
              have hdec : decide (u.getD (es.length : Int) = (es.length : Int)) = decide (U = es.length) := by
                apply decide_eq_decide.2; omega
              rw [hUL, hdec]
              by_cases hz : L = U
              · subst hz
                simp only [sliced, Nat.sub_self, List.take_zero]
                refine .sl0 _ _ _ (fun hh => ?_)
                simp at hh
                have := hfc hh.1
                omega
              · simp only [sliced]
                rw [if_neg (by omega)]
                simp only [Option.map_some, Addr.add_lit]
                have hlen : ((es.drop L).take (U - L)).length = U - L := by simp; omega
                refine .sl _ _ r (o' + L * e') e' (cap - L) (U - L) (fun k => cv (L * e' + k)) hlen.symm ?_ ?_ (by omega) he ?_ ?_ ?_
                · intro h0; rw [h0] at hlen; simp at hlen; omega
                · intro hh; simp at hh; have := hfc hh.1; omega
                · intro y hy; exact hc y (List.mem_of_mem_drop (List.mem_of_mem_take hy))
                · intro k hk
                  rw [Nat.add_assoc]
                  refine hF _ ?_
                  have h1 : (L + (U - L)) * e' ≤ es.length * e' := Nat.mul_le_mul_right _ (by omega)
                  rw [Nat.add_mul] at h1; omega
                · intro i j y c hy hcj
                  have hi : i < U - L := by have := (List.getElem?_eq_some_iff.1 hy).1; omega
                  have : es[L + i]? = some y := by
                    rw [List.getElem?_take, if_pos hi, List.getElem?_drop] at hy
                    exact hy
                  have := h (L + i) j y c this hcj
                  rw [Nat.add_mul, Nat.add_assoc] at this
                  exact this
          · cases h1
        · cases hv
      · rename_i id a0 n e' cap0
        simp only at hv
        split at hv
        · rename_i hb
          obtain ⟨b9, b0, b1, b2, rfl⟩ := hb
          rw [if_neg (by omega)] at h1
          split at h1
          · rename_i elt helt
            have hu := sliceOf_eq helt
            have hul : P.elem t = elt := by simp [Program.elem, hu]
            have hu' : P.underlying t = some (.slice (P.elem t)) := by rw [hul]; exact hu
            generalize hcx : a.eval x' = cc at r
            cases r with
            | ref id lo0 len e cap r b z c h hl hcap hz =>
              have e1 := slice_bounds (P := P) hg hf h3 h4 el eu true n c b0 b1 (by omega) w
              have main : (execOp a.eval o).run P w = .ok (.value (sliced (some ⟨r, b + a0 * e', none⟩) (l.getD 0).toNat (u.getD (n : Int)).toNat c e')) w := by
                simp only [execOp, heq, Option.map_none, Sem.run_bind, run_sliceAt_slice w t _ _ _ _ hu', hcx, run_slice_any w t _ _ _ hu', e1, Result.andThen_ok, hul, run_sizeB h1, Sem.run_pure]
              refine ⟨_, main, ?_⟩
              generalize hL : (l.getD 0).toNat = L at *
              generalize hU : (u.getD (n : Int)).toNat = U at *
              have hLU : L ≤ U := by omega
              have hUn : U ≤ n := by omega
              have hUL : (u.getD (n : Int) - l.getD 0).toNat = U - L := by omega
              split at hv
              · rename_i hz
                simp only [Option.some.injEq] at hv; subst hv
                have : U - L = 0 := by omega
                simp only [sliced, this]
                exact .sl0 _ _ _ (fun hh => by cases hh)
              · rename_i hz0
                simp only [Option.some.injEq] at hv; subst hv
                rw [hUL]
                have ha : (if c = L then some (⟨r, b + a0 * e', none⟩ : Addr) else (some (⟨r, b + a0 * e', none⟩ : Addr)).map (·.add (L * e'))) = some ⟨r, b + (a0 + L) * e', none⟩ := by
                  split
                  · rename_i hcL
                    have : L = 0 := by omega
                    subst this; simp
                  · simp only [Option.map_some, Addr.add_lit, Nat.add_mul, Nat.add_assoc]
                simp only [sliced, ha]
                refine .ref id (a0 + L) (U - L) e' _ r b z (c - L) h (by omega) ?_ ?_
                · intro k hk
                  simp only [Option.map_eq_some_iff] at hk
                  obtain ⟨k', hk', rfl⟩ := hk
                  rw [hcap k' hk']
                · have : a0 + L + (c - L) = a0 + c := by omega
                  rw [this]; exact hz
          · cases h1
        · cases hv
      · cases hv
    · cases hv
  · cases hok

end
end Go.Proofs.Ytakahhnlbciicaa.Ai

namespace Go.Proofs.Ytakahhnlbciicaa.Ai
open Go Go.RowKit

theorem get_splice {α : Type} (cs xs : List α) (off n i : Nat) (hx : xs.length = n) (hf : off + n ≤ cs.length) :
    (cs.take off ++ xs ++ cs.drop (off + n))[i]? = if off ≤ i ∧ i < off + n then xs[i - off]? else cs[i]? := by
  by_cases h1 : i < off
  · rw [if_neg (by omega), List.append_assoc, List.getElem?_append_left (by simp; omega), List.getElem?_take, if_pos h1]
  · by_cases h2 : i < off + n
    · rw [if_pos ⟨by omega, h2⟩, List.append_assoc, List.getElem?_append_right (by simp; omega), List.getElem?_append_left (by simp; omega)]
      congr 1
      simp; omega
    · rw [if_neg (by omega), List.getElem?_append_right (by simp; omega), List.getElem?_drop]
      congr 1
      simp; omega

theorem fold_set (off : Nat) : ∀ (vs : List Value) (k : Nat) (cs : Array Value), off + k + vs.length ≤ cs.size →
    ((vs.zipIdx k).foldl (fun cs (x : Value × Nat) => cs.setIfInBounds (off + x.2) x.1) cs).size = cs.size ∧
    ∀ i, ((vs.zipIdx k).foldl (fun cs (x : Value × Nat) => cs.setIfInBounds (off + x.2) x.1) cs)[i]? = if off + k ≤ i ∧ i < off + k + vs.length then vs[i - (off + k)]? else cs[i]?
  | [], k, cs, _ => ⟨rfl, fun i => by simp; intro h1 h2; omega⟩
  | v :: vs, k, cs, h => by
    simp only [List.length_cons] at h
    obtain ⟨h1, h2⟩ := fold_set off vs (k + 1) (cs.setIfInBounds (off + k) v) (by simp; omega)
    simp only [List.zipIdx_cons, List.foldl_cons]
    refine ⟨by rw [h1]; simp, fun i => ?_⟩
    rw [h2 i]
    simp only [List.length_cons]
    by_cases e : i = off + k
    · subst e
      rw [if_neg (by omega), if_pos (by omega)]
      simp [show off + k < cs.size by omega]
    · by_cases h3 : off + k + 1 ≤ i ∧ i < off + k + 1 + vs.length
      · rw [if_pos (by omega), if_pos (by omega)]
        have : i - (off + k) = (i - (off + (k + 1))) + 1 := by omega
        rw [this, List.getElem?_cons_succ]
      · rw [if_neg (by omega), if_neg (by omega), Array.getElem?_setIfInBounds_ne (by omega)]

section
variable {num : Nat → Nat} {gl : List Nat} {S : Env} {nt : Nat} {fr : Fr} {a : Act} {P : Program} {ixf : Option Nat}

theorem VRels.splice {cs xs : List V} {zs : Array Value} {v : Value} {off n : Nat} (h : VRels num S cs zs.toList) (k : VRels num S xs v.cells.toList) (hn : xs.length = n) (hf : off + n ≤ cs.length) :
    VRels num S (cs.take off ++ xs ++ cs.drop (off + n)) (v.cells.zipIdx.foldl (fun cs (c, j) => cs.setIfInBounds (off + j) c) zs).toList := by
  have hvl : v.cells.toList.length = n := by rw [← k.1, hn]
  have hzl : zs.size = cs.length := by have := h.1; simpa using this.symm
  have e : (v.cells.zipIdx.foldl (fun cs (c, j) => cs.setIfInBounds (off + j) c) zs) = (v.cells.toList.zipIdx.foldl (fun cs (x : Value × Nat) => cs.setIfInBounds (off + x.2) x.1) zs) := by
    rw [← Array.foldl_toList, Array.toList_zipIdx]
  rw [e]
  obtain ⟨h1, h2⟩ := fold_set off v.cells.toList 0 zs (by omega)
  refine ⟨by simp only [List.length_append, List.length_take, List.length_drop, Array.length_toList, h1, hn]; omega, fun i c x hc hx => ?_⟩
  rw [get_splice cs xs off n i hn hf] at hc
  rw [Array.getElem?_toList, h2 i, hvl] at hx
  simp only [Nat.add_zero] at hx
  split at hc
  · rename_i hi; rw [if_pos hi] at hx; exact k.2 _ c x hc hx
  · rename_i hi; rw [if_neg hi] at hx; exact h.2 i c x hc (by simpa using hx)

theorem fill_run (hg : Glob gl S) (hf : FRel num S nt fr a) {t : Nat} {place : Nat → Option (Nat × Nat)} (hp : ∀ i off n, placeB P t i off n = true → place i = some (off, n)) :
    ∀ (ps' : List (Nat × Operand)) (ps : List (Nat × Nat × O)) (l : List (Nat × Nat × V)) (z cs : List V) (zs : Array Value),
      partsB num gl P t ps' ps = true → trips fr ps = some l → fill z l = some cs → VRels num S z zs.toList →
      ∃ cz, Instr.fill place zs (ps'.map fun (i, x) => (i, a.eval x)) = some cz ∧ VRels num S cs cz.toList
  | [], ps, l, z, cs, zs, h1, h2, h3, h4 => by
    cases ps <;> simp [partsB] at h1
    simp [trips] at h2
    subst h2
    simp [fill] at h3
    subst h3
    exact ⟨zs, rfl, h4⟩
  | (i, x) :: ps', ps, l, z, cs, zs, h1, h2, h3, h4 => by
    cases ps with
    | nil => simp [partsB] at h1
    | cons p ps =>
      obtain ⟨off, n, y⟩ := p
      simp only [partsB, Bool.and_eq_true] at h1
      obtain ⟨⟨h5, h6⟩, h7⟩ := h1
      simp only [trips] at h2
      cases hy : y.ev fr with
      | none => rw [hy] at h2; simp at h2
      | some v => cases ht : trips fr ps with
        | none => rw [hy, ht] at h2; simp at h2
        | some m =>
          rw [hy, ht] at h2
          simp only [Option.some.injEq] at h2; subst h2
          simp only [fill] at h3
          split at h3
          · rename_i hfit
            have r := okO_rel hg hf h6 hy
            have rc := r.cells
            have hsz : (a.eval x).cells.size = n := by have := rc.1; simp at this; omega
            have hz : zs.size = z.length := by have := h4.1; simpa using this.symm
            obtain ⟨cz, k1, k2⟩ := fill_run hg hf hp ps' ps m _ cs _ h7 ht h3 (h4.splice rc hfit.1 hfit.2)
            refine ⟨cz, ?_, k2⟩
            simp only [List.map_cons, Instr.fill, hp i off n h5]
            rw [if_neg (by simp [hsz]; omega)]
            exact k1
          · cases h3

theorem zeroB_run {t : Nat} {z : V} (h : zeroB P t z = true) : ∃ c, (∀ w, (zeroValue t).run P w = .ok c w) ∧ (∀ (num : Nat → Nat) (S : Env), VRel num S z c) ∧ ∃ i, P.info? t = some i ∧ i.zero = some c := by
  unfold zeroB at h
  split at h
  · rename_i i hi
    split at h
    · rename_i c hc
      exact ⟨c, fun w => by simp [zeroValue, typeInfo, hi, hc], fun num S => okV_rel z c h, i, hi, hc⟩
    · cases h
  · cases h

theorem mapM_places (fs : List Field) (P : Program) (w : World) (h : ∀ f, f ∈ fs → (P.info? f.type).isSome = true) :
    ∃ l : List (Nat × Nat), (fs.mapM fun (f : Field) => do pure (f.offset, ← sizeOf f.type) : Sem (List (Nat × Nat))).run P w = .ok l w ∧
      ∀ (i : Nat) (f : Field) (n : Nat), fs[i]? = some f → sizeB P f.type n = true → l[i]? = some (f.offset, n) := by
  induction fs with
  | nil => exact ⟨[], by simp, fun i f n h => by simp at h⟩
  | cons f fs ih =>
    obtain ⟨l, h1, h2⟩ := ih (fun g hg => h g (List.mem_cons_of_mem _ hg))
    obtain ⟨i, hi⟩ := Option.isSome_iff_exists.1 (h f (List.mem_cons_self ..))
    refine ⟨(f.offset, i.size) :: l, ?_, fun j g n hj hs => ?_⟩
    · rw [List.mapM_cons]
      simp only [Sem.run_bind, sizeOf, typeInfo, hi, Sem.run_pure, run_program, Result.andThen_ok] at h1 ⊢
      rw [h1]; rfl
    · cases j with
      | zero =>
        simp at hj; subst hj
        unfold sizeB at hs; rw [hi] at hs
        simp at hs; subst hs; rfl
      | succ j => simp at hj ⊢; exact h2 j g n hj hs

theorem ps_build (hg : Glob gl S) (hf : FRel num S nt fr a) {o : Oper} {z : List V} {ps : List (Nat × Nat × O)} (hok : okP num gl ixf P o.op (.build z ps) = true) {v : V} (hv : stepP fr (.build z ps) = some v) :
    PRes num S P a o v := by
  intro w
  simp only [stepP] at hv
  simp only [okP] at hok
  split at hok
  · rename_i t ps' heq
    simp only [Bool.and_eq_true] at hok
    obtain ⟨⟨h0, h9⟩, h1⟩ := hok
    obtain ⟨c, k1, k2, -⟩ := zeroB_run h0
    split at hv
    · rename_i l hl
      simp only [Option.map_eq_some_iff] at hv
      obtain ⟨cs, hcs, rfl⟩ := hv
      have hz : VRels num S z c.cells.toList := (k2 num S).cells
      have hparts : (ps'.map fun (x : Nat × Operand) => (x.1, a.eval x.2)).toList = ps'.toList.map fun (i, x) => (i, a.eval x) := by simp
      unfold infoB at h9
      cases hu : P.underlying t with
      | none => rw [hu] at h9; cases h9
      | some d =>
        rw [hu] at h9
        cases d <;> simp only at h9 <;> try (cases h9; done)
        · rename_i n el
          obtain ⟨i, hi⟩ := Option.isSome_iff_exists.1 h9
          have hp : ∀ j off m, placeB P t j off m = true → (fun j => some (j * i.size, i.size)) j = some (off, m) := by
            intro j off m hpl
            simp only [placeB, hu, sizeB, hi, Bool.and_eq_true, beq_iff_eq] at hpl
            obtain ⟨rfl, rfl⟩ := hpl
            rfl
          obtain ⟨cz, m1, m2⟩ := fill_run hg hf hp _ _ _ _ _ _ h1 hl hcs hz
          refine ⟨.agg cz, ?_, .agg cs cz (by simpa using m2.1) (fun i c v hc hv => m2.2 i c v hc (by simpa using hv))⟩
          simp only [execOp, heq, Instr.build, Sem.run_bind, k1, Result.andThen_ok, run_underlying hu, sizeOf, typeInfo, hi, Sem.run_pure, run_program, hparts, m1]
        · rename_i fs
          obtain ⟨pl, q1, q2⟩ := mapM_places fs.toList P w (fun f hf => List.all_eq_true.1 h9 f hf)
          have hp : ∀ j off m, placeB P t j off m = true → (fun j => pl.toArray[j]?) j = some (off, m) := by
            intro j off m hpl
            simp only [placeB, hu] at hpl
            split at hpl
            · rename_i f hfj
              simp only [Bool.and_eq_true, beq_iff_eq] at hpl
              obtain ⟨rfl, h8⟩ := hpl
              simpa using q2 j f m (by simpa using hfj) h8
            · cases hpl
          obtain ⟨cz, m1, m2⟩ := fill_run hg hf hp _ _ _ _ _ _ h1 hl hcs hz
          refine ⟨.agg cz, ?_, .agg cs cz (by simpa using m2.1) (fun i c v hc hv => m2.2 i c v hc (by simpa using hv))⟩
          have hm : (fs.mapM fun (f : Field) => do pure (f.offset, ← sizeOf f.type) : Sem (Array (Nat × Nat))).run P w = .ok pl.toArray w := by
            rw [Array.mapM_eq_mapM_toList]
            simp only [Sem.run_map, q1, Result.andThen_ok]
          simp only [execOp, heq, Instr.build, Sem.run_bind, k1, Result.andThen_ok, run_underlying hu, hm, hparts, m1, Sem.run_pure]
    · cases hv
  · cases hok

/-- What is to be shown of a pure operation, over a record of what `internal/bytealg` holds. -/
theorem pure_sound (hg : Glob gl S) (hf : FRel num S nt fr a) (hix : ∀ f, ixf = some f → ∀ args w, (callFunc f args).run P w = ((Extern.BytealgIndexByte.indexByte args).run P w).andThen fun v w' => .ok (.value v) w')
    {o : Oper} {i : I} (hb : ∀ e z n ps, i ≠ .bslF e z n ps) (hok : okP num gl ixf P o.op i = true) {v : V} (hv : stepP fr i = some v) : PRes num S P a o v := by
  cases i
  case mv => exact ps_mv hg hf hok hv
  case pick => exact ps_pick hg hf hok hv
  case nck => exact ps_nck hg hf hok hv
  case bin => exact ps_bin hg hf hok hv
  case eqv => exact ps_eqv hg hf hok hv
  case isnil => exact ps_isnil hg hf hok hv
  case un => exact ps_un hg hf hok hv
  case cvt => exact ps_cvt hg hf hok hv
  case cvS => exact ps_cvS hg hf hok hv
  case mkf => exact ps_mkf hg hf hok hv
  case ext => exact ps_ext hg hf hok hv
  case idx => exact ps_idx hg hf hok hv
  case mkI => exact ps_mkI hg hf hok hv
  case fld => exact ps_fld hg hf hok hv
  case idxA => exact ps_idxA hg hf hok hv
  case fad => exact ps_fad hg hf hok hv
  case iadA => exact ps_iadA hg hf hok hv
  case iad => exact ps_iad hg hf hok hv
  case len => exact ps_len hg hf hok hv
  case mx => exact ps_mx hg hf hok hv
  case mn => exact ps_mn hg hf hok hv
  case ixb => exact ps_ixb hg hf hix hok hv
  case slc => exact ps_slc hg hf hok hv
  case build => exact ps_build hg hf hok hv
  case bslF => exact absurd rfl (hb _ _ _ _)
  all_goals (simp [stepP] at hv)

end
end Go.Proofs.Ytakahhnlbciicaa.Ai
end
