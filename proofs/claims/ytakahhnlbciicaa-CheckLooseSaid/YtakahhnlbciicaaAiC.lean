/-
  Operations that read, write or make memory. By an AI agent; no person has read it.
-/
import Derived.Test.YtakahhnlbciicaaAiB
import Derived.Laws.Cells
import Derived.Laws.Append
import Derived.Laws.RangeString
import Derived.Laws.AppendOwn
noncomputable section
namespace Go.Proofs.Ytakahhnlbciicaa.Ai
open Go Go.RowKit

section
variable {num : Nat → Nat} {gl : List Nat} {S : Env} {nt : Nat} {fr : Fr} {a : Act} {P : Program} {w0 w : World} {h : H}

theorem cellAt_eq {es : List V} {i j : Nat} {x : V} (h : es[i]? = some x) : cellAt es i j = x.cells[j]? := by simp [cellAt, h]

theorem cut_spec {cs l : List V} {off n : Nat} (h : cut cs off n = some l) : l.length = n ∧ off + n ≤ cs.length ∧ ∀ j, j < n → l[j]? = cs[off + j]? := by
  unfold cut at h
  split at h
  · rename_i hf
    simp only [Option.some.injEq] at h; subst h
    exact ⟨by simp; omega, hf, fun j hj => by simp [hj]⟩
  · cases h

/-- What a load reads. -/
theorem ldv_cells (s : Sim num w0 S h w) {n : Nat} {ag : Bool} {p v : V} (hl : ldv h n ag p = some v) {c : Value} (r : VRel num S p c) :
    ∃ (l : List V) (b o : Nat) (f : Nat → Value), c = .pointer (some ⟨b, o, none⟩) ∧ l.length = n ∧ mk ag l = some v ∧ (∀ j, j < n → w.cell? ⟨b, o + j, none⟩ = some (f j)) ∧
      ∀ (j : Nat) (x : V), l[j]? = some x → VRel num S x (f j) := by
  cases p <;> simp only [ldv] at hl <;> try (cases hl; done)
  · rename_i id i off
    split at hl
    · rename_i es esz k hg
      split at hl
      · rename_i e he
        split at hl
        · rename_i l hc
          obtain ⟨c1, c2, c3⟩ := cut_spec hc
          cases r with
          | ptr id i off r b e' z hb =>
            obtain ⟨r2, b2, z2, h1, h2⟩ := s.row id es esz k hg
            rw [hb] at h1; cases h1
            obtain ⟨cs, el, fz, d1, d2, d3, d4, d5⟩ := h2.blk
            refine ⟨l, r, b + i * esz + off, fun j => cs.getD (b + i * esz + off + j) undef, rfl, c1, hl, fun j hj => ?_, fun j x hx => ?_⟩
            · have hlt : off + j < e.cells.length := by omega
              obtain ⟨u, hu, _⟩ := d4 i (off + j) e.cells[off + j] (by rw [cellAt_eq he]; exact List.getElem?_eq_getElem hlt)
              rw [cell?_eq d1]
              rw [← Nat.add_assoc] at hu
              simp [hu]
            · have hj : j < n := by have := (List.getElem?_eq_some_iff.1 hx).1; omega
              rw [c3 j hj] at hx
              obtain ⟨u, hu, hr⟩ := d4 i (off + j) x (by rw [cellAt_eq he]; exact hx)
              rw [← Nat.add_assoc] at hu
              simpa [hu] using hr
        · cases hl
      · cases hl
    · cases hl
  · rename_i cs
    split at hl
    · rename_i l hc
      obtain ⟨c1, c2, c3⟩ := cut_spec hc
      cases r with
      | vptr cs r o cv hF hr =>
        refine ⟨l, r, o, cv, rfl, c1, hl, fun j hj => s.frz _ _ _ (hF j (by omega)), fun j x hx => ?_⟩
        have hj : j < n := by have := (List.getElem?_eq_some_iff.1 hx).1; omega
        rw [c3 j hj, Nat.zero_add] at hx
        exact hr j x hx
    · cases hl

theorem ld_run (s : Sim num w0 S h w) {n : Nat} {ag : Bool} {p v : V} (hl : ldv h n ag p = some v) {c : Value} (r : VRel num S p c) {t : Nat} (h1 : sizeB P t n = true) (h2 : aggB P t ag = true) :
    ∃ d, (Instr.loadAt t c).run P w = .ok d w ∧ VRel num S v d := by
  obtain ⟨l, b, o, f, rfl, e1, e2, e3, e4⟩ := ldv_cells s hl r
  have hcells := run_loadCells (P := P) w ⟨b, o, none⟩ n f (fun j hj => by rw [Addr.add_lit]; exact e3 j hj)
  unfold mk at e2
  cases ag
  · simp only [Bool.false_eq_true, if_false] at e2
    split at e2
    · rename_i x
      simp only [Option.some.injEq] at e2; subst e2
      simp at e1
      have h0 := e3 0 (by omega)
      refine ⟨f 0, ?_, e4 0 x rfl⟩
      simp only [Instr.loadAt, Instr.sureAddr, loadVar, Sem.run_bind, Sem.run_pure, Result.andThen_ok, run_aggB h2, Bool.false_eq_true, if_false, run_load]
      simp only [Nat.add_zero] at h0
      rw [h0]
    · cases e2
  · simp only [if_true, Option.some.injEq] at e2; subst e2
    refine ⟨.agg ((List.range n).map f).toArray, ?_, .agg _ _ (by simp [e1]) (fun i x y hx hy => ?_)⟩
    · simp only [Instr.loadAt, Instr.sureAddr, loadVar, Sem.run_bind, Sem.run_pure, Result.andThen_ok, run_aggB h2, if_true, run_sizeB h1, hcells]
    · have hi : i < n := by have := (List.getElem?_eq_some_iff.1 hx).1; omega
      simp [hi] at hy
      subst hy
      exact e4 i x hx

theorem one_rel {v : V} {c : Value} (r : VRel num S v c) (h : one v = true) : c.oneCell' = true := by
  cases r <;> first | rfl | (simp [one] at h; done)

theorem setCell_block {w : World} {r o : Nat} {v : Value} {cs : Array Value} {el : TypeId} {fz : Nat × Nat} (he : w.heap[r]? = some (.cells cs el fz)) :
    (w.setCell ⟨r, o, none⟩ v).heap[r]? = some (.cells (cs.setIfInBounds o v) el fz) := by
  simp only [World.setCell, Array.getElem?_modify, he]
  simp

/-- Cells are written one by one. -/
theorem storeCells_run (r o : Nat) (el : TypeId) (fz : Nat × Nat) (z : Nat) (hfz : FzOk fz z) : ∀ (vs : List Value) (i : Nat) (w : World) (cs : Array Value), w.heap[r]? = some (.cells cs el fz) → cs.size = z → o + i + vs.length ≤ cs.size → (∀ v, v ∈ vs → v.oneCell' = true) →
    ∃ w' cs', (storeCells ⟨r, o, none⟩ vs i).run P w = .ok () w' ∧ Wrote w w' r (o + i) (o + i + vs.length) ∧ w'.heap[r]? = some (.cells cs' el fz) ∧ cs'.size = cs.size ∧
      ∀ k, cs'[k]? = if o + i ≤ k ∧ k < o + i + vs.length then vs[k - (o + i)]? else cs[k]?
  | [], i, w, cs, he, hz, hf, _ => ⟨w, cs, rfl, Wrote.refl _ _ _ _, he, rfl, fun k => by rw [if_neg (by simp only [List.length_nil]; omega)]⟩
  | v :: vs, i, w, cs, he, hz, hf, ho => by
    simp only [List.length_cons] at hf
    have hlt : o + i < cs.size := by omega
    have h1 : w.cell? ⟨r, o + i, none⟩ = some cs[o + i] := by rw [cell?_eq he]; exact Array.getElem?_eq_getElem hlt
    have h2 : w.frozen? ⟨r, o + i, none⟩ = false := by
      have := hfz (o + i) (by omega)
      simp [World.frozen?, he]; omega
    obtain ⟨w', cs', k1, k2, k3, k4, k5⟩ := storeCells_run r o el fz z hfz vs (i + 1) (w.setCell ⟨r, o + i, none⟩ v) (cs.setIfInBounds (o + i) v) (setCell_block he) (by simp; exact hz) (by simp; omega) (fun x hx => ho x (List.mem_cons_of_mem _ hx))
    refine ⟨w', cs', ?_, ?_, k3, by rw [k4]; simp, fun k => ?_⟩
    · simp only [storeCells, Sem.run_bind, Addr.add_lit, run_store P w _ v .plain (ho v (List.mem_cons_self ..)), h1, h2, Bool.false_eq_true, if_false, Result.andThen_ok]
      exact k1
    · simp only [List.length_cons]
      exact ((Wrote.setCell w r (o + i) v).mono (Nat.le_refl _) (by omega)).trans (k2.mono (by omega) (by omega))
    · rw [k5 k]
      simp only [List.length_cons]
      by_cases e : k = o + i
      · subst e
        rw [if_neg (by omega), if_pos (by omega)]
        simp [hlt]
      · by_cases h3 : o + (i + 1) ≤ k ∧ k < o + (i + 1) + vs.length
        · rw [if_pos (by omega), if_pos (by omega)]
          have : k - (o + i) = (k - (o + (i + 1))) + 1 := by omega
          rw [this, List.getElem?_cons_succ]
        · rw [if_neg (by omega), if_neg (by omega), Array.getElem?_setIfInBounds_ne (by omega)]


theorem one_cells {x : V} (h : one x = true) : x.cells = [x] := by cases x <;> first | rfl | (simp [one] at h; done)
theorem splice_spec {e e' : V} {off n : Nat} {xs : List V} (h : splice e off xs = some e') (hn : xs.length = n) (ho : xs.all one = true) :
    off + n ≤ e.cells.length ∧ e'.cells.length = e.cells.length ∧ ∀ j, e'.cells[j]? = if off ≤ j ∧ j < off + n then xs[j - off]? else e.cells[j]? := by
  subst hn
  have other : e.cells.length = 1 → (if off = 0 ∧ xs.length = 1 then xs[0]? else none) = some e' →
      off + xs.length ≤ e.cells.length ∧ e'.cells.length = e.cells.length ∧ ∀ j, e'.cells[j]? = if off ≤ j ∧ j < off + xs.length then xs[j - off]? else e.cells[j]? := by
    intro h1 h2
    split at h2
    · rename_i hx
      obtain ⟨rfl, hx⟩ := hx
      have h3 : xs = [e'] := by
        cases xs with
        | nil => cases hx
        | cons y l =>
          simp at hx h2
          rw [hx, h2]
      subst h3
      rw [one_cells (x := e') (by simpa using ho)]
      refine ⟨by simp; omega, by simp [h1], fun j => ?_⟩
      cases j with
      | zero => simp
      | succ j => simp; omega
    · cases h2
  cases e
  case agg cs =>
    simp only [splice] at h
    split at h
    · rename_i hf
      simp only [Option.some.injEq] at h; subst h
      refine ⟨hf, by simp only [V.cells, List.length_append, List.length_take, List.length_drop]; omega, fun j => ?_⟩
      exact get_splice cs xs off xs.length j rfl hf
    · cases h
  all_goals exact other rfl h

/-- What a store does. -/
theorem stv_sound (s : Sim num w0 S h w) {n : Nat} {p x : V} {h' : H} (hs : stv h n p x = some h') {c d : Value} (r : VRel num S p c) (q : VRel num S x d) {t : Nat} (ht : sizeB P t n = true) :
    ∃ w', (Instr.storeAt t c d).run P w = .ok () w' ∧ Sim num w0 S h' w' := by
  cases p <;> simp only [stv] at hs <;> try (cases hs; done)
  rename_i id i off
  split at hs
  · rename_i es esz k hg
    split at hs
    · cases hs
    · rename_i hk
      split at hs
      · rename_i e he
        split at hs
        · rename_i hx
          obtain ⟨hx1, hx2⟩ := hx
          split at hs
          · rename_i e' hsp
            simp only [Option.some.injEq] at hs; subst hs
            cases r with
            | ptr id i off r b e0 z hb =>
              obtain ⟨r2, b2, z2, h1, h2⟩ := s.row id es esz k hg
              rw [hb] at h1; cases h1
              obtain ⟨cs, el, fz, d1, d2, d3, d4, d5⟩ := h2.blk
              have qc := q.cells
              have hlen : d.cells.toList.length = n := by rw [← qc.1, hx1]
              have hil : i < es.length := (List.getElem?_eq_some_iff.1 he).1
              have hel : e.cells.length = esz := h2.len i e he
              obtain ⟨p1, p2, p3⟩ := splice_spec hsp hx1 hx2
              have hfit1 : (i + 1) * esz ≤ es.length * esz := Nat.mul_le_mul_right _ hil
              rw [Nat.add_mul, Nat.one_mul] at hfit1
              have hfit := h2.fits
              have hone : ∀ v, v ∈ d.cells.toList → v.oneCell' = true := by
                intro v hv
                obtain ⟨j, hj, rfl⟩ := List.mem_iff_getElem.1 hv
                have hj' : j < x.cells.length := by rw [qc.1]; exact hj
                exact one_rel (qc.2 j x.cells[j] d.cells.toList[j] (List.getElem?_eq_getElem hj') (List.getElem?_eq_getElem hj)) (List.all_eq_true.1 hx2 _ (List.getElem_mem hj'))
              obtain ⟨w', cs', k1, k2, k3, k4, k5⟩ := storeCells_run (P := P) r (b + i * esz + off) el fz z (d3 hk) d.cells.toList 0 w cs d1 d2 (by omega) hone
              have hhi : b + es.length * esz ≤ k.hi b esz es.length z := by
                unfold Kind.hi; split
                · exact h2.fits
                · exact Nat.le_refl _
              have rm := s.room hg hk hb
              have s1 := s.kill (id := id) (by rw [hg]; rfl)
              obtain ⟨s2, rm2⟩ := s1.write rm (k2.mono (by omega) (by omega))
              refine ⟨w', ?_, ?_⟩
              · simp only [Instr.storeAt, Instr.sureAddr, storeVar, Sem.run_bind, Sem.run_pure, Result.andThen_ok, run_sizeB ht]
                have : d.cells.size = n := by simpa using hlen
                simp only [this, ne_eq, not_true_eq_false, if_false]
                exact k1
              · have hx0 : id < (h.set id .dead).nx * 256 := by
                  rw [H.nx_set]
                  exact Nat.lt_of_not_le fun hle => by rw [s.fresh id hle] at hg; cases hg
                have hsl : (es.set i e').length = es.length := by simp
                have res := s2.claim (nid := id) (es := es.set i e') (e := esz) (k := k) (T := S) rm2 (.inr (by rw [H.get_set, if_pos rfl])) hx0 hk h2.pos (fun j y hj => by
                  by_cases hji : j = i
                  · subst hji
                    rw [List.getElem?_set_self hil] at hj
                    cases hj
                    rw [p2]; exact hel
                  · rw [List.getElem?_set_ne (Ne.symm hji)] at hj; exact h2.len j y hj) (Env.le_refl _) rfl hb (fun _ _ => rfl) (by rw [hsl]; exact Nat.le_refl _) (by rw [hsl]; omega) k3 (fun j m y hy => ?_)
                · exact res.heq ⟨rfl, fun m => by simp only [H.get_set]; split <;> rfl⟩
                · rw [k5, hlen]
                  simp only [Nat.add_zero]
                  by_cases hji : j = i
                  · subst hji
                    rw [cellAt_eq (List.getElem?_set_self hil), p3] at hy
                    split at hy
                    · rename_i hm
                      rw [if_pos (by omega)]
                      have hml : m - off < d.cells.toList.length := by omega
                      refine ⟨d.cells.toList[m - off], ?_, qc.2 (m - off) y _ hy (List.getElem?_eq_getElem hml)⟩
                      rw [show b + j * esz + m - (b + j * esz + off) = m - off by omega]
                      exact List.getElem?_eq_getElem hml
                    · rename_i hm
                      rw [if_neg (by omega)]
                      exact d4 j m y (by rw [cellAt_eq he]; exact hy)
                  · have hy' : cellAt es j m = some y := by
                      unfold cellAt at hy ⊢
                      rwa [List.getElem?_set_ne (Ne.symm hji)] at hy
                    rw [if_neg]
                    · exact d4 j m y hy'
                    · have hml : m < esz := by
                        unfold cellAt at hy'
                        cases hq : es[j]? with
                        | none => rw [hq] at hy'; cases hy'
                        | some y' =>
                          rw [hq] at hy'
                          rw [← h2.len j y' hq]; exact (List.getElem?_eq_some_iff.1 hy').1
                      rcases Nat.lt_or_gt_of_ne hji with hlt | hgt
                      · have : (j + 1) * esz ≤ i * esz := Nat.mul_le_mul_right _ hlt
                        rw [Nat.add_mul] at this; omega
                      · have : (i + 1) * esz ≤ j * esz := Nat.mul_le_mul_right _ hgt
                        rw [Nat.add_mul] at this; omega
          · cases hs
        · cases hs
      · cases hs
  · cases hs

end
end Go.Proofs.Ytakahhnlbciicaa.Ai

namespace Go.Proofs.Ytakahhnlbciicaa.Ai
open Go Go.RowKit

section
variable {num : Nat → Nat} {gl : List Nat} {S : Env} {nt : Nat} {fr : Fr} {a : Act} {P : Program} {w0 w : World} {h : H}

/-- A new iterator in a new block. -/
theorem Sim.allocIter (s : Sim num w0 S h w) {nid : Nat} (hn : h.get nid = none) (hx : nid < h.nx * 256) (l : List Nat) (b : ByteArray) (hb : b.data.toList.map UInt8.toNat = l) :
    S.le (S.add nid (w.heap.size, 0, 0, 0)) ∧ Sim num w0 (S.add nid (w.heap.size, 0, 0, 0)) (h.set nid (.iter l 0)) (w.alloc (.stringIter b 0)) := by
  have hbn : S.β nid = none := by
    have := s.dom nid
    rw [hn] at this
    cases hb : S.β nid with
    | none => rfl
    | some x => rw [hb] at this; simp at this
  have hle := Env.le_add (w.heap.size, 0, 0, 0) hbn
  have hsz : w0.heap.size ≤ w.heap.size := s.below.size
  have hold : ∀ j x, (h.set nid (.iter l 0)).get j = some x → j ≠ nid → h.get j = some x := by
    intro j x hj e1; rw [H.get_set, if_neg e1] at hj; exact hj
  refine ⟨hle, s.below.alloc hsz _, fun r o v hf => cell?_alloc (s.frz r o v hf), fun id => ?_, fun id hi => ?_, fun id es' e' k' hg => ?_, ?_, fun id s' pos hg => ?_, ?_⟩
  · rw [H.get_set]
    by_cases hi : id = nid
    · subst hi; simp [Env.add_self]
    · rw [Env.add_ne _ _ hi, if_neg hi]; exact s.dom id
  · rw [H.get_set, if_neg (by intro e; subst e; simp at hi; omega)]
    exact s.fresh id hi
  · have hi : id ≠ nid := by rintro rfl; rw [H.get_set, if_pos rfl] at hg; cases hg
    obtain ⟨r, b, z, h1, h2⟩ := s.row id es' e' k' (hold _ _ hg hi)
    obtain ⟨_, _, _, hblk, _⟩ := h2.blk
    exact ⟨r, b, z, by rw [Env.add_ne _ _ hi]; exact h1, h2.mono hle (by rw [hblk]; exact alloc_old hblk) h2.noF⟩
  · intro i j es' e' k' fs f l r b z r' b' z' hij hgi hgj hk' hl' hbi hbj hr
    have hi : i ≠ nid := by rintro rfl; rw [H.get_set, if_pos rfl] at hgi; cases hgi
    have hj : j ≠ nid := by rintro rfl; rw [H.get_set, if_pos rfl] at hgj; cases hgj
    rw [Env.add_ne _ _ hi] at hbi
    rw [Env.add_ne _ _ hj] at hbj
    exact s.disj i j es' e' k' fs f l r b z r' b' z' hij (hold _ _ hgi hi) (hold _ _ hgj hj) hk' hl' hbi hbj hr
  · by_cases hi : id = nid
    · subst hi
      rw [H.get_set, if_pos rfl] at hg
      cases hg
      exact ⟨_, b, Env.add_self _ _ _, alloc_new _ _, hb, hsz⟩
    · obtain ⟨r, sb, h1, h2, h3, h4⟩ := s.iter id s' pos (hold _ _ hg hi)
      exact ⟨r, sb, by rw [Env.add_ne _ _ hi]; exact h1, alloc_old h2, h3, h4⟩
  · intro i j s' p t q r r' hij hgi hgj hbi hbj
    by_cases hi : i = nid
    · subst hi
      rw [Env.add_self] at hbi; cases hbi
      have hj := Ne.symm hij
      rw [Env.add_ne _ _ hj] at hbj
      obtain ⟨r2, sb, h1, h2, h3, h4⟩ := s.iter j t q (hold _ _ hgj hj)
      rw [h1] at hbj; cases hbj
      have := heap_lt h2; omega
    · rw [Env.add_ne _ _ hi] at hbi
      by_cases hj : j = nid
      · subst hj
        rw [Env.add_self] at hbj; cases hbj
        obtain ⟨r2, sb, h1, h2, h3, h4⟩ := s.iter i s' p (hold _ _ hgi hi)
        rw [h1] at hbi; cases hbi
        have := heap_lt h2; omega
      · rw [Env.add_ne _ _ hj] at hbj
        exact s.iterD i j s' p t q r r' hij (hold _ _ hgi hi) (hold _ _ hgj hj) hbi hbj

/-- Operations that take a new name. -/
def okE (num : Nat → Nat) (gl : List Nat) (P : Program) (o : Op) (i : I) : Bool :=
  match i with
  | .alloc z => (match o with | .alloc t => zeroB P t z | _ => false)
  | .box y _ => (match o with | .box _ x => okO num gl x y | _ => false)
  | .cvB y => (match o with | .convert s d x => (P.underlying s).isSome && (match sliceOf P d with | some e => (match P.underlying e with | some (.int .u8) => true | _ => false) | none => false) && okO num gl x y | _ => false)
  | .rng y => (match o with | .range t x => isStrB P t && okO num gl x y | _ => false)
  | _ => false

/-- What is to be shown of an operation that takes a new name, or writes. -/
def ERes (num : Nat → Nat) (w0 : World) (S : Env) (P : Program) (a : Act) (o : Oper) (w : World) (v : V) (h' : H) : Prop :=
  ∃ T c w', S.le T ∧ (execOp a.eval o).run P w = .ok (.value c) w' ∧ VRel num T v c ∧ Sim num w0 T h' w'

theorem one_row (s : Sim num w0 S h w) {nid : Nat} (hn : h.get nid = none) (hx : nid < h.nx * 256) {z : V} {c : Value} (r : VRel num S z c) (hz : 0 < z.cells.length) (el : TypeId) :
    ∃ T, S.le T ∧ VRel num T (.ptr nid 0 0) (.pointer (some ⟨w.heap.size, 0, none⟩)) ∧ Sim num w0 T (h.set nid (.row [z] z.cells.length .rw)) (w.alloc (.cells c.cells el)) := by
  have rc := r.cells
  have hsz : z.cells.length = c.cells.size := by simpa using rc.1
  obtain ⟨h1, h2⟩ := s.alloc (es := [z]) (e := z.cells.length) (k := .rw) hn hx (by simp) hz (fun i x hi => by
    cases i with
    | zero => simp at hi; subst hi; rfl
    | succ i => simp at hi) c.cells el (fz := (0, 0)) (FzOk.zero _) (by simp [hsz]) (fun i j x hxx => by
    cases i with
    | zero =>
      rw [cellAt_eq (x := z) (by rfl)] at hxx
      have hj : j < c.cells.size := by rw [← hsz]; exact (List.getElem?_eq_some_iff.1 hxx).1
      exact ⟨c.cells[j], by simp [hj], rc.2 j x _ hxx (by simp [hj])⟩
    | succ i => simp [cellAt] at hxx)
  exact ⟨_, h1, by simpa using VRel.ptr (num := num) nid 0 0 w.heap.size 0 _ _ (Env.add_self S nid _), h2⟩

theorem alloc_freeze (w : World) (cs : Array Value) (el : TypeId) : (w.alloc (.cells cs el)).freeze ⟨w.heap.size, cs.size, none⟩ 1 = w.alloc (.cells cs el (cs.size, cs.size + 1)) := by
  simp only [World.freeze, World.alloc, Nat.one_ne_zero, if_false]
  congr 1
  apply Array.ext_getElem?
  intro i
  rw [Array.getElem?_modify, Array.getElem?_push, Array.getElem?_push]
  by_cases hi : i = w.heap.size
  · subst hi; simp
  · rw [if_neg hi, if_neg hi, if_neg (Ne.symm hi)]

theorem E_sound (hg : Glob gl S) (hf : FRel num S nt fr a) (s : Sim num w0 S h w) {nid : Nat} (hn : h.get nid = none) (hx : nid < h.nx * 256) {o : Oper} {i : I} (hok : okE num gl P o.op i = true)
    {v : V} {b : Blk} (hs : stepE fr nid i = some (v, b)) : ERes num w0 S P a o w v (h.set nid b) := by
  cases i <;> simp only [okE] at hok <;> try (cases hok; done)
  case alloc z =>
    split at hok
    · rename_i t heq
      obtain ⟨c, k1, k2, -⟩ := zeroB_run hok
      simp only [stepE] at hs
      split at hs
      · rename_i hz
        simp only [Option.some.injEq, Prod.mk.injEq] at hs
        obtain ⟨rfl, rfl⟩ := hs
        obtain ⟨T, h1, h2, h3⟩ := one_row s hn hx (k2 num S) hz t
        exact ⟨T, _, _, h1, by simp [execOp, heq, Instr.alloc, k1, newVar, newRow], h2, h3⟩
      · cases hs
    · cases hok
  case box y n =>
    split at hok
    · rename_i t x heq
      simp only [stepE] at hs
      split at hs
      · rename_i z hz
        split at hs
        · rename_i hl
          simp only [Option.some.injEq, Prod.mk.injEq] at hs
          obtain ⟨rfl, rfl⟩ := hs
          obtain ⟨rfl, hl⟩ := hl
          obtain ⟨T, h1, h2, h3⟩ := one_row s hn hx (okO_rel hg hf hok hz) hl t
          exact ⟨T, _, _, h1, by simp [execOp, heq, Instr.box, newVar, newRow], h2, h3⟩
        · cases hs
      · cases hs
    · cases hok
  case cvB y =>
    split at hok
    · rename_i st d x heq
      simp only [Bool.and_eq_true] at hok
      obtain ⟨⟨h0, h1⟩, h2⟩ := hok
      split at h1
      · rename_i el hel
        split at h1
        · rename_i hu
          simp only [stepE] at hs
          split at hs
          · rename_i l hl
            split at hs
            · rename_i hbd
              simp only [Option.some.injEq, Prod.mk.injEq] at hs
              obtain ⟨rfl, rfl⟩ := hs
              obtain ⟨bs, e, hb⟩ := (okO_rel hg hf h2 hl).str_inv
              obtain ⟨ds, hds⟩ := Option.isSome_iff_exists.1 h0
              have hsl := sliceOf_eq hel
              have hsz : l.length = bs.size := by rw [← hb]; simp
              generalize hcap : (Question.appendCap bs.size 0 el).cut (w.tape w.drawn (.appendCap bs.size 0 el)) = cap
              have hcap2 : bs.size ≤ cap := by rw [← hcap]; simp only [Question.cut]; omega
              generalize hcs : (bs.data.map fun b => Value.int .u8 b.toNat) ++ Array.replicate (cap - bs.size) (.int .u8 0) = cs
              have hcsz : cs.size = cap := by
                rw [← hcs]
                have : bs.data.size = bs.size := rfl
                simp [this]; omega
              obtain ⟨k1, k2⟩ := s.drew.alloc (es := l.map fun (c : Nat) => V.int .u8 (c : Int)) (e := 1) (k := .rw) hn hx (by simp) (by omega) (fun i x hi => by
                simp at hi
                obtain ⟨c, -, rfl⟩ := hi
                rfl) cs el (fz := (cs.size, cs.size + 1)) (fun o ho hh => by simp at hh; omega) (by simp; omega) (fun i j x hxx => by
                unfold cellAt at hxx
                cases hq : (l.map fun (c : Nat) => V.int .u8 (c : Int))[i]? with
                | none => rw [hq] at hxx; cases hxx
                | some y' =>
                  rw [hq] at hxx
                  simp at hq
                  obtain ⟨c, hc, rfl⟩ := hq
                  simp only [V.cells, Option.bind_some] at hxx
                  cases j with
                  | succ j => simp at hxx
                  | zero =>
                    simp at hxx
                    subst hxx
                    rw [← hb] at hc
                    simp at hc
                    obtain ⟨u, hu, rfl⟩ := hc
                    refine ⟨.int .u8 (u.toNat : Int), ?_, .int _ _⟩
                    have hi : i < bs.data.size := (Array.getElem?_eq_some_iff.1 hu).1
                    rw [← hcs, Nat.mul_one, Nat.add_zero, Array.getElem?_append_left (by simpa using hi)]
                    simp [hu])
              refine ⟨_, .slice (some ⟨w.heap.size, 0, none⟩) l.length cap, _, k1, ?_, ?_, k2⟩
              · have hsh : (w.drew.alloc (.cells cs el)).shape? w.heap.size = some (el, cs.size) := by
                  simp only [World.shape?]
                  rw [show w.heap.size = w.drew.heap.size from rfl, alloc_new]
                have hfr := alloc_freeze w.drew cs el
                simp only [World.size_drew] at hfr
                simp only [execOp, heq, e, convert, Sem.run_bind, run_underlying hds, run_underlying hsl, Result.andThen_ok, run_underlying hu, Conv.stringToBytes, run_choose, Question.forced, Bool.false_eq_true, if_false, hcap, hcs, newRow, run_newObj, Sem.run_pure, markStringish, run_shape, World.drew_eq, World.alloc_eq, World.size_drew, hsh, run_freeze, hfr, hsz]
              · have := VRel.ref (num := num) (S := S.add nid (w.drew.heap.size, 0, 1, cs.size)) nid 0 l.length 1 none w.heap.size 0 cs.size cap (Env.add_self _ _ _) (by omega) (fun k hk => by cases hk) (by omega)
                simpa using this
            · cases hs
          · cases hs
        · cases h1
      · cases h1
    · cases hok
  case rng y =>
    split at hok
    · rename_i t x heq
      simp only [Bool.and_eq_true] at hok
      simp only [stepE] at hs
      split at hs
      · rename_i l hl
        simp only [Option.some.injEq, Prod.mk.injEq] at hs
        obtain ⟨rfl, rfl⟩ := hs
        obtain ⟨bs, e, hb⟩ := (okO_rel hg hf hok.2 hl).str_inv
        obtain ⟨k1, k2⟩ := s.allocIter hn hx l bs hb
        refine ⟨_, .pointer (some ⟨w.heap.size, 0, none⟩), _, k1, ?_, by simpa using VRel.ptr (num := num) nid 0 0 w.heap.size 0 0 0 (Env.add_self S nid _), k2⟩
        simp [execOp, heq, e, Instr.range, run_underlying (isStrB_eq hok.1)]
      · cases hs
    · cases hok

end
end Go.Proofs.Ytakahhnlbciicaa.Ai

namespace Go.Proofs.Ytakahhnlbciicaa.Ai
open Go Go.RowKit

section
variable {num : Nat → Nat} {gl : List Nat} {S : Env} {nt : Nat} {fr : Fr} {a : Act} {P : Program} {w0 w : World} {h : H}

/-- An iterator goes on. -/
theorem Sim.iterNext (s : Sim num w0 S h w) {id : Nat} {l : List Nat} {pos : Nat} (hg : h.get id = some (.iter l pos)) {r : Nat} {sb : ByteArray} (hb : S.β id = some (r, 0, 0, 0))
    (hw : w.heap[r]? = some (.stringIter sb pos)) (hs : sb.data.toList.map UInt8.toNat = l) (ho : w0.heap.size ≤ r) (p : Nat) :
    Sim num w0 S (h.set id (.iter l p)) { w with heap := w.heap.setIfInBounds r (.stringIter sb p) } := by
  have hr := heap_lt hw
  have hoth : ∀ k, k ≠ r → (w.heap.setIfInBounds r (.stringIter sb p))[k]? = w.heap[k]? := fun k hk => Array.getElem?_setIfInBounds_ne (Ne.symm hk)
  have hrow : ∀ j es e k, (h.set id (.iter l p)).get j = some (.row es e k) → h.get j = some (.row es e k) := by
    intro j es e k hj
    rw [H.get_set] at hj
    split at hj
    · cases hj
    · exact hj
  refine ⟨?_, fun k o v hv => ?_, fun j => ?_, fun j hj => ?_, fun j es e k hj => ?_, ?_, fun j s' q hj => ?_, ?_⟩
  · exact s.below.trans ⟨rfl, rfl, rfl, by simp, fun k hk => hoth k (by omega)⟩
  · have hv' := s.frz k o v hv
    have hk : k ≠ r := by
      rintro rfl
      simp [World.cell?, hw] at hv'
    simp only [World.cell?, hoth k hk] at hv' ⊢
    exact hv'
  · rw [H.get_set]
    by_cases e : j = id
    · rw [if_pos e, e, hb]; rfl
    · rw [if_neg e]; exact s.dom j
  · rw [H.get_set, if_neg]
    · exact s.fresh j hj
    · rintro rfl
      rw [s.fresh j hj] at hg; cases hg
  · obtain ⟨r1, b1, z1, h1, h2⟩ := s.row j es e k (hrow j es e k hj)
    refine ⟨r1, b1, z1, h1, h2.mono (Env.le_refl _) (hoth r1 ?_) h2.noF⟩
    rintro rfl
    obtain ⟨_, _, _, hblk, _⟩ := h2.blk
    rw [hw] at hblk; cases hblk
  · intro i j es e k fs f l' r1 b1 z1 r' b' z' hij hgi hgj
    exact s.disj i j es e k fs f l' r1 b1 z1 r' b' z' hij (hrow _ _ _ _ hgi) (hrow _ _ _ _ hgj)
  · rw [H.get_set] at hj
    by_cases e : j = id
    · rw [if_pos e] at hj
      cases hj
      subst e
      refine ⟨r, sb, hb, ?_, hs, ho⟩
      show (w.heap.setIfInBounds r _)[r]? = _
      simp [hr]
    · rw [if_neg e] at hj
      obtain ⟨r1, sb1, h1, h2, h3, h4⟩ := s.iter j s' q hj
      exact ⟨r1, sb1, h1, by rw [← h2]; exact hoth r1 (s.iterD j id s' q l pos r1 r e hj hg h1 hb), h3, h4⟩
  · intro i j s' p' t q r1 r' hij hgi hgj hbi hbj
    have old : ∀ m s' p', (h.set id (.iter l p)).get m = some (.iter s' p') → ∃ s'' p'', h.get m = some (.iter s'' p'') := by
      intro m s' p' hm
      rw [H.get_set] at hm
      by_cases e : m = id
      · subst e; exact ⟨_, _, hg⟩
      · rw [if_neg e] at hm; exact ⟨_, _, hm⟩
    obtain ⟨s2, p2, g2⟩ := old i _ _ hgi
    obtain ⟨s3, p3, g3⟩ := old j _ _ hgj
    exact s.iterD i j s2 p2 s3 p3 r1 r' hij g2 g3 hbi hbj

theorem nxt_sound (s : Sim num w0 S h w) {x v : V} {h' : H} (hs : nxtv h x = some (v, h')) {c : Value} (r : VRel num S x c) (ty : TypeId) :
    ∃ d w', (Instr.next c true ty).run P w = .ok d w' ∧ VRel num S v d ∧ Sim num w0 S h' w' := by
  unfold nxtv at hs
  split at hs
  · rename_i id
    split at hs
    · rename_i l pos hg
      obtain ⟨r1, sb, h1, h2, h3, h4⟩ := s.iter id l pos hg
      cases r with
      | ptr id i off r b e z hb =>
        rw [h1] at hb; cases hb
        split at hs
        · rename_i hn
          simp only [Option.some.injEq, Prod.mk.injEq] at hs
          obtain ⟨rfl, rfl⟩ := hs
          have hlt : ¬ pos < sb.size := by
            intro hlt
            rw [← h3] at hn
            simp at hn
            have : sb.data.size = sb.size := rfl
            omega
          refine ⟨.tuple #[.bool false], w, ?_, .tup _ _ rfl (fun i c v hc hv => ?_), s⟩
          · simp [Instr.next, getObj, Sem.run, h2, hlt]
          · cases i with
            | zero => simp at hc hv; subst hc hv; exact .bool _
            | succ i => simp at hc
        · rename_i ch hn
          split at hs
          · rename_i hasc
            simp only [Option.some.injEq, Prod.mk.injEq] at hs
            obtain ⟨rfl, rfl⟩ := hs
            rw [← h3] at hn
            simp at hn
            obtain ⟨u, hu, rfl⟩ := hn
            have hlt : pos < sb.size := (Array.getElem?_eq_some_iff.1 hu).1
            have hu2 : sb[pos]'hlt = u := by
              have : sb.data[pos]? = some (sb.data[pos]'hlt) := Array.getElem?_eq_getElem hlt
              rw [this] at hu
              exact Option.some.inj hu
            have hd := decode_ascii sb pos hlt (by rw [hu2]; exact hasc)
            rw [hu2] at hd
            refine ⟨.tuple #[.bool true, .int .i64 pos, .int .i32 u.toNat], _, ?_, .tup _ _ rfl (fun i c v hc hv => ?_), s.iterNext hg h1 h2 h3 h4 (pos + 1)⟩
            · simp [Instr.next, getObj, setObj, Sem.run, h2, hlt, hd, goInt]
            · rcases i with _ | _ | _ | i
              · simp at hc hv; subst hc hv; exact .bool _
              · simp at hc hv; subst hc hv; exact .int _ _
              · simp at hc hv; subst hc hv; exact .int _ _
              · simp at hc
          · cases hs
    · cases hs
  · cases hs

/-- The cells of a row will not change any more. -/
def Env.hold (S : Env) (r b n : Nat) (cs : Array Value) : Env := { S with F := fun k o => if k = r ∧ b ≤ o ∧ o < b + n then cs[o]? else S.F k o }

theorem frz1_sound (s : Sim num w0 S h w) {v v' : V} {h' : H} (hs : frz1 h v = some (v', h')) {c : Value} (q : VRel num S v c) : ∃ T, S.le T ∧ VRel num T v' c ∧ Sim num w0 T h' w := by
  have same : some (v, h) = some (v', h') → ∃ T, S.le T ∧ VRel num T v' c ∧ Sim num w0 T h' w := by
    intro e
    simp only [Option.some.injEq, Prod.mk.injEq] at e
    obtain ⟨rfl, rfl⟩ := e
    exact ⟨S, Env.le_refl _, q, s⟩
  cases v <;> simp only [frz1] at hs <;> try exact same hs
  rename_i id lo len e cap
  split at hs
  · rename_i es esz k hg
    split at hs
    · rename_i hfit
      obtain ⟨hfit, rfl⟩ := hfit
      simp only [Option.some.injEq, Prod.mk.injEq] at hs
      obtain ⟨rfl, rfl⟩ := hs
      cases q with
      | ref id lo len e cap r b z c hb hl hcap hz =>
        obtain ⟨r2, b2, z2, h1, h2⟩ := s.row id es e k hg
        rw [hb] at h1; cases h1
        obtain ⟨cs, el, fz, d1, d2, d3, d4, d5⟩ := h2.blk
        have hfits := h2.fits
        have hle : S.le (S.hold r b (es.length * e) cs) := by
          refine ⟨fun _ _ hh => hh, fun r' o u hu => ?_⟩
          simp only [Env.hold]
          split
          · rename_i hc
            obtain ⟨rfl, hc1, hc2⟩ := hc
            by_cases hk : k = .ro
            · have := d5 hk (o - b) (by omega)
              rw [show b + (o - b) = o by omega] at this
              rw [← this]; exact hu
            · have := h2.noF hk o hc1 (by
                unfold Kind.hi; split
                · omega
                · exact hc2)
              rw [this] at hu; cases hu
          · exact hu
        have hF : ∀ o, o < es.length * e → (S.hold r b (es.length * e) cs).F r (b + o) = cs[b + o]? := by
          intro o ho
          simp only [Env.hold]
          rw [if_pos ⟨trivial, by omega, by omega⟩]
        refine ⟨S.hold r b (es.length * e) cs, hle, ?_, ⟨s.below, fun k' o u hu => ?_, fun j => ?_, fun j hj => ?_, fun j es' e' k' hj => ?_, ?_, fun j s' p hj => ?_, ?_⟩⟩
        · by_cases h0 : len = 0
          · subst h0
            simp only [List.take_zero]
            refine .sl0 _ _ _ (fun hc => ?_)
            simp at hc
            have := hcap 0 hc; omega
          · have hlen : ((es.drop lo).take len).length = len := by simp; omega
            refine .sl _ _ r (b + lo * e) e c len (fun j => cs.getD (b + lo * e + j) undef) hlen.symm ?_ ?_ hl h2.pos ?_ ?_ ?_
            · intro hn; rw [hn] at hlen; simp at hlen; omega
            · intro hc; simp at hc; exact hcap len hc
            · intro x hx
              obtain ⟨i, hi⟩ := List.mem_iff_getElem?.1 (List.mem_of_mem_drop (List.mem_of_mem_take hx))
              exact h2.len i x hi
            · intro j hj
              have h3 : (lo + len) * e ≤ es.length * e := Nat.mul_le_mul_right _ hfit
              rw [Nat.add_mul] at h3
              rw [Nat.add_assoc b, hF (lo * e + j) (by omega)]
              have hlt : b + (lo * e + j) < cs.size := by omega
              simp [Array.getElem?_eq_getElem hlt]
            · intro i j x y hx hy
              have hi : i < len := by have := (List.getElem?_eq_some_iff.1 hx).1; omega
              rw [List.getElem?_take, if_pos hi, List.getElem?_drop] at hx
              obtain ⟨u, hu, hr⟩ := d4 (lo + i) j y (by rw [cellAt_eq hx]; exact hy)
              rw [Nat.add_mul] at hu
              have : b + lo * e + (i * e + j) = b + (lo * e + i * e) + j := by omega
              rw [this]
              simp only [Array.getD_eq_getD_getElem?, hu, Option.getD_some]
              exact hr.mono hle
        · simp only [Env.hold] at hu
          split at hu
          · rename_i hc
            obtain ⟨rfl, -, -⟩ := hc
            rw [cell?_eq d1]; exact hu
          · exact s.frz _ _ _ hu
        · rw [H.get_set]
          by_cases hj : j = id
          · subst hj; rw [if_pos rfl]; show (S.β j).isSome = _; rw [hb]; rfl
          · rw [if_neg hj]; exact s.dom j
        · rw [H.get_set, if_neg]
          · exact s.fresh j hj
          · rintro rfl; rw [s.fresh j hj] at hg; cases hg
        · by_cases hj1 : j = id
          · subst hj1
            rw [H.get_set, if_pos rfl] at hj
            cases hj
            refine ⟨r, b, z, hb, h2.pos, ⟨cs, el, fz, d1, d2, fun hn => absurd rfl hn, fun i j c hc => ?_, fun _ o ho => hF o ho⟩, h2.len, hfits, fun hn => absurd rfl hn, fun hn => absurd rfl hn⟩
            obtain ⟨u, hu, hr⟩ := d4 i j c hc
            exact ⟨u, hu, hr.mono hle⟩
          · rw [H.get_set, if_neg hj1] at hj
            obtain ⟨r1, b1, z1, h3, h4⟩ := s.row j es' e' k' hj
            refine ⟨r1, b1, z1, h3, h4.mono hle rfl (fun hk o ho1 ho2 => ?_)⟩
            simp only [Env.hold]
            split
            · rename_i hc
              obtain ⟨rfl, hc1, hc2⟩ := hc
              exfalso
              have hn := h4.noF hk o ho1 ho2
              by_cases hk0 : k = .ro
              · have := d5 hk0 (o - b) (by omega)
                rw [show b + (o - b) = o by omega, hn] at this
                have hlt : o < cs.size := by omega
                rw [Array.getElem?_eq_getElem hlt] at this; cases this
              · have hhi : b + es.length * e ≤ k.hi b e es.length z := by
                  unfold Kind.hi; split
                  · exact hfits
                  · exact Nat.le_refl _
                rcases s.disj id j es e k es' e' k' r1 b z r1 b1 z1 (Ne.symm hj1) hg hj hk0 hk hb h3 rfl with hd | hd <;> omega
            · exact h4.noF hk o ho1 ho2
        · intro i j es' e' k' fs f l r1 b1 z1 r' b' z' hij hgi hgj hk' hl' hbi hbj hr
          rw [H.get_set] at hgi hgj
          split at hgi
          · cases hgi; exact absurd rfl hk'
          · split at hgj
            · cases hgj; exact absurd rfl hl'
            · exact s.disj i j es' e' k' fs f l r1 b1 z1 r' b' z' hij hgi hgj hk' hl' hbi hbj hr
        · rw [H.get_set] at hj
          split at hj
          · cases hj
          · exact s.iter j s' p hj
        · intro i j s' p t q r1 r' hij hgi hgj
          rw [H.get_set] at hgi hgj
          split at hgi
          · cases hgi
          · split at hgj
            · cases hgj
            · exact s.iterD i j s' p t q r1 r' hij hgi hgj
    · cases hs
  · cases hs

theorem frzL_sound : ∀ {l l' : List V} {S : Env} {h h' : H} {cs : List Value} (_ : Sim num w0 S h w) (_ : frzL h l = some (l', h')) (_ : VRels num S l cs), ∃ T, S.le T ∧ VRels num T l' cs ∧ Sim num w0 T h' w
  | [], l', S, h, h', cs, s, hs, q => by
    simp only [frzL, Option.some.injEq, Prod.mk.injEq] at hs
    obtain ⟨rfl, rfl⟩ := hs
    exact ⟨S, Env.le_refl _, q, s⟩
  | v :: l, l', S, h, h', cs, s, hs, q => by
    obtain ⟨c, ds, rfl, q1, q2⟩ := q.head
    simp only [frzL] at hs
    cases e1 : frz1 h v with
    | none => rw [e1] at hs; cases hs
    | some p =>
      obtain ⟨v1, h1⟩ := p
      rw [e1] at hs
      simp only at hs
      cases e2 : frzL h1 l with
      | none => rw [e2] at hs; cases hs
      | some p2 =>
        obtain ⟨l1, h2⟩ := p2
        rw [e2] at hs
        simp only [Option.some.injEq, Prod.mk.injEq] at hs
        obtain ⟨rfl, rfl⟩ := hs
        obtain ⟨T, k1, k2, k3⟩ := frz1_sound s e1 q1
        obtain ⟨U, m1, m2, m3⟩ := frzL_sound k3 e2 (q2.mono k1)
        exact ⟨U, Env.le_trans k1 m1, VRels.cons (k2.mono m1) m2, m3⟩

theorem frz_sound (s : Sim num w0 S h w) {v v' : V} {h' : H} (hs : frz h v = some (v', h')) {c : Value} (q : VRel num S v c) : ∃ T, S.le T ∧ VRel num T v' c ∧ Sim num w0 T h' w := by
  cases v <;> simp only [frz] at hs <;> try exact frz1_sound s hs q
  rename_i cs
  split at hs
  · rename_i cs' h1 he
    simp only [Option.some.injEq, Prod.mk.injEq] at hs
    obtain ⟨rfl, rfl⟩ := hs
    cases q with
    | agg cs vs hl hh =>
      obtain ⟨T, k1, k2, k3⟩ := frzL_sound s he (cs := vs.toList) ⟨by simpa using hl, fun i c v hc hv => hh i c v hc (by simpa using hv)⟩
      exact ⟨T, k1, .agg cs' vs (by simpa using k2.1) (fun i c v hc hv => k2.2 i c v hc (by simpa using hv)), k3⟩
  · cases hs

theorem frzR_sound : ∀ {l l' : List V} {S : Env} {h h' : H} {cs : List Value} (_ : Sim num w0 S h w) (_ : frzR h l = some (l', h')) (_ : VRels num S l cs), ∃ T, S.le T ∧ VRels num T l' cs ∧ Sim num w0 T h' w
  | [], l', S, h, h', cs, s, hs, q => by
    simp only [frzR, Option.some.injEq, Prod.mk.injEq] at hs
    obtain ⟨rfl, rfl⟩ := hs
    exact ⟨S, Env.le_refl _, q, s⟩
  | v :: l, l', S, h, h', cs, s, hs, q => by
    obtain ⟨c, ds, rfl, q1, q2⟩ := q.head
    simp only [frzR] at hs
    cases e1 : frz h v with
    | none => rw [e1] at hs; cases hs
    | some p =>
      obtain ⟨v1, h1⟩ := p
      rw [e1] at hs
      simp only at hs
      cases e2 : frzR h1 l with
      | none => rw [e2] at hs; cases hs
      | some p2 =>
        obtain ⟨l1, h2⟩ := p2
        rw [e2] at hs
        simp only [Option.some.injEq, Prod.mk.injEq] at hs
        obtain ⟨rfl, rfl⟩ := hs
        obtain ⟨T, k1, k2, k3⟩ := frz_sound s e1 q1
        obtain ⟨U, m1, m2, m3⟩ := frzR_sound k3 e2 (q2.mono k1)
        exact ⟨U, Env.le_trans k1 m1, VRels.cons (k2.mono m1) m2, m3⟩

end
end Go.Proofs.Ytakahhnlbciicaa.Ai

namespace Go.Proofs.Ytakahhnlbciicaa.Ai
open Go Go.RowKit

section
variable {num : Nat → Nat} {gl : List Nat} {S : Env} {nt : Nat} {fr : Fr} {a : Act} {P : Program} {w0 w : World} {h : H}

/-- What is handed on to an append: the types. -/
def appB (P : Program) (esz : Nat) (t t2 : Nat) : Bool := match sliceOf P t with
  | some el => sizeB P el esz && (match P.info? el with | some i => (match i.zero with | some z => z.cells.size == esz | none => false) && decide (i.bytes ≤ 65536) | none => false) &&
      (isStrB P t2 || (sliceOf P t2).isSome)
  | none => false

structure AppT (P : Program) (esz t t2 : Nat) (el : Nat) (i : TypeInfo) (z : Value) : Prop where
  sl : P.underlying t = some (.slice el)
  info : P.info? el = some i
  size : i.size = esz
  zero : i.zero = some z
  zlen : z.cells.size = esz
  bytes : i.bytes ≤ 65536
  t2 : P.underlying t2 = some .string ∨ ∃ e, P.underlying t2 = some (.slice e)

theorem appB_spec {esz t t2 : Nat} (hb : appB P esz t t2 = true) : ∃ el i z, AppT P esz t t2 el i z := by
  unfold appB at hb
  split at hb
  · rename_i el hel
    simp only [Bool.and_eq_true] at hb
    obtain ⟨⟨h1, h2⟩, h3⟩ := hb
    split at h2
    · rename_i i hi
      simp only [Bool.and_eq_true, decide_eq_true_eq] at h2
      obtain ⟨h2, h4⟩ := h2
      cases hz : i.zero with
      | none => rw [hz] at h2; cases h2
      | some z =>
      rw [hz] at h2
      unfold sizeB at h1
      rw [hi] at h1
      refine ⟨el, i, z, sliceOf_eq hel, hi, by simpa using h1, hz, by simpa using h2, h4, ?_⟩
      rw [Bool.or_eq_true] at h3
      rcases h3 with h3 | h3
      · exact .inl (isStrB_eq h3)
      · obtain ⟨e, he⟩ := Option.isSome_iff_exists.1 h3
        exact .inr ⟨e, sliceOf_eq he⟩
    · cases h2
  · cases hb

theorem append_fits {esz t t2 el ty : Nat} {i : TypeInfo} {z : Value} (at' : AppT P esz t t2 el i z) {base : Option Addr} {sLen sCap n : Nat} {x : Value} {news : List Value}
    (hl : (Builtin.lenOf x).run P w = .ok n w) (hn : (Builtin.firstCells esz n x).run P w = .ok news.toArray w) (hfit : sLen + n ≤ sCap) :
    (Builtin.append_ #[t, t2] ty #[.slice base sLen sCap, x]).run P w =
      ((match base with | some b => storeCells (b.add (sLen * esz)) news | none => pure () : Sem Unit).run P w).andThen fun _ w' => .ok (.slice base (sLen + n) sCap) w' := by
  have hsz : (sizeOf el).run P w = .ok esz w := by simp [sizeOf, typeInfo, at'.info, at'.size]
  rcases at'.t2 with hd | ⟨e, hd⟩ <;> cases base <;> simp [Builtin.append_, run_underlying at'.sl, hsz, run_underlying hd, hl, hfit, hn]

theorem append_grows {esz t t2 el ty : Nat} {i : TypeInfo} {z : Value} (at' : AppT P esz t t2 el i z) {base : Option Addr} {sLen sCap n : Nat} {x : Value} {olds news : List Value}
    (hl : (Builtin.lenOf x).run P w = .ok n w) (hn : (Builtin.firstCells esz n x).run P w.drew = .ok news.toArray w.drew)
    (ho : (Builtin.firstCells esz sLen (.slice base sLen sCap)).run P w.drew = .ok olds.toArray w.drew) (hfit : sCap < sLen + n) (hbd : sLen + n < bound) :
    (Builtin.append_ #[t, t2] ty #[.slice base sLen sCap, x]).run P w =
      .ok (.slice (some ⟨w.heap.size, 0, none⟩) (sLen + n) (grownCap w (sLen + n) sCap el))
        (w.drew.alloc (.cells (olds.toArray ++ news.toArray ++ Builtin.zeroCells z.cells (grownCap w (sLen + n) sCap el - (sLen + n))) el)) := by
  have hsz : (sizeOf el).run P w = .ok esz w := by simp [sizeOf, typeInfo, at'.info, at'.size]
  have hn' : ¬ (sLen + n ≤ sCap) := by omega
  have hbd' : sLen + n < 2147483648 := hbd
  have h63' : ¬ (9223372036854775807 < ((sLen : Int) + (n : Int))) := by omega
  have hb := at'.bytes
  have h48 : Builtin.nextslicecap (sLen + n) sCap * i.bytes ≤ 281474976710656 := growslice_fits (by omega) (by
    have : (sLen + n) * i.bytes ≤ 2147483648 * 65536 := Nat.mul_le_mul (by omega) hb
    omega)
  have h48' : ¬ (281474976710656 < Builtin.nextslicecap (sLen + n) sCap * i.bytes) := by omega
  rcases at'.t2 with hd | ⟨e, hd⟩ <;> simp [Builtin.append_, run_underlying at'.sl, hsz, run_underlying hd, hl, hn', h63', h48', Question.forced, hn, ho, newRow, grownCap, typeInfo, at'.info, zeroValue, at'.zero] <;> (congr 2; apply Array.ext'; simp [List.append_assoc])


/-- What a later world holds that still has all cells. -/
def Keeps (w w' : World) : Prop := ∀ r o v, w.cell? ⟨r, o, none⟩ = some v → w'.cell? ⟨r, o, none⟩ = some v

structure NewsOk (num : Nat → Nat) (S : Env) (esz : Nat) (xs : List V) (news : List Value) : Prop where
  len : news.length = xs.length * esz
  rel : ∀ (i j : Nat) (x y : V), xs[i]? = some x → x.cells[j]? = some y → ∃ v, news[i * esz + j]? = some v ∧ VRel num S y v

theorem cellsOk_len {esz : Nat} {v : V} (hv : cellsOk esz v = true) : v.cells.length = esz := by
  simp only [cellsOk, Bool.and_eq_true, beq_iff_eq] at hv; exact hv.1

theorem NewsOk.one {esz : Nat} {xs : List V} {news : List Value} (k : NewsOk num S esz xs news) (hok : xs.all (cellsOk esz) = true) (he : 0 < esz) : ∀ v, v ∈ news → v.oneCell' = true := by
  intro v hv
  obtain ⟨m, hm⟩ := List.mem_iff_getElem?.1 hv
  have hlt : m < xs.length * esz := by rw [← k.len]; exact (List.getElem?_eq_some_iff.1 hm).1
  have hi : m / esz < xs.length := Nat.div_lt_of_lt_mul (by rw [Nat.mul_comm]; exact hlt)
  have hx := List.all_eq_true.1 hok _ (List.getElem_mem hi)
  have hl := cellsOk_len hx
  have hj : m % esz < xs[m / esz].cells.length := by rw [hl]; exact Nat.mod_lt _ he
  obtain ⟨u, hu, hr⟩ := k.rel (m / esz) (m % esz) _ _ (List.getElem?_eq_getElem hi) (List.getElem?_eq_getElem hj)
  have hmm : m / esz * esz + m % esz = m := by rw [Nat.mul_comm]; exact Nat.div_add_mod m esz
  rw [hmm, hm] at hu
  cases hu
  simp only [cellsOk, Bool.and_eq_true] at hx
  exact one_rel hr (List.all_eq_true.1 hx.2 _ (List.getElem_mem hj))

theorem firstCells_addr (r o : Nat) (len cap esz n : Nat) (f : Nat → Value) (w : World) (hc : ∀ j, j < n * esz → w.cell? ⟨r, o + j, none⟩ = some (f j)) :
    (Builtin.firstCells esz n (.slice (some ⟨r, o, none⟩) len cap)).run P w = .ok ((List.range (n * esz)).map f).toArray w := by
  simp only [Builtin.firstCells]
  exact run_loadCells (P := P) w ⟨r, o, none⟩ (n * esz) f (fun j hj => by rw [Addr.add_lit]; exact hc j hj)

theorem elems_cells (s : Sim num w0 S h w) {x : V} {xs : List V} (e : elems h x = some xs) {esz : Nat} (hok : ∀ y, y ∈ xs → y.cells.length = esz) {c : Value} (q : VRel num S x c) :
    ∃ news, NewsOk num S esz xs news ∧ (Builtin.lenOf c).run P w = .ok xs.length w ∧ ∀ w', Keeps w w' → (Builtin.firstCells esz xs.length c).run P w' = .ok news.toArray w' := by
  cases x <;> simp only [elems] at e <;> try (cases e; done)
  · simp only [Option.some.injEq] at e; subst e
    obtain ⟨b, rfl, hb⟩ := q.str_inv
    rename_i l
    have hsz : l.length = b.size := by rw [← hb]; simp
    refine ⟨b.data.toList.map fun u => Value.int .u8 u.toNat, ⟨?_, ?_⟩, by simp [Builtin.lenOf, hsz], fun w' _ => ?_⟩
    · cases l with
      | nil =>
        simp only [List.length_nil] at hsz
        have : b.data.size = 0 := hsz.symm
        simp [this]
      | cons ch l =>
        have h1 : esz = 1 := by
          have := hok (V.int .u8 (ch : Int)) (by simp)
          simpa [V.cells] using this.symm
        subst h1
        have : b.data.size = b.size := rfl
        simp only [List.length_map, Array.length_toList, Nat.mul_one]
        omega
    · intro i j x y hx hy
      have h1 : esz = 1 := by
        have := hok x (List.mem_of_getElem? hx)
        simp at hx
        obtain ⟨ch, -, rfl⟩ := hx
        simpa [V.cells] using this.symm
      subst h1
      rw [← hb] at hx
      simp at hx
      obtain ⟨u, hu, rfl⟩ := hx
      cases j with
      | succ j => simp [V.cells] at hy
      | zero =>
        simp [V.cells] at hy
        subst hy
        exact ⟨_, by simp [hu], .int _ _⟩
    · simp only [Builtin.firstCells, Sem.run_pure]
      congr 1
      apply Array.ext'
      simp only [List.length_map, hsz]
      rw [show b.extract 0 b.size = b by simp]
      simp
  · rename_i full l
    simp only [Option.some.injEq] at e; subst e
    cases q with
    | sl0 full ba cap hcap =>
      refine ⟨[], ⟨by simp, fun i j x y hx => by simp at hx⟩, by simp [Builtin.lenOf], fun w' _ => ?_⟩
      cases ba <;> simp [Builtin.firstCells, loadCells, loadCellsFrom]
    | sl full l r o e cap n cv hn hne hf hcap he hc hF hh =>
      subst hn
      have hee : e = esz := by
        cases l with
        | nil => exact absurd rfl hne
        | cons y ys =>
          rw [← hc y (List.mem_cons_self ..)]
          exact hok y (List.mem_cons_self ..)
      subst hee
      refine ⟨(List.range (l.length * e)).map cv, ⟨by simp, fun i j x y hx hy => ⟨cv (i * e + j), ?_, hh i j x y hx hy⟩⟩, by simp [Builtin.lenOf], fun w' hk => ?_⟩
      · have hi : i < l.length := (List.getElem?_eq_some_iff.1 hx).1
        have hj : j < e := by rw [← hc x (List.mem_of_getElem? hx)]; exact (List.getElem?_eq_some_iff.1 hy).1
        have : (i + 1) * e ≤ l.length * e := Nat.mul_le_mul_right _ hi
        rw [Nat.add_mul] at this
        rw [List.getElem?_map, List.getElem?_range (by omega)]; rfl
      · exact firstCells_addr r o _ cap e l.length cv w' (fun j hj => hk _ _ _ (s.frz _ _ _ (hF j hj)))
  · rename_i id lo len e0 cap
    split at e
    · rename_i es e1 k hg
      split at e
      · rename_i hfit
        simp only [Option.some.injEq] at e; subst e
        cases q with
        | ref id lo len e0 cap r b z c hb hl hcap hz =>
          obtain ⟨r2, b2, z2, h1, h2⟩ := s.row id es e1 k hg
          rw [hb] at h1; cases h1
          obtain ⟨cs, el, fz, d1, d2, d3, d4, d5⟩ := h2.blk
          have hlen : ((es.drop lo).take len).length = len := by simp; omega
          have hfits := h2.fits
          have hee : 0 < len → e0 = esz := by
            intro hp
            have hlt : 0 < ((es.drop lo).take len).length := by omega
            have := hok _ (List.getElem_mem hlt)
            rw [← this]
            obtain ⟨m, hm⟩ := List.mem_iff_getElem?.1 (List.mem_of_mem_drop (List.mem_of_mem_take (List.getElem_mem hlt)))
            exact (h2.len m _ hm).symm
          have h3 : (lo + len) * e0 ≤ es.length * e0 := Nat.mul_le_mul_right _ hfit
          rw [Nat.add_mul] at h3
          refine ⟨(List.range (len * esz)).map fun j => cs.getD (b + lo * e0 + j) undef, ⟨by simp [hlen], fun i j x y hx hy => ?_⟩, by simp [Builtin.lenOf, hlen], fun w' hk => ?_⟩
          · have hi : i < len := by have := (List.getElem?_eq_some_iff.1 hx).1; omega
            have hq := hee (by omega)
            subst hq
            rw [List.getElem?_take, if_pos hi, List.getElem?_drop] at hx
            obtain ⟨u, hu, hr⟩ := d4 (lo + i) j y (by rw [cellAt_eq hx]; exact hy)
            rw [Nat.add_mul] at hu
            have hj : j < e0 := by rw [← h2.len _ x hx]; exact (List.getElem?_eq_some_iff.1 hy).1
            have h4 : (i + 1) * e0 ≤ len * e0 := Nat.mul_le_mul_right _ hi
            rw [Nat.add_mul] at h4
            refine ⟨u, ?_, hr⟩
            rw [List.getElem?_map, List.getElem?_range (by omega)]
            have : b + lo * e0 + (i * e0 + j) = b + (lo * e0 + i * e0) + j := by omega
            simp [this, hu]
          · rw [hlen]
            refine firstCells_addr r (b + lo * e0) _ c esz len _ w' (fun j hj => hk _ _ _ ?_)
            have hp : 0 < len := by
              rcases Nat.eq_zero_or_pos len with h0 | h0
              · subst h0; simp at hj
              · exact h0
            have hq := hee hp
            subst hq
            rw [cell?_eq d1]
            have hlt : b + lo * e0 + j < cs.size := by omega
            simp [hlt]
      · cases e
    · cases e

end
end Go.Proofs.Ytakahhnlbciicaa.Ai

namespace Go.Proofs.Ytakahhnlbciicaa.Ai
open Go Go.RowKit

section
variable {num : Nat → Nat} {gl : List Nat} {S : Env} {nt : Nat} {fr : Fr} {a : Act} {P : Program} {w0 w : World} {h : H}

theorem Keeps.refl (w : World) : Keeps w w := fun _ _ _ h => h
theorem Keeps.drew (w : World) : Keeps w w.drew := fun _ _ _ h => h

/-- What is to be shown of an append. -/
def ARes (num : Nat → Nat) (w0 : World) (S : Env) (P : Program) (w : World) (t t2 ty : Nat) (c d : Value) (v : V) (h' : H) : Prop :=
  ∃ T e w', S.le T ∧ (Builtin.append_ #[t, t2] ty #[c, d]).run P w = .ok e w' ∧ VRel num T v e ∧ Sim num w0 T h' w'

theorem NewsOk.append {esz : Nat} {xs ys : List V} {olds news : List Value} (h : NewsOk num S esz xs olds) (k : NewsOk num S esz ys news) : NewsOk num S esz (xs ++ ys) (olds ++ news) := by
  refine ⟨by simp [h.len, k.len, Nat.add_mul], fun i j x y hx hy => ?_⟩
  by_cases hi : i < xs.length
  · rw [List.getElem?_append_left hi] at hx
    obtain ⟨v, hv, hr⟩ := h.rel i j x y hx hy
    exact ⟨v, by rw [List.getElem?_append_left (List.getElem?_eq_some_iff.1 hv).1]; exact hv, hr⟩
  · rw [List.getElem?_append_right (by omega)] at hx
    obtain ⟨v, hv, hr⟩ := k.rel (i - xs.length) j x y hx hy
    refine ⟨v, ?_, hr⟩
    have h1 : xs.length * esz ≤ i * esz := Nat.mul_le_mul_right _ (by omega)
    rw [List.getElem?_append_right (by rw [h.len]; omega), h.len]
    have : i * esz + j - xs.length * esz = (i - xs.length) * esz + j := by rw [Nat.sub_mul]; omega
    rw [this]; exact hv

theorem grow_sound (s : Sim num w0 S h w) {nid : Nat} (hn : h.get nid = none) (hx : nid < h.nx * 256) {esz t t2 el ty : Nat} {i : TypeInfo} {z : Value} (at' : AppT P esz t t2 el i z) (he : 0 < esz)
    {base : Option Addr} {sLen sCap : Nat} {d : Value} {ol xs : List V} {olds news : List Value} (ho : NewsOk num S esz ol olds) (hk : NewsOk num S esz xs news) (hol : ol.length = sLen)
    (hcl : ∀ x, x ∈ ol ++ xs → x.cells.length = esz)
    (hl : (Builtin.lenOf d).run P w = .ok xs.length w) (hnr : (Builtin.firstCells esz xs.length d).run P w.drew = .ok news.toArray w.drew)
    (hor : (Builtin.firstCells esz sLen (.slice base sLen sCap)).run P w.drew = .ok olds.toArray w.drew) (hfit : sCap < sLen + xs.length) (hbd : sLen + xs.length < bound) :
    ARes num w0 S P w t t2 ty (.slice base sLen sCap) d (.ref nid 0 (sLen + xs.length) esz none) (h.set nid (.row (ol ++ xs) esz .slk)) := by
  have hrun := append_grows (ty := ty) at' hl hnr hor hfit hbd
  have hge := grownCap_ge w (sLen + xs.length) sCap el
  generalize grownCap w (sLen + xs.length) sCap el = cap at hrun hge
  have hzc : (Builtin.zeroCells z.cells (cap - (sLen + xs.length))).size = (cap - (sLen + xs.length)) * esz := by simp [Builtin.zeroCells, at'.zlen]
  generalize hcs : olds.toArray ++ news.toArray ++ Builtin.zeroCells z.cells (cap - (sLen + xs.length)) = cs at hrun
  have hcsz : cs.size = cap * esz := by
    rw [← hcs]
    simp only [Array.size_append, List.size_toArray, ho.len, hk.len, hol, hzc]
    rw [Nat.sub_mul, Nat.add_mul]
    have : (sLen + xs.length) * esz ≤ cap * esz := Nat.mul_le_mul_right _ hge
    rw [Nat.add_mul] at this; omega
  have hon := ho.append hk
  obtain ⟨k1, k2⟩ := s.drew.alloc (es := ol ++ xs) (e := esz) (k := .slk) hn hx (by simp) he (fun i x hi => hcl x (List.mem_of_getElem? hi)) cs el (fz := (0, 0)) (FzOk.zero _)
    (by rw [hcsz]; exact Nat.mul_le_mul_right _ (by simp [hol]; exact hge)) (fun i j c hc => by
      unfold cellAt at hc
      cases hq : (ol ++ xs)[i]? with
      | none => rw [hq] at hc; cases hc
      | some x =>
        rw [hq] at hc
        obtain ⟨v, hv, hr⟩ := hon.rel i j x c hq hc
        refine ⟨v, ?_, hr⟩
        have hlt := (List.getElem?_eq_some_iff.1 hv).1
        rw [← hcs]
        rw [Array.getElem?_append_left (by simpa using hlt)]
        simpa using hv)
  refine ⟨_, _, _, k1, hrun, ?_, k2⟩
  have := VRel.ref (num := num) (S := S.add nid (w.drew.heap.size, 0, esz, cs.size)) nid 0 (sLen + xs.length) esz none w.heap.size 0 cs.size cap (Env.add_self _ _ _) hge (fun k hk => by cases hk) (by simp [hcsz])
  simpa using this

theorem Room.up {r lo lo' hi z : Nat} (f : Room w0 S h w r lo hi z) (hl : lo ≤ lo') : Room w0 S h w r lo' hi z :=
  ⟨f.blk, f.old, fun o h1 h2 => f.noF o (by omega) h2, fun j fs g l b' z' h1 h2 h3 => (f.rows j fs g l b' z' h1 h2 h3).imp id (fun hh => by omega), f.iters⟩


/-- Written behind what is there. -/
theorem fits_write (s : Sim num w0 S h w) {esz r p q hi z : Nat} {xs : List V} {news : List Value} (rm : Room w0 S h w r q hi z) (hk : NewsOk num S esz xs news) (hone : ∀ v, v ∈ news → v.oneCell' = true)
    {cs : Array Value} {el : TypeId} {fz : Nat × Nat} (hw : w.heap[r]? = some (.cells cs el fz)) (hz : cs.size = z) (hfz : FzOk fz z) (hq : q ≤ p) (hp : p + xs.length * esz ≤ hi) (hh : hi ≤ z) :
    ∃ w' cs', (storeCells ⟨r, p, none⟩ news).run P w = .ok () w' ∧ Sim num w0 S h w' ∧ Room w0 S h w' r q hi z ∧ w'.heap[r]? = some (.cells cs' el fz) ∧ cs'.size = z ∧
      ∀ k, cs'[k]? = if p ≤ k ∧ k < p + xs.length * esz then news[k - p]? else cs[k]? := by
  have hl := hk.len
  obtain ⟨w', cs', k1, k2, k3, k4, k5⟩ := storeCells_run (P := P) r p el fz z hfz news 0 w cs hw hz (by omega) hone
  obtain ⟨s2, rm2⟩ := s.write rm (k2.mono (by omega) (by omega))
  refine ⟨w', cs', k1, s2, rm2, k3, k4.trans hz, fun k => ?_⟩
  rw [k5 k, hl]
  simp only [Nat.add_zero]

theorem app_sound (s : Sim num w0 S h w) {nid : Nat} (hn : h.get nid = none) (hx : nid < h.nx * 256) {esz t t2 el ty : Nat} {i : TypeInfo} {z : Value} (at' : AppT P esz t t2 el i z)
    {sv xv v : V} {h' : H} (hs : appv esz h nid sv xv = some (v, h')) {c d : Value} (q : VRel num S sv c) (r : VRel num S xv d) : ARes num w0 S P w t t2 ty c d v h' := by
  unfold appv at hs
  cases he : elems h xv with
  | none => rw [he] at hs; cases hs
  | some xs =>
  rw [he] at hs
  cases xs with
  | nil =>
    simp only at hs
    split at hs
    · rename_i hsl
      simp only [Option.some.injEq, Prod.mk.injEq] at hs
      obtain ⟨rfl, rfl⟩ := hs
      obtain ⟨news, k1, k2, k3⟩ := elems_cells (P := P) s he (esz := esz) (fun y hy => by cases hy) r
      have hnil : news = [] := by
        have := k1.len
        simp at this
        exact this
      subst hnil
      have go : ∀ ba n cap, c = .slice ba n cap → n ≤ cap → ARes num w0 S P w t t2 ty c d sv h := by
        intro ba n cap hc hcap
        subst hc
        have := append_fits (ty := ty) at' (base := ba) (sLen := n) (sCap := cap) k2 (k3 w (Keeps.refl w)) (by simpa using hcap)
        refine ⟨S, .slice ba n cap, w, Env.le_refl _, ?_, q, s⟩
        rw [this]
        cases ba <;> simp [storeCells]
      cases q <;> simp only [isSl] at hsl <;> try (cases hsl; done)
      · exact go _ _ _ rfl (Nat.zero_le _)
      · exact go _ _ _ rfl (by assumption)
      · exact go _ _ _ rfl (by assumption)
    · cases hs
  | cons x0 xr =>
  generalize hxs : x0 :: xr = xs at he hs
  have hne : xs ≠ [] := by rw [← hxs]; simp
  simp only at hs
  have hs2 : (if esz = 0 ∨ xs.all (cellsOk esz) = false then none else
    match sv with
    | .sl full l =>
      if full = false then none else
      if l.all (fun v => v.cells.length == esz) = false then none else
      if l.length + xs.length < bound then some (.ref nid 0 (l.length + xs.length) esz none, h.set nid (.row (l ++ xs) esz .slk)) else none
    | .ref id lo len e' cap => match h.get id with
      | some (.row es e k) => if e = esz ∧ e' = esz ∧ lo + len ≤ es.length ∧ len + xs.length < bound then
          match cap with
          | some c => if len + xs.length ≤ c then
              (if k = .ro ∨ es.length < lo + c then none else some (.ref id lo (len + xs.length) esz (some c), h.set id (.row (es.take (lo + len) ++ xs ++ es.drop (lo + len + xs.length)) e k)))
            else some (.ref nid 0 (len + xs.length) esz none, h.set nid (.row ((es.drop lo).take len ++ xs) e .slk))
          | none => if k = .slk then some (.ref nid 0 (len + xs.length) esz none, (h.set id .dead).set nid (.row ((es.drop lo).take len ++ xs) e .slk)) else none
        else none
      | _ => none
    | _ => none) = some (v, h') := by
    rw [← hxs] at hs ⊢; exact hs
  clear hs
  split at hs2
  · cases hs2
  · rename_i hcond
    have hesz : 0 < esz := by
      rcases Nat.eq_zero_or_pos esz with h0 | h0
      · exact absurd (.inl h0) hcond
      · exact h0
    have hall : xs.all (cellsOk esz) = true := by
      cases hq : xs.all (cellsOk esz)
      · exact absurd (.inr hq) hcond
      · rfl
    have hxl : ∀ y, y ∈ xs → y.cells.length = esz := fun y hy => cellsOk_len (List.all_eq_true.1 hall y hy)
    obtain ⟨news, k1, k2, k3⟩ := elems_cells (P := P) s he hxl r
    have hone := k1.one hall hesz
    have hxp : 0 < xs.length := by cases xs with
      | nil => exact absurd rfl hne
      | cons => simp
    cases sv <;> simp only at hs2 <;> try (cases hs2; done)
    case sl full l =>
      split at hs2
      · cases hs2
      · rename_i hfull
        have hfull : full = true := by simpa using hfull
        subst hfull
        split at hs2
        · cases hs2
        · rename_i hla
          have hla : l.all (fun v => v.cells.length == esz) = true := by simpa using hla
          have hll : ∀ y, y ∈ l → y.cells.length = esz := fun y hy => by simpa using List.all_eq_true.1 hla y hy
          split at hs2
          · rename_i hbd
            simp only [Option.some.injEq, Prod.mk.injEq] at hs2
            obtain ⟨rfl, rfl⟩ := hs2
            obtain ⟨olds, m1, m2, m3⟩ := elems_cells (P := P) s (x := .sl true l) (by rfl) hll q
            have hcl : ∀ y, y ∈ l ++ xs → y.cells.length = esz := fun y hy => by
              rcases List.mem_append.1 hy with hy | hy
              · exact hll y hy
              · exact hxl y hy
            cases q with
            | sl0 full ba cap hcap =>
              have := hcap rfl
              subst this
              exact grow_sound s hn hx at' hesz m1 k1 rfl hcl k2 (k3 _ (Keeps.drew w)) (m3 _ (Keeps.drew w)) (by simpa using hxp) hbd
            | sl full l r o e cap n cv hn' hne hf hcap he' hc hF hh =>
              subst hn'
              have := hf rfl
              exact grow_sound s hn hx at' hesz m1 k1 rfl hcl k2 (k3 _ (Keeps.drew w)) (m3 _ (Keeps.drew w)) (by omega) hbd
          · cases hs2
    case ref id lo len e' cap =>
      split at hs2
      · rename_i es e k hg
        split at hs2
        · rename_i hb
          obtain ⟨rfl, rfl, hfit, hbd⟩ := hb
          have hel : elems h (.ref id lo len e' cap) = some ((es.drop lo).take len) := by simp [elems, hg, hfit]
          have hlen : ((es.drop lo).take len).length = len := by simp; omega
          cases q with
          | ref id lo len e' cap r b z' c hb hl hcap hz =>
          obtain ⟨r2, b2, z2, h1, h2⟩ := s.row id es e' k hg
          rw [hb] at h1; cases h1
          obtain ⟨cs, el', fz, d1, d2, d3, d4, d5⟩ := h2.blk
          have hfits := h2.fits
          have hll : ∀ y, y ∈ (es.drop lo).take len → y.cells.length = e' := fun y hy => by
            obtain ⟨m, hm⟩ := List.mem_iff_getElem?.1 (List.mem_of_mem_drop (List.mem_of_mem_take hy))
            exact h2.len m y hm
          have hcl : ∀ y, y ∈ (es.drop lo).take len ++ xs → y.cells.length = e' := fun y hy => by
            rcases List.mem_append.1 hy with hy | hy
            · exact hll y hy
            · exact hxl y hy
          obtain ⟨olds, m1, m2, m3⟩ := elems_cells (P := P) s hel hll (.ref id lo len e' cap r b z' c hb hl hcap hz)
          have hgrow : ∀ {hh : H}, Sim num w0 S hh w → hh.get nid = none → nid < hh.nx * 256 → c < len + xs.length →
              ARes num w0 S P w t t2 ty (.slice (some ⟨r, b + lo * e', none⟩) len c) d (.ref nid 0 (len + xs.length) e' none) (hh.set nid (.row ((es.drop lo).take len ++ xs) e' .slk)) :=
            fun ss hn2 hx2 hlt => grow_sound ss hn2 hx2 at' hesz m1 k1 hlen hcl k2 (k3 _ (Keeps.drew w)) (by rw [← hlen]; rw [hlen] at m3 ⊢; exact m3 _ (Keeps.drew w)) hlt hbd
          have hin : len + xs.length ≤ c → (Builtin.append_ #[t, t2] ty #[.slice (some ⟨r, b + lo * e', none⟩) len c, d]).run P w =
              ((storeCells ⟨r, b + lo * e' + len * e', none⟩ news).run P w).andThen fun _ w' => .ok (.slice (some ⟨r, b + lo * e', none⟩) (len + xs.length) c) w' := by
            intro hle
            have := append_fits (ty := ty) at' (base := some ⟨r, b + lo * e', none⟩) k2 (k3 w (Keeps.refl w)) hle
            rw [this]
            simp only [Addr.add_lit]
          have hdrop : ∀ j x, ((es.drop lo).take len)[j]? = some x → j < len ∧ es[lo + j]? = some x := by
            intro j x hj
            have hi : j < len := by have := (List.getElem?_eq_some_iff.1 hj).1; omega
            rw [List.getElem?_take, if_pos hi, List.getElem?_drop] at hj
            exact ⟨hi, hj⟩
          split at hs2
          · rename_i c'
            have := hcap c' rfl
            subst this
            split at hs2
            · rename_i hle
              split at hs2
              · cases hs2
              · rename_i hko
                simp only [Option.some.injEq, Prod.mk.injEq] at hs2
                obtain ⟨rfl, rfl⟩ := hs2
                have hkro : k ≠ .ro := fun e => hko (.inl e)
                have hesc : lo + c ≤ es.length := Nat.le_of_not_lt fun e => hko (.inr e)
                have hhi : b + es.length * e' ≤ k.hi b e' es.length z' := by
                  unfold Kind.hi; split
                  · exact hfits
                  · exact Nat.le_refl _
                have hhz : k.hi b e' es.length z' ≤ z' := by
                  unfold Kind.hi; split
                  · exact Nat.le_refl _
                  · exact hfits
                have e1 : (lo + len + xs.length) * e' ≤ es.length * e' := Nat.mul_le_mul_right _ (by omega)
                rw [Nat.add_mul, Nat.add_mul] at e1
                have rm := s.room hg hkro hb
                have s1 := s.kill (id := id) (by rw [hg]; rfl)
                obtain ⟨w', cs', n1, n2, n3, n4, n5, n6⟩ := fits_write (P := P) s1 rm k1 hone d1 d2 (d3 hkro) (p := b + lo * e' + len * e') (by omega) (by omega) hhz
                have hx0 : id < (h.set id .dead).nx * 256 := by
                  rw [H.nx_set]
                  exact Nat.lt_of_not_le fun hle => by rw [s.fresh id hle] at hg; cases hg
                have hlen' : (es.take (lo + len) ++ xs ++ es.drop (lo + len + xs.length)).length = es.length := by
                  simp only [List.length_append, List.length_take, List.length_drop]; omega
                have hget := fun j => get_splice es xs (lo + len) xs.length j rfl (by omega)
                have res := n2.claim (nid := id) (es := es.take (lo + len) ++ xs ++ es.drop (lo + len + xs.length)) (e := e') (k := k) (T := S) n3 (.inr (by rw [H.get_set, if_pos rfl])) hx0 hkro h2.pos (fun j y hj => by
                  rw [hget] at hj
                  split at hj
                  · exact hxl y (List.mem_of_getElem? hj)
                  · exact h2.len j y hj) (Env.le_refl _) rfl hb (fun _ _ => rfl) (by rw [hlen']; exact Nat.le_refl _) (by rw [hlen']; omega) n4 (fun j m y hy => by
                  unfold cellAt at hy
                  rw [hget] at hy
                  rw [n6]
                  split at hy
                  · rename_i hj
                    cases hq : xs[j - (lo + len)]? with
                    | none => rw [hq] at hy; cases hy
                    | some x =>
                      rw [hq] at hy
                      obtain ⟨u, hu, hr⟩ := k1.rel _ m x y hq hy
                      have hm : m < e' := by rw [← hxl x (List.mem_of_getElem? hq)]; exact (List.getElem?_eq_some_iff.1 hy).1
                      refine ⟨u, ?_, hr⟩
                      have e2 : (lo + len) * e' ≤ j * e' := Nat.mul_le_mul_right _ hj.1
                      have e3 : (j + 1) * e' ≤ (lo + len + xs.length) * e' := Nat.mul_le_mul_right _ hj.2
                      rw [Nat.add_mul] at e2
                      rw [Nat.add_mul, Nat.add_mul, Nat.add_mul] at e3
                      rw [if_pos (by omega)]
                      have : b + j * e' + m - (b + lo * e' + len * e') = (j - (lo + len)) * e' + m := by
                        rw [Nat.sub_mul, Nat.add_mul]; omega
                      rw [this]; exact hu
                  · rename_i hj
                    have hy' : cellAt es j m = some y := hy
                    rw [if_neg]
                    · exact d4 j m y hy'
                    · cases hq : es[j]? with
                      | none => rw [hq] at hy; cases hy
                      | some x =>
                        rw [hq] at hy
                        have hm : m < e' := by rw [← h2.len j x hq]; exact (List.getElem?_eq_some_iff.1 hy).1
                        by_cases hj2 : j < lo + len
                        · have e2 : (j + 1) * e' ≤ (lo + len) * e' := Nat.mul_le_mul_right _ hj2
                          rw [Nat.add_mul, Nat.add_mul] at e2; omega
                        · have e2 : (lo + len + xs.length) * e' ≤ j * e' := Nat.mul_le_mul_right _ (by omega)
                          rw [Nat.add_mul, Nat.add_mul] at e2; omega)
                refine ⟨S, _, w', Env.le_refl _, ?_, .ref id lo (len + xs.length) e' (some c) r b z' c hb hle hcap hz, res.heq ⟨rfl, fun m => by simp only [H.get_set]; split <;> rfl⟩⟩
                rw [hin hle, n1]; rfl
            · rename_i hle
              simp only [Option.some.injEq, Prod.mk.injEq] at hs2
              obtain ⟨rfl, rfl⟩ := hs2
              exact hgrow s hn hx (by omega)
          · split at hs2
            · rename_i hks
              subst hks
              simp only [Option.some.injEq, Prod.mk.injEq] at hs2
              obtain ⟨rfl, rfl⟩ := hs2
              have hni : nid ≠ id := by rintro rfl; rw [hg] at hn; cases hn
              have hn2 : (h.set id .dead).get nid = none := by rw [H.get_set, if_neg hni]; exact hn
              have s1 := s.kill (id := id) (by rw [hg]; rfl)
              by_cases hle : len + xs.length ≤ c
              · have rm := (s.room hg (by simp) hb).up (lo' := b + lo * e') (by omega)
                have e1 : (lo + (len + xs.length)) * e' ≤ (lo + c) * e' := Nat.mul_le_mul_right _ (by omega)
                rw [Nat.add_mul, Nat.add_mul] at e1
                have hhi : Kind.slk.hi b e' es.length z' = z' := by simp [Kind.hi]
                rw [hhi] at rm
                obtain ⟨w', cs', n1, n2, n3, n4, n5, n6⟩ := fits_write (P := P) s1 rm k1 hone d1 d2 (d3 (by simp)) (p := b + lo * e' + len * e') (by omega) (by omega) (Nat.le_refl _)
                have hb0 : S.β nid = none := by
                  have := s.dom nid
                  rw [hn] at this
                  cases hb : S.β nid with
                  | none => rfl
                  | some x => rw [hb] at this; simp at this
                have hle' := Env.le_add (r, b + lo * e', e', z') hb0
                have res := n2.claim (nid := nid) (es := (es.drop lo).take len ++ xs) (e := e') (k := .slk) (T := S.add nid (r, b + lo * e', e', z')) n3 (.inl hn2) (by rw [H.nx_set]; exact hx) (by simp) h2.pos
                  (fun j y hj => hcl y (List.mem_of_getElem? hj)) hle' rfl (Env.add_self _ _ _) (fun m hm => Env.add_ne _ _ hm) (by simp [Kind.hi]) (by simp only [List.length_append, hlen, Nat.add_mul]; omega) n4 (fun j m y hy => by
                  unfold cellAt at hy
                  rw [n6]
                  by_cases hj : j < len
                  · rw [List.getElem?_append_left (by rw [hlen]; exact hj)] at hy
                    cases hq : ((es.drop lo).take len)[j]? with
                    | none => rw [hq] at hy; cases hy
                    | some x =>
                      rw [hq] at hy
                      obtain ⟨-, hq2⟩ := hdrop j x hq
                      obtain ⟨u, hu, hr⟩ := d4 (lo + j) m y (by rw [cellAt_eq hq2]; exact hy)
                      have hm : m < e' := by rw [← h2.len _ x hq2]; exact (List.getElem?_eq_some_iff.1 hy).1
                      have e2 : (j + 1) * e' ≤ len * e' := Nat.mul_le_mul_right _ hj
                      rw [Nat.add_mul] at e2
                      rw [Nat.add_mul] at hu
                      refine ⟨u, ?_, hr⟩
                      rw [if_neg (by omega)]
                      rw [show b + lo * e' + j * e' + m = b + (lo * e' + j * e') + m by omega]
                      exact hu
                  · rw [List.getElem?_append_right (by rw [hlen]; omega), hlen] at hy
                    cases hq : xs[j - len]? with
                    | none => rw [hq] at hy; cases hy
                    | some x =>
                      rw [hq] at hy
                      obtain ⟨u, hu, hr⟩ := k1.rel _ m x y hq hy
                      have hm : m < e' := by rw [← hxl x (List.mem_of_getElem? hq)]; exact (List.getElem?_eq_some_iff.1 hy).1
                      have hj2 : j - len < xs.length := (List.getElem?_eq_some_iff.1 hq).1
                      have e2 : len * e' ≤ j * e' := Nat.mul_le_mul_right _ (by omega)
                      have e3 : (j + 1) * e' ≤ (len + xs.length) * e' := Nat.mul_le_mul_right _ (by omega)
                      rw [Nat.add_mul, Nat.add_mul] at e3
                      refine ⟨u, ?_, hr⟩
                      rw [if_pos (by omega)]
                      have : b + lo * e' + j * e' + m - (b + lo * e' + len * e') = (j - len) * e' + m := by
                        rw [Nat.sub_mul]; omega
                      rw [this]; exact hu)
                refine ⟨_, .slice (some ⟨r, b + lo * e', none⟩) (len + xs.length) c, w', hle', ?_, ?_, res⟩
                · rw [hin hle, n1]; rfl
                · have := VRel.ref (num := num) (S := S.add nid (r, b + lo * e', e', z')) nid 0 (len + xs.length) e' none r (b + lo * e') z' c (Env.add_self _ _ _) hle (fun k hk => by cases hk) (by
                    rw [Nat.zero_add]; rw [Nat.add_mul] at hz; omega)
                  simpa using this
              · exact hgrow s1 hn2 (by rw [H.nx_set]; exact hx) (by omega)
            · cases hs2
        · cases hs2
      · cases hs2

end
end Go.Proofs.Ytakahhnlbciicaa.Ai

namespace Go.Proofs.Ytakahhnlbciicaa.Ai
open Go Go.RowKit

section
variable {num : Nat → Nat} {gl : List Nat} {S : Env} {nt : Nat} {fr : Fr} {a : Act} {P : Program} {w0 w : World} {h : H}

/-- A new block whose cells will not change, which no name holds. -/
theorem Sim.allocF (s : Sim num w0 S h w) (cs : Array Value) (el : TypeId) : S.le (S.hold w.heap.size 0 cs.size cs) ∧ Sim num w0 (S.hold w.heap.size 0 cs.size cs) h (w.alloc (.cells cs el)) := by
  have hFnew : ∀ o, S.F w.heap.size o = none := fun o => by
    cases hf : S.F w.heap.size o with
    | none => rfl
    | some v => exact absurd (cell?_lt (s.frz _ _ _ hf)) (Nat.lt_irrefl _)
  have hle : S.le (S.hold w.heap.size 0 cs.size cs) := ⟨fun _ _ hh => hh, fun r o u hu => by
    simp only [Env.hold]
    rw [if_neg]
    · exact hu
    · rintro ⟨rfl, -⟩; rw [hFnew] at hu; cases hu⟩
  have hsz : w0.heap.size ≤ w.heap.size := s.below.size
  refine ⟨hle, s.below.alloc hsz _, fun r o v hv => ?_, s.dom, s.fresh, fun id es e k hg => ?_, s.disj, fun id l p hg => ?_, s.iterD⟩
  · simp only [Env.hold] at hv
    split at hv
    · rename_i hc
      obtain ⟨rfl, -, -⟩ := hc
      rw [cell?_eq (alloc_new w _)]; exact hv
    · exact cell?_alloc (s.frz _ _ _ hv)
  · obtain ⟨r, b, z, h1, h2⟩ := s.row id es e k hg
    obtain ⟨_, _, _, hblk, _⟩ := h2.blk
    refine ⟨r, b, z, h1, h2.mono hle (by rw [hblk]; exact alloc_old hblk) (fun hk o h3 h4 => ?_)⟩
    simp only [Env.hold]
    rw [if_neg]
    · exact h2.noF hk o h3 h4
    · rintro ⟨rfl, -⟩; exact absurd (heap_lt hblk) (Nat.lt_irrefl _)
  · obtain ⟨r, sb, h1, h2, h3, h4⟩ := s.iter id l p hg
    exact ⟨r, sb, h1, alloc_old h2, h3, h4⟩

/-- A slice that is made by value. -/
def okB (num : Nat → Nat) (gl : List Nat) (P : Program) (o : Op) (i : I) : Bool :=
  match i with
  | .bslF esz z n ps => (match o with
    | .buildSlice t len ps' => (match sliceOf P t with | some el => sizeB P el esz && zeroB P el z | none => false) && (n == len) && decide (n * esz ≤ 16777216) && elemsB num gl ps'.toList ps
    | _ => false)
  | _ => false

theorem NewsOk.set {esz : Nat} {es : List V} {zs : Array Value} (k : NewsOk num S esz es zs.toList) (hl : ∀ x, x ∈ es → x.cells.length = esz) {v : V} {c : Value} (q : VRel num S v c) (hv : v.cells.length = esz) {i : Nat} (hi : i < es.length) :
    NewsOk num S esz (es.set i v) (c.cells.zipIdx.foldl (fun cs (c, j) => cs.setIfInBounds (i * esz + j) c) zs).toList := by
  have qc := q.cells
  have hcl : c.cells.toList.length = esz := by rw [← qc.1, hv]
  have hzl : zs.size = es.length * esz := by have := k.len; simpa using this
  have hb : (i + 1) * esz ≤ es.length * esz := Nat.mul_le_mul_right _ hi
  rw [Nat.add_mul] at hb
  have e : (c.cells.zipIdx.foldl (fun cs (c, j) => cs.setIfInBounds (i * esz + j) c) zs) = (c.cells.toList.zipIdx.foldl (fun cs (x : Value × Nat) => cs.setIfInBounds (i * esz + x.2) x.1) zs) := by
    rw [← Array.foldl_toList, Array.toList_zipIdx]
  rw [e]
  obtain ⟨h1, h2⟩ := fold_set (i * esz) c.cells.toList 0 zs (by omega)
  refine ⟨by simp only [Array.length_toList, h1, List.length_set]; exact hzl, fun j m x y hx hy => ?_⟩
  rw [Array.getElem?_toList, h2, hcl]
  simp only [Nat.add_zero]
  by_cases hji : j = i
  · subst hji
    rw [List.getElem?_set_self hi] at hx
    cases hx
    have hm : m < esz := by rw [← hv]; exact (List.getElem?_eq_some_iff.1 hy).1
    rw [if_pos (by omega)]
    have hml : m < c.cells.toList.length := by omega
    refine ⟨c.cells.toList[m], ?_, qc.2 m y _ hy (List.getElem?_eq_getElem hml)⟩
    rw [show j * esz + m - j * esz = m by omega]
    exact List.getElem?_eq_getElem hml
  · rw [List.getElem?_set_ne (Ne.symm hji)] at hx
    obtain ⟨u, hu, hr⟩ := k.rel j m x y hx hy
    have hm : m < esz := by rw [← hl x (List.mem_of_getElem? hx)]; exact (List.getElem?_eq_some_iff.1 hy).1
    rw [if_neg]
    · exact ⟨u, by simpa using hu, hr⟩
    · rcases Nat.lt_or_gt_of_ne hji with hlt | hgt
      · have : (j + 1) * esz ≤ i * esz := Nat.mul_le_mul_right _ hlt
        rw [Nat.add_mul] at this; omega
      · have : (i + 1) * esz ≤ j * esz := Nat.mul_le_mul_right _ hgt
        rw [Nat.add_mul] at this; omega

theorem fillE_run (hg : Glob gl S) (hf : FRel num S nt fr a) {esz : Nat} :
    ∀ (ps' : List (Nat × Operand)) (ps : List (Nat × O)) (l : List (Nat × V)) (es es' : List V) (zs : Array Value),
      elemsB num gl ps' ps = true → pairs fr ps = some l → fillE esz es l = some es' → NewsOk num S esz es zs.toList → (∀ x, x ∈ es → x.cells.length = esz) →
      ∃ cz, Instr.fill (fun i => some (i * esz, esz)) zs (ps'.map fun (i, x) => (i, a.eval x)) = some cz ∧ NewsOk num S esz es' cz.toList ∧ (∀ x, x ∈ es' → x.cells.length = esz) ∧ es'.length = es.length
  | [], ps, l, es, es', zs, h1, h2, h3, h4, h5 => by
    cases ps <;> simp [elemsB] at h1
    simp [pairs] at h2
    subst h2
    simp [fillE] at h3
    subst h3
    exact ⟨zs, rfl, h4, h5, rfl⟩
  | (i, x) :: ps', ps, l, es, es', zs, h1, h2, h3, h4, h5 => by
    cases ps with
    | nil => simp [elemsB] at h1
    | cons p ps =>
      obtain ⟨j, y⟩ := p
      simp only [elemsB, Bool.and_eq_true, beq_iff_eq] at h1
      obtain ⟨⟨rfl, h6⟩, h7⟩ := h1
      simp only [pairs] at h2
      cases hy : y.ev fr with
      | none => rw [hy] at h2; simp at h2
      | some v => cases ht : pairs fr ps with
        | none => rw [hy, ht] at h2; simp at h2
        | some m =>
          rw [hy, ht] at h2
          simp only [Option.some.injEq] at h2; subst h2
          simp only [fillE] at h3
          split at h3
          · rename_i hfit
            have r := okO_rel hg hf h6 hy
            have hsz : (a.eval x).cells.size = esz := by have := r.cells.1; simp at this; omega
            have hzl : zs.size = es.length * esz := by have := h4.len; simpa using this
            have hb : (i + 1) * esz ≤ es.length * esz := Nat.mul_le_mul_right _ hfit.2
            rw [Nat.add_mul] at hb
            obtain ⟨cz, k1, k2, k3, k4⟩ := fillE_run hg hf ps' ps m _ es' _ h7 ht h3 (h4.set h5 r hfit.1 hfit.2) (fun u hu => by
              rcases List.mem_or_eq_of_mem_set hu with hu | rfl
              · exact h5 u hu
              · exact hfit.1)
            refine ⟨cz, ?_, k2, k3, by rw [k4]; simp⟩
            simp only [List.map_cons, Instr.fill]
            rw [if_neg (by simp [hsz]; omega)]
            exact k1
          · cases h3

theorem bslF_sound (hg : Glob gl S) (hf : FRel num S nt fr a) (s : Sim num w0 S h w) {o : Oper} {i : I} (hok : okB num gl P o.op i = true) {v : V} (hs : stepP fr i = some v) : ERes num w0 S P a o w v h := by
  cases i <;> simp only [okB] at hok <;> try (cases hok; done)
  rename_i esz z n ps
  split at hok
  · rename_i t len ps' heq
    simp only [Bool.and_eq_true, beq_iff_eq, decide_eq_true_eq] at hok
    obtain ⟨⟨⟨h1, rfl⟩, h2⟩, h3⟩ := hok
    split at h1
    · rename_i el hel
      simp only [Bool.and_eq_true] at h1
      obtain ⟨c, k1, k2, -⟩ := zeroB_run h1.2
      simp only [stepP] at hs
      split at hs
      · rename_i l hl
        split at hs
        · rename_i es hes
          split at hs
          · rename_i hz
            simp only [Option.some.injEq] at hs; subst hs
            obtain ⟨hz, hpos⟩ := hz
            have kc := (k2 num S).cells
            have hcs : c.cells.size = esz := by have := kc.1; simp at this; omega
            generalize hzz : (if n * esz = 0 then #[] else c.cells) = zz
            generalize hin : (Array.range (n * esz)).map (zz[· % zz.size]!) = zs
            have hinit : NewsOk num S esz (List.replicate n z) zs.toList := by
              refine ⟨by rw [← hin]; simp, fun i j x y hx hy => ?_⟩
              rw [List.getElem?_replicate] at hx
              split at hx
              · rename_i hi
                cases hx
                have hj : j < esz := by rw [← hz]; exact (List.getElem?_eq_some_iff.1 hy).1
                have h4 : (i + 1) * esz ≤ n * esz := Nat.mul_le_mul_right _ hi
                rw [Nat.add_mul] at h4
                have hzz' : zz = c.cells := by rw [← hzz, if_neg (by omega)]
                have hjc : j < c.cells.size := by omega
                refine ⟨c.cells[j], ?_, kc.2 j y _ hy (by simp [hjc])⟩
                rw [← hin, hzz']
                simp only [Array.toList_map, Array.toList_range, List.getElem?_map]
                rw [List.getElem?_range (by omega)]
                simp only [Option.map_some, hcs]
                have : (i * esz + j) % esz = j := by rw [Nat.add_comm, Nat.add_mul_mod_self_right, Nat.mod_eq_of_lt hj]
                rw [this, getElem!_pos c.cells j hjc]
              · cases hx
            obtain ⟨cz, m1, m2, m3, m4⟩ := fillE_run hg hf _ _ _ _ _ _ h3 hl hes hinit (fun x hx => by rw [List.eq_of_mem_replicate hx]; exact hz)
            obtain ⟨q1, q2⟩ := s.allocF cz el
            have hlen : es.length = n := by rw [m4]; simp
            have hczs : cz.size = n * esz := by have := m2.len; simp at this; rw [this, hlen]
            refine ⟨_, .slice (some ⟨w.heap.size, 0, none⟩) n n, _, q1, ?_, ?_, q2⟩
            · have hlim : ¬ (16777216 < n * esz) := by omega
              have m1' : Instr.fill (fun i => some (i * esz, esz)) zs (List.map (fun x : Nat × Operand => (x.1, a.eval x.2)) ps'.toList) = some cz := m1
              by_cases hq : n * esz = 0
              · rw [if_pos hq] at hzz
                subst hzz
                simp only [execOp, heq, Instr.buildSlice, Sem.run_bind, run_underlying (sliceOf_eq hel), Result.andThen_ok, run_sizeB h1.1, gt_iff_lt, Nat.reducePow, hlim, if_false, if_pos hq, Sem.run_pure, hin, Array.toList_map, m1', newRow, run_newObj, World.alloc_eq]
              · rw [if_neg hq] at hzz
                subst hzz
                simp only [execOp, heq, Instr.buildSlice, Sem.run_bind, run_underlying (sliceOf_eq hel), Result.andThen_ok, run_sizeB h1.1, gt_iff_lt, Nat.reducePow, hlim, if_false, if_neg hq, k1, Sem.run_pure, hin, Array.toList_map, m1', newRow, run_newObj, World.alloc_eq]
            · by_cases h0 : n = 0
              · subst h0
                have : es = [] := List.length_eq_zero_iff.1 hlen
                subst this
                exact .sl0 _ _ _ (fun _ => rfl)
              · refine .sl true es w.heap.size 0 esz n n (fun k => cz.getD k undef) hlen.symm (by intro e; subst e; simp at hlen; omega) (fun _ => rfl) (Nat.le_refl _) hpos m3 (fun k hk => ?_) (fun i j x y hx hy => ?_)
                · have hk' : k < cz.size := by omega
                  simp [Env.hold, hk']
                · obtain ⟨u, hu, hr⟩ := m2.rel i j x y hx hy
                  have : cz[i * esz + j]? = some u := by simpa using hu
                  simp only [Array.getD_eq_getD_getElem?, this, Option.getD_some]
                  exact hr.mono q1
          · cases hs
        · cases hs
      · cases hs
    · cases h1
  · cases hok


/-- A slice that is made in memory. -/
def okBr (num : Nat → Nat) (gl : List Nat) (P : Program) (o : Op) (i : I) : Bool :=
  match i with
  | .bsl esz z n ps => (match o with
    | .buildSlice t len ps' => (match sliceOf P t with | some el => sizeB P el esz && zeroB P el z | none => false) && (n == len) && decide (n * esz ≤ 16777216) && elemsB num gl ps'.toList ps
    | _ => false)
  | _ => false

theorem bsl_sound (hg : Glob gl S) (hf : FRel num S nt fr a) (s : Sim num w0 S h w) {nid : Nat} (hn : h.get nid = none) (hx : nid < h.nx * 256) {o : Oper} {i : I} (hok : okBr num gl P o.op i = true) {v : V} {b : Blk} (hs : stepE fr nid i = some (v, b)) : ERes num w0 S P a o w v (h.set nid b) := by
  cases i <;> simp only [okBr] at hok <;> try (cases hok; done)
  rename_i esz z n ps
  split at hok
  · rename_i t len ps' heq
    simp only [Bool.and_eq_true, beq_iff_eq, decide_eq_true_eq] at hok
    obtain ⟨⟨⟨h1, rfl⟩, h2⟩, h3⟩ := hok
    split at h1
    · rename_i el hel
      simp only [Bool.and_eq_true] at h1
      obtain ⟨c, k1, k2, -⟩ := zeroB_run h1.2
      simp only [stepE] at hs
      split at hs
      · rename_i l hl
        split at hs
        · rename_i es hes
          split at hs
          · rename_i hz
            simp only [Option.some.injEq, Prod.mk.injEq] at hs
            obtain ⟨rfl, rfl⟩ := hs
            obtain ⟨hz, hpos, hn0⟩ := hz
            have kc := (k2 num S).cells
            have hcs : c.cells.size = esz := by have := kc.1; simp at this; omega
            generalize hzz : (if n * esz = 0 then #[] else c.cells) = zz
            generalize hin : (Array.range (n * esz)).map (zz[· % zz.size]!) = zs
            have hinit : NewsOk num S esz (List.replicate n z) zs.toList := by
              refine ⟨by rw [← hin]; simp, fun i j x y hx hy => ?_⟩
              rw [List.getElem?_replicate] at hx
              split at hx
              · rename_i hi
                cases hx
                have hj : j < esz := by rw [← hz]; exact (List.getElem?_eq_some_iff.1 hy).1
                have h4 : (i + 1) * esz ≤ n * esz := Nat.mul_le_mul_right _ hi
                rw [Nat.add_mul] at h4
                have hzz' : zz = c.cells := by rw [← hzz, if_neg (by omega)]
                have hjc : j < c.cells.size := by omega
                refine ⟨c.cells[j], ?_, kc.2 j y _ hy (by simp [hjc])⟩
                rw [← hin, hzz']
                simp only [Array.toList_map, Array.toList_range, List.getElem?_map]
                rw [List.getElem?_range (by omega)]
                simp only [Option.map_some, hcs]
                have : (i * esz + j) % esz = j := by rw [Nat.add_comm, Nat.add_mul_mod_self_right, Nat.mod_eq_of_lt hj]
                rw [this, getElem!_pos c.cells j hjc]
              · cases hx
            obtain ⟨cz, m1, m2, m3, m4⟩ := fillE_run hg hf _ _ _ _ _ _ h3 hl hes hinit (fun x hx => by rw [List.eq_of_mem_replicate hx]; exact hz)
            have hlen : es.length = n := by rw [m4]; simp
            have hczs : cz.size = n * esz := by have := m2.len; simp at this; rw [this, hlen]
            obtain ⟨q1, q2⟩ := s.alloc (es := es) (e := esz) (k := .rw) hn hx (by simp) hpos (fun i x hi => m3 x (List.mem_of_getElem? hi)) cz el (fz := (0, 0)) (FzOk.zero _) (by rw [hlen, hczs]; exact Nat.le_refl _) (fun i j x hxx => by
              unfold cellAt at hxx
              obtain ⟨y, hy, hyx⟩ := Option.bind_eq_some_iff.1 hxx
              obtain ⟨u, hu, hr⟩ := m2.rel i j y x hy hyx
              exact ⟨u, by simpa using hu, hr⟩)
            refine ⟨_, .slice (some ⟨w.heap.size, 0, none⟩) n n, _, q1, ?_, ?_, q2⟩
            · have hlim : ¬ (16777216 < n * esz) := by omega
              have m1' : Instr.fill (fun i => some (i * esz, esz)) zs (List.map (fun x : Nat × Operand => (x.1, a.eval x.2)) ps'.toList) = some cz := m1
              by_cases hq : n * esz = 0
              · rw [if_pos hq] at hzz
                subst hzz
                simp only [execOp, heq, Instr.buildSlice, Sem.run_bind, run_underlying (sliceOf_eq hel), Result.andThen_ok, run_sizeB h1.1, gt_iff_lt, Nat.reducePow, hlim, if_false, if_pos hq, Sem.run_pure, hin, Array.toList_map, m1', newRow, run_newObj, World.alloc_eq]
              · rw [if_neg hq] at hzz
                subst hzz
                simp only [execOp, heq, Instr.buildSlice, Sem.run_bind, run_underlying (sliceOf_eq hel), Result.andThen_ok, run_sizeB h1.1, gt_iff_lt, Nat.reducePow, hlim, if_false, if_neg hq, k1, Sem.run_pure, hin, Array.toList_map, m1', newRow, run_newObj, World.alloc_eq]
            · have := VRel.ref (num := num) (S := S.add nid (w.heap.size, 0, esz, cz.size)) nid 0 n esz (some n) w.heap.size 0 cz.size n (Env.add_self _ _ _) (Nat.le_refl _) (fun k hk => by cases hk; rfl) (by rw [hczs]; simp)
              simpa using this
          · cases hs
        · cases hs
      · cases hs
    · cases h1
  · cases hok

end
end Go.Proofs.Ytakahhnlbciicaa.Ai
end
