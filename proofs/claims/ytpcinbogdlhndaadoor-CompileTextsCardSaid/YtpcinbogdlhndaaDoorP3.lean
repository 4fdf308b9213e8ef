/-
  The card of 'CompileTexts' is met. The law has no arguments; the package-level variables are as the program's text lays them; no other condition. By an AI agent; no person has read it.
-/
import Derived.Test.YtpcinbogdlhndaaDoorCards
import Derived.Test.YtpcinbogdlhndaaDoorTie
import Derived.Test.YtpcinbogdlhndaaDoorT
import Derived.Test.YtpcinbogdlhndaaDoorShelf
import Derived.Lib.LaidU8
import Derived.Deep.DeepWitnessRowRef
import Derived.WalkKit
import Derived.ProofKit
import Derived.OpenShut
import Derived.Deep.DeepHandedRow
import Derived.Deep.DeepLaidRun
import Derived.Lib.LaidTab
import Derived.LaidLaws
namespace Go.Proofs.YtpcinbogdlhndaaDoor.compileTexts
open Go.ChangeShapes Go.WideShapes Go.ChangeAt Go.RowKit
open Go Go.Proofs.YtpcinbogdlhndaaDoor.Ai
set_option maxRecDepth 100000


theorem i64 : Tryd.prog.underlying 3 = some (.int .i64) := by kernel_rfl
theorem l64 : Tryd.prog.underlying 2 = some (.int .i64) := by kernel_rfl
theorem size2 : Tryd.prog.cellsOf 2 = 1 := by kernel_rfl
theorem size3 : Tryd.prog.cellsOf 3 = 1 := by kernel_rfl
theorem size23 : Tryd.prog.cellsOf 23 = 6 := by kernel_rfl

/-- A variable that reads as a slice of strings holds them. -/
theorem strs_of_reads {P : Program} {w : World} {name : String} {g : Nat} {t e : TypeId} {l : List (List UInt8)} (hn : P.globalNamed name = some g) (hy : (P.globals[g]?).map (·.type) = some t)
    (ht : P.underlying t = some (.slice e)) (he : P.underlying e = some .string) (hc : P.cellsOf e = 1) (hl : 0 < l.length) (h : Lib.VarReads P w name (.slice (l.map fun x => .lit (.string x)) [])) :
    ∃ R o el fz, w.heap[g]? = some (.cells #[.slice (some ⟨R, o, none⟩) l.length l.length] el fz) ∧ ∀ j x, l[j]? = some x → ∃ s : ByteArray, w.cell? ⟨R, o + j, none⟩ = some (.string s) ∧ s.data.toList = x := by
  obtain ⟨g', t', cs, fuel, p, hg, hty, hvar, hd⟩ := h
  obtain rfl := Option.some.inj (hn.symm.trans hg)
  obtain rfl := Option.some.inj (hy.symm.trans hty)
  rcases DataW.trod_slice ht hd with ⟨_, hx⟩ | ⟨a, len, cap, el, rs, m, rfl, hcs, hx, _, hlc, _, hel, helem, hsp, _⟩
  · cases hx
  have e0 := congrArg Prod.fst hx
  simp only [DataW.slice.injEq] at e0
  obtain ⟨eE, eR⟩ := e0
  have hrs : rs = [] := by simpa using eR.symm
  have hlen : len = l.length := by
    have := congrArg List.length eE
    simp at this
    omega
  have hcap : cap = len := by
    have := (hsp rfl).1
    rw [hrs] at this
    simp at this
    omega
  have hcell : ∀ j x, l[j]? = some x → ∃ s : ByteArray, w.cell? (a.add j) = some (.string s) ∧ s.data.toList = x := by
    intro j x hj
    have hjl : j < l.length := (List.getElem?_eq_some_iff.1 hj).1
    have h1 := helem j (by omega)
    rw [hc] at h1
    obtain ⟨b, hb⟩ : ∃ b, el[j]? = some b := ⟨el[j]'(by omega), List.getElem?_eq_getElem (by omega)⟩
    rw [hb] at h1
    obtain ⟨ce, hce, hte⟩ := Option.bind_eq_some_iff.1 h1
    obtain ⟨s, hz, hbz, _⟩ := DataW.trod_string he hte
    have hb1 : b.1 = .lit (.string x) := by
      have := congrArg (·[j]?) eE
      simp [hb, hj] at this
      exact this.symm
    rw [hbz] at hb1
    simp only [DataW.lit.injEq, Lit.string.injEq] at hb1
    obtain ⟨_, _, hcc⟩ := World.cells?_some hce
    have := hcc 0 (by omega)
    rw [hz] at this
    simp only [Nat.mul_one] at this
    have e1 : (a.add j).add 0 = a.add j := by simp [Addr.add]
    rw [e1] at this
    exact ⟨s, by rw [this]; rfl, hb1⟩
  obtain ⟨R, o, sR⟩ := a
  obtain rfl : sR = none := by
    obtain ⟨x, hx⟩ : ∃ x, l[0]? = some x := ⟨l[0], List.getElem?_eq_getElem hl⟩
    obtain ⟨s, h00, _⟩ := hcell 0 x hx
    have : (Addr.add ⟨R, o, sR⟩ 0) = ⟨R, o, sR⟩ := by simp [Addr.add]
    rw [this] at h00
    exact Go.Proofs.cell_spot h00
  have hheap : ∃ el fz, w.heap[g]? = some (.cells cs el fz) := by
    unfold World.var? at hvar
    rw [hn] at hvar
    simp only [Option.bind_some] at hvar
    split at hvar
    · rename_i cs' el' fz' hh
      cases hvar
      exact ⟨el', fz', hh⟩
    · cases hvar
  obtain ⟨el', fz', hh⟩ := hheap
  refine ⟨R, o, el', fz', ?_, fun j x hj => ?_⟩
  · rw [hh, ← hlen]
    have : cs = #[.slice (some ⟨R, o, none⟩) len cap] := by cases cs; simp_all
    rw [this, hcap]
  · obtain ⟨s, h1, h2⟩ := hcell j x hj
    rw [Addr.add_lit] at h1
    exact ⟨s, h1, h2⟩

def wordsB : List (List UInt8) := [[99, 111, 110, 115, 116], [109, 111, 118, 101], [117, 110, 97, 114, 121], [98, 105, 110, 97, 114, 121], [106, 117, 109, 112], [108, 111, 97, 100], [108, 111, 97, 100, 97, 116], [115, 116, 111, 114, 101], [115, 116, 111, 114, 101, 97, 116], [98, 114, 97, 110, 99, 104], [97, 99, 113, 117, 105, 114, 101], [114, 101, 108, 101, 97, 115, 101], [114, 101, 97, 100, 97, 99, 113, 117, 105, 114, 101], [114, 101, 97, 100, 114, 101, 108, 101, 97, 115, 101], [119, 114, 105, 116, 101, 97, 99, 113, 117, 105, 114, 101], [119, 114, 105, 116, 101, 114, 101, 108, 101, 97, 115, 101], [116, 120, 98, 101, 103, 105, 110], [116, 120, 101, 110, 100], [97, 116, 111, 109, 105, 99, 98, 101, 103, 105, 110], [97, 116, 111, 109, 105, 99, 101, 110, 100], [119, 97, 105, 116], [110, 111, 116, 105, 102, 121], [110, 111, 116, 105, 102, 121, 97, 108, 108], [115, 112, 97, 119, 110], [106, 111, 105, 110], [115, 101, 116], [103, 101, 116], [101, 110, 100]]
theorem wordsB_V : wordsV = wordsB.map fun b => V.str (b.map UInt8.toNat) := by kernel_rfl
theorem laid_words (W : World) (h : laidMet Tryd.prog Rows.compileTextsRow.laid W) : Lib.VarReads Tryd.prog W "interleave/compile.words" (.slice (wordsB.map fun x => .lit (.string x)) []) :=
  Lib.laidMet.reads h (n := "interleave/compile.words") (d := Rows.laid_interleave_compile_words) (by simp [Rows.compileTextsRow])
theorem laid_table (W : World) (h : laidMet Tryd.prog Rows.compileTextsRow.laid W) : Lib.TabIs Tryd.prog W "internal/strconv.uint64pow10" .u64 Lib.pow10Tab := by
  have hr : Lib.VarReads Tryd.prog W "internal/strconv.uint64pow10" Rows.laid_internal_strconv_uint64pow10 := Lib.laidMet.reads h (by simp [Rows.compileTextsRow])
  obtain ⟨g', t', cs, fuel, p, hg, hty, hvar, hd⟩ := hr
  have gT : Tryd.prog.globalNamed "internal/strconv.uint64pow10" = some 1 := by kernel_rfl
  obtain rfl := Option.some.inj (gT.symm.trans hg)
  have gy : (Tryd.prog.globals[1]?).map (·.type) = some 100 := by kernel_rfl
  obtain rfl := Option.some.inj (gy.symm.trans hty)
  unfold Lib.TabIs
  rw [hvar, ← Lib.cells_of_tab (zs := Lib.pow10Tab) (k := .u64) (show Tryd.prog.underlying 100 = some (.array 20 79) by kernel_rfl) (show Tryd.prog.underlying 79 = some (.int .u64) by kernel_rfl) (by kernel_rfl) (by kernel_rfl) hd]

theorem laid_ok (W : World) (h : laidMet Tryd.prog Rows.compileTextsRow.laid W) : ∀ x, x ∈ [(⟨0, [.sl true wordsV], 1, 1⟩ : Laid)] → x.g ∈ gls ∧ Laid.Ok id gls [(⟨0, [.sl true wordsV], 1, 1⟩ : Laid)] W x := by
  intro x hx
  cases List.mem_singleton.1 hx
  refine ⟨by decide, by decide, ?_, ?_, by decide⟩
  · obtain ⟨R, o, el, fz, hh, hc⟩ := strs_of_reads (g := 0) (t := 37) (e := 9) (by kernel_rfl) (by kernel_rfl) (by kernel_rfl) (by kernel_rfl) (by kernel_rfl) (by decide) (laid_words W h)
    refine ⟨_, el, fz, hh, rfl, fun i j c hcc => ?_⟩
    have hi : i = 0 ∧ j = 0 ∧ c = .sl true wordsV := by
      unfold cellAt at hcc
      cases i with
      | zero =>
        cases j with
        | zero => simpa [V.cells] using hcc.symm
        | succ j => simp [V.cells] at hcc
      | succ i => simp at hcc
    obtain ⟨rfl, rfl, rfl⟩ := hi
    refine ⟨_, rfl, .sl true wordsV R o 1 _ _ (fun k => (W.cell? ⟨R, o + k, none⟩).getD undef) ?_ (by decide) (fun _ => rfl) (Nat.le_refl _) (by decide) ?_ ?_ ?_⟩
    · rw [wordsB_V, List.length_map]
    · intro x hx
      rw [wordsB_V] at hx
      obtain ⟨b, _, rfl⟩ := List.mem_map.1 hx
      rfl
    · intro k hk
      have hk' : k < wordsB.length := by simpa using hk
      obtain ⟨s, hs, _⟩ := hc k _ (List.getElem?_eq_getElem hk')
      show W.cell? ⟨R, o + k, none⟩ = _
      rw [hs]
      rfl
    · intro i j x c hx hcx
      rw [wordsB_V, List.getElem?_map] at hx
      obtain ⟨b, hb, rfl⟩ := Option.map_eq_some_iff.1 hx
      cases j with
      | succ j => simp [V.cells] at hcx
      | zero =>
        obtain rfl : c = V.str (b.map UInt8.toNat) := by simpa [V.cells] using hcx.symm
        obtain ⟨s, hs, hb2⟩ := hc i b hb
        simp only [Nat.mul_one, Nat.add_zero, hs, Option.getD_some]
        exact .str _ _ (by rw [hb2])
  · intro i y hy
    cases i with
    | zero => obtain rfl : y = .sl true wordsV := by simpa using hy.symm
              rfl
    | succ i => simp at hy

/-- THE WALK: the evaluator's run is the program's. -/
theorem walk (op A B C N s : Int) (hA : InI64 A) (hB : InI64 B) (hC : InI64 C) (hN : InI64 N) (W : World) (hL : laidMet Tryd.prog Rows.compileTextsRow.laid W) :
    Calls Tryd.prog 3 #[.agg #[.int .i64 op, .int .i64 A, .int .i64 B, .int .i64 C, .int .i64 N, .int .i64 s]] W fun e w' => e = .returned (.bool true) ∧ Below W.heap.size W w' := by
  obtain ⟨h', l, hu, hs⟩ := holdsU_eq (tx op A B C N s hA hB hC hN)
  have hc := callU_le (decU_le 12 13) fnsT 20 _ _ _ _ _ _ hu hs
  have htab := laid_table W hL
  have hcf : CfOk id gls Tryd.prog W (decO 12 13) := decO_sound (num := id) (fi := 12) (ff := 13) htab
    (fun args w => by simp [callFunc, Tryd.func12]; rfl) (fun args w => by simp [callFunc, Tryd.func13]; rfl)
    (fun n h0 h1 w ht => Tryd.strconv_Itoa n h0 h1 w ht) (fun n h0 h1 w ht => Tryd.strconv_FormatInt_10 n h0 h1 w ht)
  have hcall := callO_sound (decO_ext 12 13) (decO_dom 12 13) hcf hix okT 20
  refine Calls.mono (calls_at hcall (nx := 1000) (by decide) (laid_ok W hL) hc (args := #[.agg #[.int .i64 op, .int .i64 A, .int .i64 B, .int .i64 C, .int .i64 N, .int .i64 s]])
    (VRels.cons (okV_rel _ _ (by simp [okV, ins, aggOf, okVs])) (VRels.nil _ _))) fun e w' hw => ?_
  obtain ⟨T, c, q1, q2, q3⟩ := hw
  cases q2
  exact ⟨q1, q3⟩

/-- An instruction, opened. -/
theorem open_ins {H : Type} {enc : TypeId × Value → H} {W : World} {base : Nat} {v : Value} {d : DataW H} {p : List MemPlace} (hv : Value.okWide Tryd.prog W .any base 23 v) (h : DataW.Trod enc Tryd.prog W 0 (fun _ => true) true 23 v d p) :
    ∃ op A B C N s : Int, v = .agg #[.int .i64 op, .int .i64 A, .int .i64 B, .int .i64 C, .int .i64 N, .int .i64 s] ∧
      d = .agg [.lit (.int .i64 op), .lit (.int .i64 A), .lit (.int .i64 B), .lit (.int .i64 C), .lit (.int .i64 N), .lit (.int .i64 s)] ∧ p = [] ∧
      (Lit.int .i64 op).wf = true ∧ (Lit.int .i64 A).wf = true ∧ (Lit.int .i64 B).wf = true ∧ (Lit.int .i64 C).wf = true ∧ (Lit.int .i64 N).wf = true ∧ (Lit.int .i64 s).wf = true := by
  obtain ⟨cs, rfl, hsz⟩ := okWide_struct Tryd.underlying23 hv
  obtain ⟨fuel, hf⟩ := h
  obtain ⟨xs, n, _, hx, hl, hlen, hall⟩ := DataW.trod_struct Tryd.underlying23 hf
  obtain ⟨l⟩ := cs
  have hsz6 : l.length = 6 := by
    have := hsz.trans size23
    simpa using this
  match l, hsz6, xs, hlen with
  | [c0, c1, c2, c3, c4, c5], _, [y0, y1, y2, y3, y4, y5], _ =>
    have k0 := hall 0 _ rfl
    have k1 := hall 1 _ rfl
    have k2 := hall 2 _ rfl
    have k3 := hall 3 _ rfl
    have k4 := hall 4 _ rfl
    have k5 := hall 5 _ rfl
    simp [Value.cells, size2, size3] at k0 k1 k2 k3 k4 k5
    obtain ⟨op, e0, rfl, w0⟩ := DataW.trod_int i64 k0
    obtain ⟨A, e1, rfl, w1⟩ := DataW.trod_int i64 k1
    obtain ⟨B, e2, rfl, w2⟩ := DataW.trod_int i64 k2
    obtain ⟨C, e3, rfl, w3⟩ := DataW.trod_int i64 k3
    obtain ⟨N, e4, rfl, w4⟩ := DataW.trod_int l64 k4
    obtain ⟨s, e5, rfl, w5⟩ := DataW.trod_int i64 k5
    simp only [List.cons.injEq, and_true] at e0 e1 e2 e3 e4 e5
    subst e0; subst e1; subst e2; subst e3; subst e4; subst e5
    simp only [Prod.mk.injEq] at hx
    exact ⟨op, A, B, C, N, s, rfl, by rw [hx.1]; rfl, by rw [hx.2]; rfl, w0, w1, w2, w3, w4, w5⟩
theorem shut_ins {H : Type} {enc : TypeId × Value → H} {W : World} {sp : Nat → Bool} {op A B C N s : Int} (w0 : (Lit.int .i64 op).wf = true) (w1 : (Lit.int .i64 A).wf = true) (w2 : (Lit.int .i64 B).wf = true)
    (w3 : (Lit.int .i64 C).wf = true) (w4 : (Lit.int .i64 N).wf = true) (w5 : (Lit.int .i64 s).wf = true) :
    DataW.Trod enc Tryd.prog W 0 sp true 23 (.agg #[.int .i64 op, .int .i64 A, .int .i64 B, .int .i64 C, .int .i64 N, .int .i64 s])
      (.agg [.lit (.int .i64 op), .lit (.int .i64 A), .lit (.int .i64 B), .lit (.int .i64 C), .lit (.int .i64 N), .lit (.int .i64 s)]) [] := by
  have := trod_struct_mk (enc := enc) (w := W) (base := 0) (spare := sp) (held := true) (n := 1) (cs := [.int .i64 op, .int .i64 A, .int .i64 B, .int .i64 C, .int .i64 N, .int .i64 s])
    (xs := [(.lit (.int .i64 op), []), (.lit (.int .i64 A), []), (.lit (.int .i64 B), []), (.lit (.int .i64 C), []), (.lit (.int .i64 N), []), (.lit (.int .i64 s), [])]) Tryd.underlying23 (by rw [size23]; rfl)
    (by simp [size2, size3, trod_int_mk 0 i64 w0, trod_int_mk 0 i64 w1, trod_int_mk 0 i64 w2, trod_int_mk 0 i64 w3, trod_int_mk 0 l64 w4, trod_int_mk 0 i64 w5])
  exact ⟨2, this⟩

theorem own : ownKnob Tryd.prog.godebug = none := by kernel_rfl
theorem bool4 : Tryd.prog.underlying 4 = some .bool := by kernel_rfl

theorem contract (H : Type) (enc : TypeId × Value → H) (W : World) (base : Nat) (args : Array Value) (ds gs : List (DataW H)) (before : List MemPlace)
    (hval : ∀ (j : Nat) t v, Tryd.f3.params[j]? = some t → args[j]? = some v → Value.okWide Tryd.prog W .any base t v)
    (hW : DataW.Whole enc Tryd.prog Tryd.f3.params.toList Rows.compileTextsSpec.vars false W args.toList ds gs before) (hL : laidMetH Tryd.prog Rows.compileTextsRow.laid W) :
    Calls Tryd.prog 3 args W fun e W' => ∃ v, e = .returned v ∧ Rows.compileTextsSpec.post enc Tryd.prog Tryd.f3 false true false false W args v W' := by
  have hW' := hW
  obtain ⟨p, q, hA0, hV, rfl, hfz, hnd⟩ := hW
  have hA : DataW.TrodAll enc Tryd.prog W 0 (fun _ => true) true Tryd.f3.params.toList args.toList ds p := hA0
  rw [Tryd.params3] at hA hval
  obtain ⟨v0, vs0, d0, ds0, p0, q0, hargs, rfl, rfl, h0, r0⟩ := trodAll_cons hA
  obtain ⟨rfl, rfl, rfl⟩ := trodAll_nil r0
  obtain rfl : args = #[v0] := by cases args; simp_all
  obtain ⟨rfl, rfl⟩ := trodVars_none hV
  obtain ⟨op, A, B, C, N, s, rfl, rfl, rfl, w0, w1, w2, w3, w4, w5⟩ := open_ins (hval 0 23 v0 rfl rfl) h0
  clear hA0
  simp only [List.append_nil] at hW'
  refine (walk op A B C N s (bounds_i64 w1) (bounds_i64 w2) (bounds_i64 w3) (bounds_i64 w4) W hL).mono fun e W' ⟨he, hg⟩ => ?_
  subst he
  exact ⟨_, rfl, post_of_below (pa := []) (pv := []) hW' (fun _ _ _ => trodAll_cons_mk (shut_bool bool4 _) trodAll_mk0) (fun _ _ => trodAll_cons_mk (shut_ins w0 w1 w2 w3 w4 w5) trodAll_mk0) (fun _ _ => rfl) rfl
    hg (ok_one (by kernel_rfl) rfl (okWide_bool_mk bool4 _))⟩

/-- A world for the witness: the settled one, the listed variables holding what their initialisers lay. -/
noncomputable def low : Nat := (World.holding Tryd.prog default ⟨#[], #[], []⟩).heap.size
def putCells (g : Nat) (cs : Array Value) (h : Array Obj) : Array Obj := h.modify g fun
  | .cells _ t frozen => .cells cs t frozen
  | o => o
noncomputable def laidWorld (os : Os) : World :=
  { World.holding Tryd.prog os ⟨#[.cells #[.string { data := #[99, 111, 110, 115, 116] }, .string { data := #[109, 111, 118, 101] }, .string { data := #[117, 110, 97, 114, 121] }, .string { data := #[98, 105, 110, 97, 114, 121] }, .string { data := #[106, 117, 109, 112] }, .string { data := #[108, 111, 97, 100] }, .string { data := #[108, 111, 97, 100, 97, 116] }, .string { data := #[115, 116, 111, 114, 101] }, .string { data := #[115, 116, 111, 114, 101, 97, 116] }, .string { data := #[98, 114, 97, 110, 99, 104] }, .string { data := #[97, 99, 113, 117, 105, 114, 101] }, .string { data := #[114, 101, 108, 101, 97, 115, 101] }, .string { data := #[114, 101, 97, 100, 97, 99, 113, 117, 105, 114, 101] }, .string { data := #[114, 101, 97, 100, 114, 101, 108, 101, 97, 115, 101] }, .string { data := #[119, 114, 105, 116, 101, 97, 99, 113, 117, 105, 114, 101] }, .string { data := #[119, 114, 105, 116, 101, 114, 101, 108, 101, 97, 115, 101] }, .string { data := #[116, 120, 98, 101, 103, 105, 110] }, .string { data := #[116, 120, 101, 110, 100] }, .string { data := #[97, 116, 111, 109, 105, 99, 98, 101, 103, 105, 110] }, .string { data := #[97, 116, 111, 109, 105, 99, 101, 110, 100] }, .string { data := #[119, 97, 105, 116] }, .string { data := #[110, 111, 116, 105, 102, 121] }, .string { data := #[110, 111, 116, 105, 102, 121, 97, 108, 108] }, .string { data := #[115, 112, 97, 119, 110] }, .string { data := #[106, 111, 105, 110] }, .string { data := #[115, 101, 116] }, .string { data := #[103, 101, 116] }, .string { data := #[101, 110, 100] }] 9], #[], []⟩ with heap := (putCells 0 #[.slice (some ⟨low + 0, 0, none⟩) 28 28] (putCells 1 #[.int .u64 1, .int .u64 10, .int .u64 100, .int .u64 1000, .int .u64 10000, .int .u64 100000, .int .u64 1000000, .int .u64 10000000, .int .u64 100000000, .int .u64 1000000000, .int .u64 10000000000, .int .u64 100000000000, .int .u64 1000000000000, .int .u64 10000000000000, .int .u64 100000000000000, .int .u64 1000000000000000, .int .u64 10000000000000000, .int .u64 100000000000000000, .int .u64 1000000000000000000, .int .u64 10000000000000000000] (putCells 3 #[.int .u8 0, .int .u8 1, .int .u8 56, .int .u8 2, .int .u8 57, .int .u8 49, .int .u8 28, .int .u8 3, .int .u8 61, .int .u8 58, .int .u8 42, .int .u8 50, .int .u8 38, .int .u8 29, .int .u8 17, .int .u8 4, .int .u8 62, .int .u8 47, .int .u8 59, .int .u8 36, .int .u8 45, .int .u8 43, .int .u8 51, .int .u8 22, .int .u8 53, .int .u8 39, .int .u8 33, .int .u8 30, .int .u8 24, .int .u8 18, .int .u8 12, .int .u8 5, .int .u8 63, .int .u8 55, .int .u8 48, .int .u8 27, .int .u8 60, .int .u8 41, .int .u8 37, .int .u8 16, .int .u8 46, .int .u8 35, .int .u8 44, .int .u8 21, .int .u8 52, .int .u8 32, .int .u8 23, .int .u8 11, .int .u8 54, .int .u8 26, .int .u8 40, .int .u8 15, .int .u8 34, .int .u8 20, .int .u8 31, .int .u8 10, .int .u8 25, .int .u8 14, .int .u8 19, .int .u8 9, .int .u8 13, .int .u8 8, .int .u8 7, .int .u8 6] (putCells 2 #[.int .u8 0, .int .u8 1, .int .u8 28, .int .u8 2, .int .u8 29, .int .u8 14, .int .u8 24, .int .u8 3, .int .u8 30, .int .u8 22, .int .u8 20, .int .u8 15, .int .u8 25, .int .u8 17, .int .u8 4, .int .u8 8, .int .u8 31, .int .u8 27, .int .u8 13, .int .u8 23, .int .u8 21, .int .u8 19, .int .u8 16, .int .u8 7, .int .u8 26, .int .u8 12, .int .u8 18, .int .u8 6, .int .u8 11, .int .u8 5, .int .u8 10, .int .u8 9] (World.holding Tryd.prog os ⟨#[.cells #[.string { data := #[99, 111, 110, 115, 116] }, .string { data := #[109, 111, 118, 101] }, .string { data := #[117, 110, 97, 114, 121] }, .string { data := #[98, 105, 110, 97, 114, 121] }, .string { data := #[106, 117, 109, 112] }, .string { data := #[108, 111, 97, 100] }, .string { data := #[108, 111, 97, 100, 97, 116] }, .string { data := #[115, 116, 111, 114, 101] }, .string { data := #[115, 116, 111, 114, 101, 97, 116] }, .string { data := #[98, 114, 97, 110, 99, 104] }, .string { data := #[97, 99, 113, 117, 105, 114, 101] }, .string { data := #[114, 101, 108, 101, 97, 115, 101] }, .string { data := #[114, 101, 97, 100, 97, 99, 113, 117, 105, 114, 101] }, .string { data := #[114, 101, 97, 100, 114, 101, 108, 101, 97, 115, 101] }, .string { data := #[119, 114, 105, 116, 101, 97, 99, 113, 117, 105, 114, 101] }, .string { data := #[119, 114, 105, 116, 101, 114, 101, 108, 101, 97, 115, 101] }, .string { data := #[116, 120, 98, 101, 103, 105, 110] }, .string { data := #[116, 120, 101, 110, 100] }, .string { data := #[97, 116, 111, 109, 105, 99, 98, 101, 103, 105, 110] }, .string { data := #[97, 116, 111, 109, 105, 99, 101, 110, 100] }, .string { data := #[119, 97, 105, 116] }, .string { data := #[110, 111, 116, 105, 102, 121] }, .string { data := #[110, 111, 116, 105, 102, 121, 97, 108, 108] }, .string { data := #[115, 112, 97, 119, 110] }, .string { data := #[106, 111, 105, 110] }, .string { data := #[115, 101, 116] }, .string { data := #[103, 101, 116] }, .string { data := #[101, 110, 100] }] 9], #[], []⟩).heap)))) }
theorem laid_met (os : Os) : laidMet Tryd.prog Rows.compileTextsRow.laid ((laidWorld os).forCall (fun _ _ => 0) ⟨#[], #[.agg #[.int .i64 0, .int .i64 0, .int .i64 0, .int .i64 0, .int .i64 0, .int .i64 0]], []⟩).memory :=
  laidMet_of_run3 8 (by kernel_rfl) (by kernel_rfl) (by kernel_rfl)
theorem reads (os : Os) {H : Type} (enc : TypeId × Value → H) : ∃ places, DataW.whole enc Tryd.prog ((laidWorld os).forCall (fun _ _ => 0) ⟨#[], #[.agg #[.int .i64 0, .int .i64 0, .int .i64 0, .int .i64 0, .int .i64 0, .int .i64 0]], []⟩).memory Tryd.f3.params.toList Rows.compileTextsSpec.vars false (#[.agg #[.int .i64 0, .int .i64 0, .int .i64 0, .int .i64 0, .int .i64 0, .int .i64 0]] : Array Value).toList 8 = some ([.agg [.lit (.int .i64 0), .lit (.int .i64 0), .lit (.int .i64 0), .lit (.int .i64 0), .lit (.int .i64 0), .lit (.int .i64 0)]], [], places) :=
  ⟨[], by kernel_rfl⟩

theorem lifted (os : Os) (started : os.Started) (H : Type) (enc : TypeId × Value → H) (F : Stop.Interp) :
    ReturnsInHanded {} Tryd.checked os 3 .any ((OpenSpec.ofChange Rows.compileTextsSpec).preRow enc Tryd.prog Tryd.f3 Rows.compileTextsRow.domain false Rows.compileTextsRow.laid) (((OpenSpec.ofChange Rows.compileTextsSpec).at F).post enc Tryd.prog Tryd.f3 false true false false) := by
  obtain ⟨places, hx⟩ := reads os enc
  refine returnsInHanded_of_row (C := Tryd.checked) (s := OpenSpec.ofChange Rows.compileTextsSpec) own started (by kernel_rfl) Tryd.func3
    (witness_row_atRef (enc := enc) (C := Tryd.checked) false (laidWorld os) #[.agg #[.int .i64 0, .int .i64 0, .int .i64 0, .int .i64 0, .int .i64 0, .int .i64 0]] rfl (by kernel_rfl) (by kernel_rfl) (by kernel_rfl)
      (OpenSpec.preRow_of_cond 8 hx (by kernel_rfl) (fun k hk => by cases hk) (by kernel_rfl) (laid_met os))) ?_
  intro W base args ds gs before hval hW _ _ _ hL _ _
  exact contract H enc W base args ds gs before hval hW hL

theorem said : Rows.CompileTextsSaid :=
  OpenClaim.holds_of_cond 3 Tryd.f3 rfl rfl rfl rfl rfl rfl rfl ⟨rfl, rfl, rfl, rfl, rfl⟩ rfl rfl rfl rfl rfl (by kernel_rfl) Tryd.func3 (by kernel_rfl)
    (of_decide_eq_true (by kernel_rfl)) (by unfold Func.isWrapper; first | (rw [if_pos (by decide +kernel)]; kernel_rfl) | (rw [if_neg (by decide +kernel)]; exact ⟨rfl, rfl⟩))
    (fun os started H enc _ F => by rw [OpenClaim.pre_eq_preRow]; exact lifted os started H enc F)

/-- No parameter wants a stand-in; the program's own looks are off. -/
theorem plain (f : FuncId) (fn : Func) (hf : Tryd.pinned.checked.prog.funcNamed "interleave/interleavelaw06.CompileTexts" = some f) (hfn : Tryd.pinned.checked.prog.funcs[f]? = some fn) :
    true = Tryd.pinned.checked.prog.looks [] ∧ ∀ (j : Nat) t, fn.params[j]? = some t → Tryd.pinned.checked.prog.wantsStandIn t = false := by
  obtain rfl : f = 3 := Option.some.inj ((show Tryd.prog.funcNamed "interleave/interleavelaw06.CompileTexts" = some 3 by kernel_rfl).symm.trans hf) |>.symm
  obtain rfl : fn = Tryd.f3 := (Option.some.inj (Tryd.func3.symm.trans hfn)).symm
  refine ⟨by kernel_rfl, fun j t ht => ?_⟩
  rw [Tryd.params3] at ht
  obtain rfl : t = 23 := by
    match j, ht with
    | 0, ht => simpa using ht.symm
    | j + 1, ht => simp at ht
  exact (show Tryd.prog.wantsStandIn 23 = false by kernel_rfl)

/-- The card. -/
theorem card : Rows.CompileTextsCardSaid :=
  Claim7.holds_tied_plain_at .later [] _ _ _ _ said (fun _ h => by cases h) (by kernel_rfl) (fun _ h => by cases h) compileTexts_row_tie rfl ⟨rfl, rfl⟩ (by kernel_rfl) rfl plain (by kernel_rfl)
#print axioms card
end Go.Proofs.YtpcinbogdlhndaaDoor.compileTexts
