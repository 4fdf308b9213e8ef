/-
  'CheckLoose' is met. The law has no arguments; the package-level variables are as the program's text lays them; no other condition. By an AI agent; no person has read it.
-/
import Derived.Test.YtakahhnlbciicaaClZ
import Derived.Test.YtakahhnlbciicaaOk
import Derived.Deep.DeepWitnessRowRef
import Derived.ChangeSlices
import Derived.Carry
import Derived.WalkKit
import Derived.ProofKit
import Derived.OpenShut
import Derived.Deep.DeepHandedRow
import Derived.Deep.DeepLaidRun
import Derived.Lib.LaidTab
import Derived.LaidLaws
namespace Go.Proofs.Ytakahhnlbciicaa.checkLoose
open Go.ChangeShapes Go.WideShapes Go.ChangeAt Go.RowKit
open Go Go.Proofs.Ytakahhnlbciicaa.Ai
set_option maxRecDepth 100000


open Cl
theorem sl22 : Try.prog.underlying 22 = some (.slice 5) := by kernel_rfl
theorem u8 : Try.prog.underlying 5 = some (.int .u8) := by kernel_rfl
theorem size5 : Try.prog.cellsOf 5 = 1 := by kernel_rfl
/-- A slice of bytes that came in, as the evaluator's value. -/
theorem open_bytes {H : Type} {enc : TypeId × Value → H} {W : World} {base : Nat} {v : Value} {d : DataW H} {p : List MemPlace} (hval : Value.okWide Try.prog W .any base 22 v) (h : DataW.Trod enc Try.prog W 0 (fun _ => true) true 22 v d p) :
    ∃ (fl : Bool) (zs : List Int), (∀ b, b ∈ zs → 0 ≤ b ∧ b < 256) ∧ VRel id (Env.at gls [] W) (.sl fl (zs.map (V.int .u8))) v := by
  obtain ⟨a1, len, cap, rfl⟩ := okWide_slice sl22 hval
  obtain ⟨fuel, hf⟩ := h
  rcases open_ints sl22 u8 size5 hf with ⟨hcs, hx⟩ | ⟨a, len', cap', zs, hcs, _, hl, hm, hz, hx, hcell, hwz⟩
  · simp [Value.cells] at hcs
    obtain ⟨rfl, rfl, rfl⟩ := hcs
    exact ⟨true, [], fun b hb => (by cases hb), .sl0 true none 0 (fun _ => rfl)⟩
  · simp [Value.cells] at hcs
    obtain ⟨rfl, rfl, rfl⟩ := hcs
    simp only [if_true] at hz
    by_cases h0 : len = 0
    · subst h0
      exact ⟨false, [], fun b hb => (by cases hb), .sl0 false (some a) cap (fun q => by cases q)⟩
    · obtain ⟨ab, ao, spot⟩ := a
      have hspot : spot = none := by simpa [Addr.add] using World.cell?_spot (hcell 0 (by omega))
      subst hspot
      have hlen : (zs.take len).length = len := by simp; omega
      refine ⟨false, zs.take len, fun b hb => (by have := bounds_u8 (hwz b (List.mem_of_mem_take hb)); omega), ?_⟩
      refine .sl false _ ab ao 1 cap len (fun k => .int .u8 (zs.getD k 0)) (by rw [List.length_map, hlen]) (fun q => ?_) (fun q => by cases q) hl (by omega) (fun x hx => ?_) (fun k hk => ?_) (fun i j x c hx hc => ?_)
      · have := congrArg List.length q
        rw [List.length_map, hlen] at this
        exact h0 this
      · obtain ⟨b, _, rfl⟩ := List.mem_map.1 hx
        rfl
      · have hk' : k < zs.length := by omega
        have := hcell k hk'
        rw [Addr.add_lit] at this
        exact this
      · rw [List.getElem?_map] at hx
        obtain ⟨b, hb, rfl⟩ := Option.map_eq_some_iff.1 hx
        cases j with
        | succ j => simp [V.cells] at hc
        | zero =>
          obtain rfl : c = V.int .u8 b := by simpa [V.cells] using hc.symm
          have hi : zs[i]? = some b := by
            rw [List.getElem?_take] at hb
            split at hb
            · exact hb
            · cases hb
          have e : zs.getD (i * 1 + 0) 0 = b := by simp [List.getD, hi]
          rw [e]
          exact .int _ _
/-- THE WALK: the evaluator's run is the program's. -/
theorem walk (fl : Bool) (zs : List Int) (hz : ∀ b, b ∈ zs → 0 ≤ b ∧ b < 256) (v : Value) (W : World) (hv : VRel id (Env.at gls [] W) (.sl fl (zs.map (V.int .u8))) v) :
    Calls Try.prog 3 #[v] W fun e w' => e = .returned (.bool true) ∧ Below W.heap.size W w' := by
  obtain ⟨h', he, _⟩ := ok_3 8589934800 (Nat.le_refl _) fl zs hz (deads gls ⟨1000, .nil⟩)
  have hcall : CfOk id gls Try.prog W (call fns 8589934800) := call_sound ok hix 8589934800
  refine Calls.mono (calls_at hcall (nx := 1000) (by decide) (ly := []) (fun x hx => by cases hx) he (args := #[v]) (VRels.cons hv (VRels.nil _ _))) fun e w' hw => ?_
  obtain ⟨T, c, q1, q2, q3⟩ := hw
  cases q2
  exact ⟨q1, q3⟩
theorem laidOut : laidOutB Try.prog = true := by kernel_rfl

theorem own : ownKnob Try.prog.godebug = none := by kernel_rfl
theorem bool4 : Try.prog.underlying 4 = some .bool := by kernel_rfl

theorem contract (H : Type) (enc : TypeId × Value → H) (W : World) (base : Nat) (args : Array Value) (ds gs : List (DataW H)) (before : List MemPlace)
    (hval : ∀ (j : Nat) t v, Try.f3.params[j]? = some t → args[j]? = some v → Value.okWide Try.prog W .any base t v)
    (hW : DataW.Whole enc Try.prog Try.f3.params.toList Rows.checkLooseSpec.vars false W args.toList ds gs before) (_hL : laidMetH Try.prog Rows.checkLooseRow.laid W) :
    Calls Try.prog 3 args W fun e W' => ∃ v, e = .returned v ∧ Rows.checkLooseSpec.post enc Try.prog Try.f3 false true false false W args v W' := by
  have hW' := hW
  obtain ⟨p, q, hA0, hV, rfl, hfz, hnd⟩ := hW
  have hA : DataW.TrodAll enc Try.prog W 0 (fun _ => true) true Try.f3.params.toList args.toList ds p := hA0
  rw [Try.params3] at hA hval
  obtain ⟨v0, vs0, d0, ds0, p0, q0, hargs, rfl, rfl, h0, r0⟩ := trodAll_cons hA
  obtain ⟨rfl, rfl, rfl⟩ := trodAll_nil r0
  obtain rfl : args = #[v0] := by cases args; simp_all
  obtain ⟨rfl, rfl⟩ := trodVars_none hV
  obtain ⟨fl, zs, hz, hv⟩ := open_bytes (hval 0 22 v0 rfl rfl) h0
  clear hA0
  have hlt : ∀ x ∈ p0, x.block < W.heap.size := fun x hx => by simpa using hW'.lt x (by simp [hx])
  simp only [List.append_nil] at hW'
  refine (walk fl zs hz v0 W hv).mono fun e W' ⟨he, hg⟩ => ?_
  subst he
  refine ⟨_, rfl, post_of_below (pa := p0) (pv := []) hW' (fun _ _ _ => trodAll_cons_mk (shut_bool bool4 _) trodAll_mk0) (fun sp hsp => ?_) (fun _ _ => rfl) (by simp)
    hg (ok_one (by kernel_rfl) rfl (okWide_bool_mk bool4 _))⟩
  have h1 := WideElems.Trod_stays laidOut (by kernel_rfl) (of_decide_eq_true (by kernel_rfl)) h0 (fun x hx => hg.same (hlt x hx)) (sp' := sp) (fun x hx => hsp x (by simpa using hx))
  have h2 := trodAll_cons_mk h1 trodAll_mk0
  rw [List.append_nil] at h2
  exact h2

/-- A world for the witness: the settled one, the listed variables holding what their initialisers lay. -/
noncomputable def low : Nat := (World.holding Try.prog default ⟨#[], #[], []⟩).heap.size
def putCells (g : Nat) (cs : Array Value) (h : Array Obj) : Array Obj := h.modify g fun
  | .cells _ t frozen => .cells cs t frozen
  | o => o
noncomputable def laidWorld (os : Os) : World :=
  { World.holding Try.prog os ⟨#[], #[], []⟩ with heap := (World.holding Try.prog os ⟨#[], #[], []⟩).heap }
theorem laid_met (os : Os) : laidMet Try.prog Rows.checkLooseRow.laid ((laidWorld os).forCall (fun _ _ => 0) ⟨#[], #[.slice none 0 0], []⟩).memory :=
  laidMet_of_run3 8 (by kernel_rfl) (by kernel_rfl) (by kernel_rfl)
theorem reads (os : Os) {H : Type} (enc : TypeId × Value → H) : ∃ places, DataW.whole enc Try.prog ((laidWorld os).forCall (fun _ _ => 0) ⟨#[], #[.slice none 0 0], []⟩).memory Try.f3.params.toList Rows.checkLooseSpec.vars false (#[.slice none 0 0] : Array Value).toList 8 = some ([.nil], [], places) :=
  ⟨[], by kernel_rfl⟩

theorem lifted (os : Os) (started : os.Started) (H : Type) (enc : TypeId × Value → H) (F : Stop.Interp) :
    ReturnsInHanded {} Try.checked os 3 .any ((OpenSpec.ofChange Rows.checkLooseSpec).preRow enc Try.prog Try.f3 Rows.checkLooseRow.domain false Rows.checkLooseRow.laid) (((OpenSpec.ofChange Rows.checkLooseSpec).at F).post enc Try.prog Try.f3 false true false false) := by
  obtain ⟨places, hx⟩ := reads os enc
  refine returnsInHanded_of_row (C := Try.checked) (s := OpenSpec.ofChange Rows.checkLooseSpec) own started (by kernel_rfl) Try.func3
    (witness_row_atRef (enc := enc) (C := Try.checked) false (laidWorld os) #[.slice none 0 0] rfl (by kernel_rfl) (by kernel_rfl) (by kernel_rfl)
      (OpenSpec.preRow_of_cond 8 hx (by kernel_rfl) (fun k hk => by cases hk) (by kernel_rfl) (laid_met os))) ?_
  intro W base args ds gs before hval hW _ _ _ hL _ _
  exact contract H enc W base args ds gs before hval hW hL

theorem said : Rows.CheckLooseSaid :=
  OpenClaim.holds_of_cond 3 Try.f3 rfl rfl rfl rfl rfl rfl rfl ⟨rfl, rfl, rfl, rfl, rfl⟩ rfl rfl rfl rfl rfl (by kernel_rfl) Try.func3 (by kernel_rfl)
    (of_decide_eq_true (by kernel_rfl)) (by unfold Func.isWrapper; first | (rw [if_pos (by decide +kernel)]; kernel_rfl) | (rw [if_neg (by decide +kernel)]; exact ⟨rfl, rfl⟩))
    (fun os started H enc _ F => by rw [OpenClaim.pre_eq_preRow]; exact lifted os started H enc F)
end Go.Proofs.Ytakahhnlbciicaa.checkLoose
