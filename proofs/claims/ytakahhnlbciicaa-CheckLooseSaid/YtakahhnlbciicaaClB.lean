/-
  What the functions answer, in the evaluator's form. By an AI agent; no person has read it.
-/
import Derived.Test.YtakahhnlbciicaaClA
set_option linter.unusedSimpArgs false
set_option linter.unusedVariables false
set_option linter.unusedSectionVars false
namespace Go.Proofs.Ytakahhnlbciicaa.Cl
open Go Go.Proofs.Ytakahhnlbciicaa.Ai
set_option maxRecDepth 100000
set_option maxHeartbeats 4000000

theorem ldIx (e:Expr) (h:H):ldv h 4 true (.vptr e.v.cells) = some e.v := ldE e h
def assignE (p:Prog) (t:Int) (x:Stmt):Int := match x.index with
  | [] => orE (K p t x.name [1,2]) (exprErr p t x.expr)
  | e :: _ => orE (K p t x.name [3]) (orE (exprErr p t e) (exprErr p t x.expr))
theorem ok_77 (n:Nat) (hn:4294967402 ≤ n) {p:Prog} (hp:p.Small) {t:Int} {w:Nat} {va vs vt:V} {ar:List Stmt} {h:H} (hw:WR p t w va vs vt ar h) (x:Stmt) (hix:∀ e,e ∈ x.index → e.Fine) (hex:x.expr.Fine) :
    ∃ h',call fns n 77 [.ptr w 0 0,x.v] h = some (.int .i64 (assignE p t x),h') ∧ Grow h h' := by
  obtain ⟨m,rfl⟩:∃ m,n = m + 1 := ⟨n - 1,by omega⟩
  obtain ⟨h1,hh1,g1,b1,l1⟩ := boxS h x 0
  have w1 := hw.grow g1
  have el := len_106 x
  have k1 := ldS2 b1
  have k14 := ldS4 b1
  have k15 := ldS5 b1
  rw [call_succ]
  show ∃ h',call1 (call fns m) m f77 _ _ = _ ∧ _
  cases hx:x.index with
  | nil =>
    obtain ⟨h2,e2,g2⟩ := ok_85 m (by omega) hp w1 x.name true [1,2] (by simp)
    rw [hx] at k14
    by_cases hk:K p t x.name [1,2] = 0
    · have b2 := gget g2 l1 b1
      have k25 := ldS5 b2
      obtain ⟨h3,e3,g3⟩ := ok_78 m (by omega) hp (w1.grow g2) x.expr hex
      refine ⟨h3,?_,(g1.trans g2).trans g3⟩
      simp only [hh1] at e2 k1 k14
      simp at e2 k14
      simp [f77,Fr.keep_cons',Fr.keep_nil,stepE,pairs,fillE,cells_int,cells_str,cells_sl,cells_bool,el,k1,k14,k25,e2,e3,hk,orE,assignE,hx]
    · refine ⟨h2,?_,g1.trans g2⟩
      simp only [hh1] at e2 k1 k14
      simp at e2 k14
      simp [f77,Fr.keep_cons',Fr.keep_nil,stepE,pairs,fillE,cells_int,cells_str,cells_sl,cells_bool,el,k1,k14,e2,hk,orE,assignE,hx]
  | cons e l =>
    have hl0:¬ ((l.length:Int) + 1 = 0) := by omega
    obtain ⟨h2,e2,g2⟩ := ok_85 m (by omega) hp w1 x.name true [3] (by simp)
    rw [hx] at k14
    by_cases hk:K p t x.name [3] = 0
    · have b2 := gget g2 l1 b1
      have k24 := ldS4 b2
      rw [hx] at k24
      have hec:e.v.cells.length = 4 := by simp [Expr.v_eq,V.cells]
      have k2e := ldIx e h2
      obtain ⟨h3,e3,g3⟩ := ok_78 m (by omega) hp (w1.grow g2) e (hix e (by simp [hx]))
      by_cases hk2:exprErr p t e = 0
      · have b3 := gget g3 (by have := g2.1; omega) b2
        have k35 := ldS5 b3
        obtain ⟨h4,e4,g4⟩ := ok_78 m (by omega) hp ((w1.grow g2).grow g3) x.expr hex
        refine ⟨h4,?_,((g1.trans g2).trans g3).trans g4⟩
        simp only [hh1] at e2 k1 k14
        simp at e2 k14 k24
        simp [f77,Fr.keep_cons',Fr.keep_nil,stepE,pairs,fillE,cells_int,cells_str,cells_sl,cells_bool,iadv,el,hec,k1,k14,k24,k2e,k35,e2,e3,e4,hk,hk2,hl0,orE,assignE,hx]
      · refine ⟨h3,?_,(g1.trans g2).trans g3⟩
        simp only [hh1] at e2 k1 k14
        simp at e2 k14 k24
        simp [f77,Fr.keep_cons',Fr.keep_nil,stepE,pairs,fillE,cells_int,cells_str,cells_sl,cells_bool,iadv,el,hec,k1,k14,k24,k2e,e2,e3,hk,hk2,hl0,orE,assignE,hx]
    · refine ⟨h2,?_,g1.trans g2⟩
      simp only [hh1] at e2 k1 k14
      simp at e2 k14
      simp [f77,Fr.keep_cons',Fr.keep_nil,stepE,pairs,fillE,cells_int,cells_str,cells_sl,cells_bool,el,k1,k14,e2,hk,hl0,orE,assignE,hx]

def thAt (p:Prog) (nm:List Nat):Int := idxOf (fun th:Thread => th.name == nm) p.threads 0
def otherE (p:Prog) (t:Int) (ar:List Stmt) (sp:List (List Nat)) (x:Stmt):Int :=
  orE (K p t x.name [8]) (if x.op = 13 then nst (insideOps ar [7,8] || decide (thAt p x.name = t)) else
    if (insideOps ar [7,8] || decide (thAt p x.name = t)) || (insideOps ar [3] || decide (thAt p x.name = 0)) then 7 else if sp.contains x.name then 8 else 0)
theorem ok_83 (n:Nat) (hn:4294967405 ≤ n) {p:Prog} (hp:p.Small) {t:Int} {w:Nat} {va vs vt:V} {ar:List Stmt} {sp st:List (List Nat)} {h:H} (hw:WS p t w va vs vt ar sp st h) (hal:ar.length < 2 ^ 31) (hsl:sp.length + 1 < 2 ^ 31) (x:Stmt) :
    ∃ vs' sp' h',call fns n 83 [.ptr w 0 0,x.v] h = some (.int .i64 (otherE p t ar sp x),h') ∧ WS p t w va vs' vt ar sp' st h' ∧ (otherE p t ar sp x = 0 → sp' = if x.op = 13 then sp else sp ++ [x.name]) ∧ Step (wS w va vs vt) (wS w va vs' vt) h h' := by
  obtain ⟨m,rfl⟩:∃ m,n = m + 3 := ⟨n - 3,by omega⟩
  obtain ⟨h1,hh1,g1,b1,l1⟩ := boxS h x 0
  have w1 := hw.grow g1
  have el := len_106 x
  have k1 := ldS2 b1
  obtain ⟨h2,e2,g2⟩ := ok_85 (m + 2) (by omega) hp (w1.wr hal) x.name true [8] (by simp)
  rw [call_succ]
  show ∃ vs' sp' h',call1 (call fns (m + 2)) (m + 2) f83 _ _ = _ ∧ _
  by_cases hk:K p t x.name [8] = 0
  · have w2 := w1.grow g2
    have b2 := gget g2 l1 b1
    have k2 := ldS2 b2
    have kw := ldW0 w2.r
    obtain ⟨h3,e3,g3⟩ := ok_36 m p x.name (by have := hp.t; omega) hp.t h2
    have w3 := w2.grow g3
    have l2:h.nx * 256 < h2.nx * 256 := by have := g2.1; omega
    have b3 := gget g3 l2 b2
    have l3:h.nx * 256 < h3.nx * 256 := by have := g3.1; omega
    obtain ⟨h4,e4,g4⟩ := ok_81 (m + 2) (by omega) w p t va vs vt .rw ar hal true [7,8] (by simp) h3 w3.lt w3.r w3.a.seesS
    have w4 := w3.grow g4
    have b4 := gget g4 l3 b3
    have l4:h.nx * 256 < h4.nx * 256 := by have := g4.1; omega
    have k40 := ldS0 b4
    have kt := ldW2 w4.r
    have e80 := fun b h => ok_80 (m + 2) (by omega) b h
    obtain ⟨h5,e5,g5⟩ := ok_81 (m + 2) (by omega) w p t va vs vt .rw ar hal true [3] (by simp) h4 w4.lt w4.r w4.a.seesS
    have w5 := w4.grow g5
    have b5 := gget g5 l4 b4
    have k52 := ldS2 b5
    have G4 := (((g1.trans g2).trans g3).trans g4)
    obtain ⟨c1,c2⟩ := ok_99s (m + 2) (by omega) w5 x.name hsl
    have hth:idxOf (fun t:Thread => t.name == x.name) p.threads 0 = thAt p x.name := rfl
    rw [hth] at e3
    simp only [hh1] at e2 k1
    simp at e2 e4 e5
    by_cases hop:x.op = 13
    · refine ⟨vs,sp,h4,?_,w4,fun _ => by simp [hop],Step.grow _ G4⟩
      cases hi:insideOps ar [7,8] with
      | true =>
        rw [hi] at e4
        simp [f83,Fr.keep_cons',Fr.keep_nil,stepE,pairs,fillE,cells_int,cells_str,cells_sl,cells_bool,nilv,el,k1,k2,kw,k40,kt,e2,e3,e4,e80,hk,hop,hi,orE,nst,otherE]
      | false =>
        rw [hi] at e4
        by_cases hu:thAt p x.name = t
        · simp [f83,Fr.keep_cons',Fr.keep_nil,stepE,pairs,fillE,cells_int,cells_str,cells_sl,cells_bool,nilv,el,k1,k2,kw,k40,kt,e2,e3,e4,e80,hk,hop,hi,hu,orE,nst,otherE]
        · simp [f83,Fr.keep_cons',Fr.keep_nil,stepE,pairs,fillE,cells_int,cells_str,cells_sl,cells_bool,nilv,el,k1,k2,kw,k40,kt,e2,e3,e4,e80,hk,hop,hi,hu,orE,nst,otherE]
    · cases hi:insideOps ar [7,8] with
      | true =>
        rw [hi] at e4
        refine ⟨vs,sp,h4,?_,w4,?_,Step.grow _ G4⟩
        · simp [f83,Fr.keep_cons',Fr.keep_nil,stepE,pairs,fillE,cells_int,cells_str,cells_sl,cells_bool,nilv,el,k1,k2,kw,k40,kt,e2,e3,e4,e80,hk,hop,hi,orE,nst,otherE]
        · simp [otherE,orE,hk,hop,hi]
      | false =>
        rw [hi] at e4
        by_cases hu:thAt p x.name = t
        · refine ⟨vs,sp,h4,?_,w4,?_,Step.grow _ G4⟩
          · simp [f83,Fr.keep_cons',Fr.keep_nil,stepE,pairs,fillE,cells_int,cells_str,cells_sl,cells_bool,nilv,el,k1,k2,kw,k40,kt,e2,e3,e4,e80,hk,hop,hi,hu,orE,nst,otherE]
          · simp [otherE,orE,hk,hop,hi,hu]
        · cases hj:insideOps ar [3] with
          | true =>
            rw [hj] at e5
            refine ⟨vs,sp,h5,?_,w5,?_,Step.grow _ (G4.trans g5)⟩
            · simp [f83,Fr.keep_cons',Fr.keep_nil,stepE,pairs,fillE,cells_int,cells_str,cells_sl,cells_bool,nilv,el,k1,k2,kw,k40,kt,e2,e3,e4,e5,e80,hk,hop,hi,hj,hu,orE,nst,otherE]
            · simp [otherE,orE,hk,hop,hi,hj,hu]
          | false =>
            rw [hj] at e5
            by_cases h0:thAt p x.name = 0
            · refine ⟨vs,sp,h5,?_,w5,?_,Step.grow _ (G4.trans g5)⟩
              · have ht:¬ 0 = t := by rw [← h0]; exact hu
                simp [f83,Fr.keep_cons',Fr.keep_nil,stepE,pairs,fillE,cells_int,cells_str,cells_sl,cells_bool,nilv,el,k1,k2,kw,k40,kt,e2,e3,e4,e5,e80,hk,hop,hi,hj,h0,ht,orE,nst,otherE]
              · simp [otherE,orE,hk,hop,hi,hj,hu,h0]
            · cases hc:sp.contains x.name with
              | true =>
                have c1' := c1 hc
                refine ⟨vs,sp,h5,?_,w5,?_,Step.grow _ (G4.trans g5)⟩
                · simp at hc; simp [f83,Fr.keep_cons',Fr.keep_nil,stepE,pairs,fillE,cells_int,cells_str,cells_sl,cells_bool,nilv,el,k1,k2,kw,k40,k52,kt,e2,e3,e4,e5,e80,c1',hk,hop,hi,hj,h0,hu,hc,orE,nst,otherE]
                · simp at hc; simp [otherE,orE,hk,hop,hi,hj,hu,h0,hc]
              | false =>
                obtain ⟨v',h6,e6,w6,s6⟩ := c2 hc
                refine ⟨v',sp ++ [x.name],h6,?_,w6,fun _ => by simp [hop],(Step.grow _ (G4.trans g5)).trans s6⟩
                simp at hc; simp [f83,Fr.keep_cons',Fr.keep_nil,stepE,pairs,fillE,cells_int,cells_str,cells_sl,cells_bool,nilv,el,k1,k2,kw,k40,k52,kt,e2,e3,e4,e5,e6,e80,hk,hop,hi,hj,h0,hu,hc,orE,nst,otherE]
  · refine ⟨vs,sp,h2,?_,w1.grow g2,?_,Step.grow _ (g1.trans g2)⟩
    · simp only [hh1] at e2 k1
      simp at e2
      simp [f83,Fr.keep_cons',Fr.keep_nil,stepE,pairs,fillE,cells_int,cells_str,cells_sl,cells_bool,nilv,el,k1,e2,hk,orE,otherE]
    · simp [otherE,orE,hk]

def settingE (p:Prog) (t:Int) (ar:List Stmt) (st:List (List Nat)) (x:Stmt):Int :=
  orE (K p t x.name [7]) (if insideOps ar [7,3] then 7 else if st.contains x.name then 8 else exprErr p t x.expr)
theorem ok_84 (n:Nat) (hn:4294967405 ≤ n) {p:Prog} (hp:p.Small) {t:Int} {w:Nat} {va vs vt:V} {ar:List Stmt} {sp st:List (List Nat)} {h:H} (hw:WS p t w va vs vt ar sp st h) (hal:ar.length < 2 ^ 31) (hsl:st.length + 1 < 2 ^ 31) (x:Stmt) (hex:x.expr.Fine) :
    ∃ vt' st' h',call fns n 84 [.ptr w 0 0,x.v] h = some (.int .i64 (settingE p t ar st x),h') ∧ WS p t w va vs vt' ar sp st' h' ∧ (settingE p t ar st x = 0 → st' = st ++ [x.name]) ∧ Step (wS w va vs vt) (wS w va vs vt') h h' := by
  obtain ⟨m,rfl⟩:∃ m,n = m + 1 := ⟨n - 1,by omega⟩
  obtain ⟨h1,hh1,g1,b1,l1⟩ := boxS h x 0
  have w1 := hw.grow g1
  have el := len_106 x
  have k1 := ldS2 b1
  obtain ⟨h2,e2,g2⟩ := ok_85 m (by omega) hp (w1.wr hal) x.name true [7] (by simp)
  rw [call_succ]
  show ∃ vs' sp' h',call1 (call fns m) m f84 _ _ = _ ∧ _
  by_cases hk:K p t x.name [7] = 0
  · have w2 := w1.grow g2
    have b2 := gget g2 l1 b1
    have l2:h.nx * 256 < h2.nx * 256 := by have := g2.1; omega
    obtain ⟨h3,e3,g3⟩ := ok_81 m (by omega) w p t va vs vt .rw ar hal true [7,3] (by simp) h2 w2.lt w2.r w2.a.seesS
    have w3 := w2.grow g3
    have b3 := gget g3 l2 b2
    have l3:h.nx * 256 < h3.nx * 256 := by have := g3.1; omega
    have k3 := ldS2 b3
    obtain ⟨c1,c2⟩ := ok_99t m (by omega) w3 x.name hsl
    have G3 := (g1.trans g2).trans g3
    simp only [hh1] at e2 k1
    simp at e2 e3
    cases hi:insideOps ar [7,3] with
    | true =>
      rw [hi] at e3
      refine ⟨vt,st,h3,?_,w3,?_,Step.grow _ G3⟩
      · simp [f84,Fr.keep_cons',Fr.keep_nil,stepE,pairs,fillE,cells_int,cells_str,cells_sl,cells_bool,nilv,el,k1,e2,e3,hk,hi,orE,settingE]
      · simp [settingE,orE,hk,hi]
    | false =>
      rw [hi] at e3
      cases hc:st.contains x.name with
      | true =>
        have c1' := c1 hc
        refine ⟨vt,st,h3,?_,w3,?_,Step.grow _ G3⟩
        · simp at hc; simp [f84,Fr.keep_cons',Fr.keep_nil,stepE,pairs,fillE,cells_int,cells_str,cells_sl,cells_bool,nilv,el,k1,k3,e2,e3,c1',hk,hi,hc,orE,settingE]
        · simp at hc; simp [settingE,orE,hk,hi,hc]
      | false =>
        obtain ⟨v',h4,e4,w4,s4⟩ := c2 hc
        have b4:h4.get (h.nx * 256) = some (.row [x.v] 11 .rw) := by
          rw [s4.keep _ l3 (fun hh => by have := hw.ltS _ hh; omega)]; exact b3
        have k4 := ldS5 b4
        obtain ⟨h5,e5,g5⟩ := ok_78 m (by omega) hp (w4.wr hal) x.expr hex
        refine ⟨v',st ++ [x.name],h5,?_,w4.grow g5,fun _ => rfl,((Step.grow _ G3).trans s4).trans (Step.grow _ g5)⟩
        simp at hc; simp [f84,Fr.keep_cons',Fr.keep_nil,stepE,pairs,fillE,cells_int,cells_str,cells_sl,cells_bool,nilv,el,k1,k3,k4,e2,e3,e4,e5,hk,hi,hc,orE,settingE]
  · refine ⟨vt,st,h2,?_,w1.grow g2,?_,Step.grow _ (g1.trans g2)⟩
    · simp only [hh1] at e2 k1
      simp at e2
      simp [f84,Fr.keep_cons',Fr.keep_nil,stepE,pairs,fillE,cells_int,cells_str,cells_sl,cells_bool,nilv,el,k1,e2,hk,orE,settingE]
    · simp [settingE,orE,hk]

theorem cells_agg (l:List V):V.cells (.agg l) = l := rfl
theorem glue4 {cf:CallF} {k:Nat} {a b c p L R:IC} {fr fr3 fr4:Fr} {h h1 h4:H} (e:exec cf k (.seq a (.seq b (.seq c p))) fr h = some (.norm,fr3,h1)) (eL:exec cf k L fr3 h1 = some (.norm,fr4,h4)) :
    exec cf k (.seq a (.seq b (.seq c (.seq (.seq p L) R)))) fr h = exec cf k R fr4 h4 := by
  obtain ⟨f1,k1,e1,e2⟩ := exec_seq_norm e
  rw [exec_then e1,glue3 e2 eL]
def onAt (l:List Decl) (nm:List Nat):List Nat := l.foldl (fun acc d => if d.name == nm then d.on else acc) []
theorem onAt_take (l:List Decl) (nm:List Nat) (i:Nat) (d:Decl) (h:l[i]? = some d):onAt (l.take (i + 1)) nm = if d.name == nm then d.on else onAt (l.take i) nm := by
  unfold onAt
  rw [List.take_add_one,h]
  simp [List.foldl_append]
theorem stvD {h:H} {id:Nat} {d:Decl} (hg:h.get id = some (.row [.agg [.int .i64 0,.int .i64 0,.str [],.int .i64 0,.int .i64 0,.str []]] 6 .rw)):stv h 6 (.ptr id 0 0) d.v = some (h.set id (.row [d.v] 6 .rw)) := by
  simp [stv,hg,Decl.v,V.cells,one,splice]
theorem ldD0 {h:H} {id:Nat} {d:Decl} {kd:Kind} (hg:h.get id = some (.row [d.v] 6 kd)):ldv h 1 false (.ptr id 0 0) = some (.int .i64 d.kind) := by
  simp [ldv,hg,Decl.v,V.cells,cut,mk]
theorem ldD1 {h:H} {id:Nat} {d:Decl} {kd:Kind} (hg:h.get id = some (.row [d.v] 6 kd)):ldv h 1 false (.ptr id 0 1) = some (.int .i64 d.line) := by
  simp [ldv,hg,Decl.v,V.cells,cut,mk]
theorem ldD2 {h:H} {id:Nat} {d:Decl} {kd:Kind} (hg:h.get id = some (.row [d.v] 6 kd)):ldv h 1 false (.ptr id 0 2) = some (.str d.name) := by
  simp [ldv,hg,Decl.v,V.cells,cut,mk]
theorem ldD3 {h:H} {id:Nat} {d:Decl} {kd:Kind} (hg:h.get id = some (.row [d.v] 6 kd)):ldv h 1 false (.ptr id 0 3) = some (.int .i64 d.size) := by
  simp [ldv,hg,Decl.v,V.cells,cut,mk]
theorem ldD4 {h:H} {id:Nat} {d:Decl} {kd:Kind} (hg:h.get id = some (.row [d.v] 6 kd)):ldv h 1 false (.ptr id 0 4) = some (.int .i64 d.init) := by
  simp [ldv,hg,Decl.v,V.cells,cut,mk]
theorem ldD5 {h:H} {id:Nat} {d:Decl} {kd:Kind} (hg:h.get id = some (.row [d.v] 6 kd)):ldv h 1 false (.ptr id 0 5) = some (.str d.on) := by
  simp [ldv,hg,Decl.v,V.cells,cut,mk]
structure I82 (p:Prog) (w id:Nat) (x:Stmt) (h2:H) (i:Nat) (fr:Fr) (h:H):Prop where
  gr:Grow h2 h
  t0:Fr.get fr 0 = some (.ptr w 0 0)
  t3:Fr.get fr 3 = some (.ptr id 0 0)
  t6:Fr.get fr 6 = some (.str (onAt (p.decls.take i) x.name))
  t21:Fr.get fr 21 = some (.sl p.fd (p.decls.map Decl.v))
  t22:Fr.get fr 22 = some (.int .i64 p.decls.length)
  t23:Fr.get fr 23 = some (.int .i64 i)
theorem loop82 (m:Nat) (p:Prog) (hp:p.Small) (w id:Nat) (x:Stmt) (h2:H) (hid:id < h2.nx * 256) (hb:h2.get id = some (.row [x.v] 11 .rw)) (k:Nat) (hk:p.decls.length < k) (fr:Fr) (hI:I82 p w id x h2 0 fr h2) :
    ∃ fr' h',loopN (exec (call fns m) m b82_0) k fr h2 = some (.brk 0,fr',h') ∧ Grow h2 h' ∧ Fr.get fr' 0 = some (.ptr w 0 0) ∧ Fr.get fr' 3 = some (.ptr id 0 0) ∧ Fr.get fr' 6 = some (.str (onAt p.decls x.name)) := by
  have L := loopN_ind (b := exec (call fns m) m b82_0) (n := p.decls.length) (I := I82 p w id x h2) (Q := fun y fr' h' => y = .brk 0 ∧ Grow h2 h' ∧ Fr.get fr' 0 = some (.ptr w 0 0) ∧ Fr.get fr' 3 = some (.ptr id 0 0) ∧ Fr.get fr' 6 = some (.str (onAt p.decls x.name)))
    (fun i fr k hi hI => by
      obtain ⟨gr,t0,t3,t6,t21,t22,t23⟩ := hI
      obtain ⟨d,hd⟩:∃ d,p.decls[i]? = some d := ⟨_,List.getElem?_eq_getElem hi⟩
      have hi':(i:Int) < (p.decls.length:Int) := by omega
      have hpd := hp.d
      have hw:wrp .i64 ((i:Int) + 1) = (i:Int) + 1 := wrp_i64 (by omega) (by omega)
      have hon := onAt_take p.decls x.name i d hd
      let k0:H := (({ k with nx := k.nx + 1 }:H).set (k.nx * 256 + 2) (.row [.agg [.int .i64 0,.int .i64 0,.str [],.int .i64 0,.int .i64 0,.str []]] 6 .rw))
      let k1:H := k0.set (k.nx * 256 + 2) (.row [d.v] 6 .rw)
      have g1:Grow h2 k1 := ((gr.up (k.nx + 1) (by omega)).set (by have := gr.1; omega) _).set (by have := gr.1; omega) _
      have es:stv k0 6 (.ptr (k.nx * 256 + 2) 0 0) d.v = some k1 := stvD (by simp [k0,H.get_set])
      have hk1:k1.get (k.nx * 256 + 2) = some (.row [d.v] 6 .rw) := by simp [k1,H.get_set]
      have e2 := ldD2 hk1
      have e5 := ldD5 hk1
      have hs:k1.get id = some (.row [x.v] 11 .rw) := by rw [g1.2 id hid]; exact hb
      have s2 := ldS2 hs
      have ed := ld_33 d
      have el := len_33 d
      simp only [k0] at es
      refine .inl ?_
      cases hn:d.name == x.name with
      | true =>
        rw [hn] at hon
        simp [b82_0,iadv,stepE,cells_agg,t0,t3,t6,t21,t22,t23,hi',hd,hw,es,ed,el,e2,e5,s2,hn]
        exact ⟨_,_,⟨rfl,rfl⟩,g1,by simp [t0],by simp [t3],by simp [hon],by simp [t21],by simp [t22],by simp⟩
      | false =>
        rw [hn] at hon
        simp at hon
        simp [b82_0,iadv,stepE,cells_agg,t0,t3,t6,t21,t22,t23,hi',hd,hw,es,ed,el,e2,e5,s2,hn]
        exact ⟨_,_,⟨rfl,rfl⟩,g1,by simp [t0],by simp [t3],by simp [t6,hon],by simp [t21],by simp [t22],by simp⟩)
    (fun fr k hI => by
      obtain ⟨gr,t0,t3,t6,t21,t22,t23⟩ := hI
      simp only [List.take_length] at t6
      simp [b82_0,t0,t3,t6,t21,t22,t23]
      exact ⟨.brk 0,by simp,_,_,⟨rfl,rfl,rfl⟩,rfl,gr,by simp [t0],by simp [t3],by simp [t6]⟩)
    p.decls.length 0 (by omega) (by omega) k hk fr h2 hI
  obtain ⟨y,fr',h',e,rfl,q⟩ := L
  exact ⟨fr',h',e,q⟩
def conditionE (p:Prog) (t:Int) (ar:List Stmt) (x:Stmt):Int :=
  orE (K p t x.name [6]) (nst (insideOps ar [7] || (!insideName ar (onAt p.decls x.name) [4] || (decide (x.op = 9) && insideOps ar [8]))))
theorem ok_82 (n:Nat) (hn:4294967405 ≤ n) {p:Prog} (hp:p.Small) {t:Int} {w:Nat} {va vs vt:V} {ar:List Stmt} {h:H} (hw:WR p t w va vs vt ar h) (x:Stmt) :
    ∃ h',call fns n 82 [.ptr w 0 0,x.v] h = some (.int .i64 (conditionE p t ar x),h') ∧ Grow h h' := by
  obtain ⟨m,rfl⟩:∃ m,n = m + 1 := ⟨n - 1,by omega⟩
  obtain ⟨h1,hh1,g1,b1,l1⟩ := boxS h x 0
  have w1 := hw.grow g1
  have el := len_106 x
  have k1 := ldS2 b1
  obtain ⟨h2,e2,g2⟩ := ok_85 m (by omega) hp w1 x.name true [6] (by simp)
  rw [call_succ]
  show ∃ h',call1 (call fns m) m f82 _ _ = _ ∧ _
  by_cases hk:K p t x.name [6] = 0
  · have w2 := w1.grow g2
    have b2 := gget g2 l1 b1
    have l2:h.nx * 256 < h2.nx * 256 := by have := g2.1; omega
    have kd := ldWd w2.r
    obtain ⟨fr3,e3,i3⟩:∃ fr3,exec (call fns m) m (.seq s82_0 (.seq s82_1 (.seq s82_2 p82_3))) (enter 0 [.ptr w 0 0,x.v]) h = some (.norm,fr3,h2) ∧ I82 p w (h.nx * 256) x h2 0 fr3 h2 := by
      simp only [hh1] at e2 k1
      simp at e2
      simp [s82_0,s82_1,s82_2,p82_3,Fr.keep_cons',Fr.keep_nil,stepE,pairs,fillE,cells_int,cells_str,cells_sl,cells_bool,nilv,el,k1,kd,e2,hk]
      exact ⟨Grow.refl _,by simp,by simp,by simp [onAt],by simp,by simp,by simp⟩
    obtain ⟨fr4,h3,e4,g3,t0,t3,t6⟩ := loop82 m p hp w (h.nx * 256) x h2 l2 b2 m (by have := hp.d; omega) fr3 i3
    have q:exec (call fns m) m f82.body (enter 0 [.ptr w 0 0,x.v]) h = exec (call fns m) m (.seq s82_4 s82_5) fr4 h3 := by
      rw [body_82,seg_82_3]
      exact glue4 e3 (exec_brk e4)
    have w3 := w2.grow g3
    have b3 := gget g3 l2 b2
    have l3:h.nx * 256 < h3.nx * 256 := by have := g3.1; omega
    obtain ⟨h4,e5,g4⟩ := ok_81 m (by omega) w p t va vs vt .rw ar w3.len true [7] (by simp) h3 w3.lt w3.r w3.sv
    have w4 := w3.grow g4
    have b4 := gget g4 l3 b3
    have l4:h.nx * 256 < h4.nx * 256 := by have := g4.1; omega
    obtain ⟨h5,e6,g5⟩ := ok_95 m (by omega) w p t va vs vt .rw ar w4.len (onAt p.decls x.name) true [4] (by simp) h4 w4.lt w4.r w4.sv
    have w5 := w4.grow g5
    have b5 := gget g5 l4 b4
    have k5 := ldS0 b5
    obtain ⟨h6,e7,g6⟩ := ok_81 m (by omega) w p t va vs vt .rw ar w5.len true [8] (by simp) h5 w5.lt w5.r w5.sv
    have e80 := fun b h => ok_80 m (by omega) b h
    have G3 := (g1.trans g2).trans g3
    unfold call1
    rw [q]
    simp at e5 e6 e7
    cases ha:insideOps ar [7] with
    | true =>
      refine ⟨h4,?_,G3.trans g4⟩
      rw [ha] at e5
      simp [s82_4,s82_5,iadv,ldv,cut,mk,V.cells,pairs,fillE,t0,t3,t6,e5,e80,conditionE,orE,nst,hk,ha,res_82,fz_82]
    | false =>
      rw [ha] at e5
      cases hb:insideName ar (onAt p.decls x.name) [4] with
      | false =>
        refine ⟨h5,?_,(G3.trans g4).trans g5⟩
        rw [hb] at e6
        simp [s82_4,s82_5,iadv,ldv,cut,mk,V.cells,pairs,fillE,t0,t3,t6,e5,e6,e80,conditionE,orE,nst,hk,ha,hb,res_82,fz_82]
      | true =>
        rw [hb] at e6
        simp only [ldv] at k5
        by_cases ho:x.op = 9
        · refine ⟨h6,?_,((G3.trans g4).trans g5).trans g6⟩
          rw [ho] at k5
          cases hc:insideOps ar [8] <;> rw [hc] at e7 <;> simp [s82_4,s82_5,iadv,ldv,cut,mk,V.cells,pairs,fillE,t0,t3,t6,e5,e6,e7,e80,k5,conditionE,orE,nst,hk,ha,hb,hc,ho,b5,Stmt.v_eq,res_82,fz_82]
        · refine ⟨h5,?_,(G3.trans g4).trans g5⟩
          simp [s82_4,s82_5,iadv,ldv,cut,mk,V.cells,pairs,fillE,t0,t3,t6,e5,e6,e80,k5,conditionE,orE,nst,hk,ha,hb,ho,b5,Stmt.v_eq,res_82,fz_82]
  · refine ⟨h2,?_,g1.trans g2⟩
    simp only [hh1] at e2 k1
    simp at e2
    simp [f82,Fr.keep_cons',Fr.keep_nil,stepE,pairs,fillE,cells_int,cells_str,cells_sl,cells_bool,nilv,el,k1,e2,hk,orE,conditionE]

def lockE (p:Prog) (t:Int) (ar:List Stmt) (x:Stmt) (kd:Int) (ops:List Int):Int := orE (K p t x.name [kd]) (nst (insideOps ar [7] || insideName ar x.name ops))
def getE (p:Prog) (t:Int) (ar:List Stmt) (x:Stmt):Int := orE (K p t x.name [1]) (orE (K p t x.arg [7]) (nst (insideOps ar [7])))
/-- P4.3: the error of a statement by itself. -/
def oneE (p:Prog) (t:Int) (ar:List Stmt) (sp st:List (List Nat)) (x:Stmt):Int :=
  if x.op = 1 then assignE p t x else if x.op = 2 ∨ x.op = 3 then exprErr p t x.expr else if x.op = 4 then lockE p t ar x 4 [4] else if x.op = 5 ∨ x.op = 6 then lockE p t ar x 5 [5,6]
  else if x.op = 7 then nst (insideOps ar [7]) else if x.op = 8 then nst (insideOps ar [7,8]) else if x.op = 9 ∨ x.op = 10 ∨ x.op = 11 then conditionE p t ar x
  else if x.op = 12 ∨ x.op = 13 then otherE p t ar sp x else if x.op = 14 then settingE p t ar st x else getE p t ar x
def nextSp (x:Stmt) (sp:List (List Nat)):List (List Nat) := if x.op = 12 then sp ++ [x.name] else sp
def nextSt (x:Stmt) (st:List (List Nat)):List (List Nat) := if x.op = 14 then st ++ [x.name] else st
structure Stmt.Fit (x:Stmt):Prop where
  ix:∀ e,e ∈ x.index → e.Fine
  ex:x.op = 1 ∨ x.op = 2 ∨ x.op = 3 ∨ x.op = 14 → x.expr.Fine
  nm:x.op = 4 ∨ x.op = 5 ∨ x.op = 6 → x.name ≠ []
theorem ok_59 (n:Nat) (hn:4294967410 ≤ n) {p:Prog} (hp:p.Small) {t:Int} {w:Nat} {va vs vt:V} {ar:List Stmt} {sp st:List (List Nat)} {h:H} (hw:WS p t w va vs vt ar sp st h) (hal:ar.length < 2 ^ 31) (hsl:sp.length + 1 < 2 ^ 31) (htl:st.length + 1 < 2 ^ 31) (x:Stmt) (hx:x.Fit) :
    ∃ vs' vt' sp' st' h',call fns n 59 [.ptr w 0 0,x.v] h = some (.int .i64 (oneE p t ar sp st x),h') ∧ WS p t w va vs' vt' ar sp' st' h' ∧ (oneE p t ar sp st x = 0 → sp' = nextSp x sp ∧ st' = nextSt x st) ∧ Step (wS w va vs vt) (wS w va vs' vt') h h' := by
  obtain ⟨m,rfl⟩:∃ m,n = m + 1 := ⟨n - 1,by omega⟩
  obtain ⟨h1,hh1,g1,b1,l1⟩ := boxS h x 0
  have w1 := hw.grow g1
  have r1 := w1.wr hal
  have el := len_106 x
  have k0 := ldS0 b1
  have ka := ldSa b1
  have ke := ldS5 b1
  rw [call_succ]
  show ∃ vs' vt' sp' st' h',call1 (call fns m) m f59 _ _ = _ ∧ _
  by_cases o1:x.op = 1
  · obtain ⟨h2,e2,g2⟩ := ok_77 m (by omega) hp r1 x hx.ix (hx.ex (.inl o1))
    rw [o1] at k0
    refine ⟨vs,vt,sp,st,h2,?_,w1.grow g2,fun _ => by simp [nextSp,nextSt,o1],Step.grow _ (g1.trans g2)⟩
    simp only [hh1] at e2 k0 ka ke
    try simp at e2
    simp [f59,Fr.keep_cons',Fr.keep_nil,stepE,pairs,fillE,cells_int,cells_str,cells_sl,cells_bool,el,k0,ka,ke,e2,oneE,o1]
  by_cases o2:x.op = 2
  · obtain ⟨h2,e2,g2⟩ := ok_78 m (by omega) hp r1 x.expr (hx.ex (.inr (.inl o2)))
    rw [o2] at k0
    refine ⟨vs,vt,sp,st,h2,?_,w1.grow g2,fun _ => by simp [nextSp,nextSt,o2],Step.grow _ (g1.trans g2)⟩
    simp only [hh1] at e2 k0 ka ke
    try simp at e2
    simp [f59,Fr.keep_cons',Fr.keep_nil,stepE,pairs,fillE,cells_int,cells_str,cells_sl,cells_bool,el,k0,ka,ke,e2,oneE,o2]
  by_cases o3:x.op = 3
  · obtain ⟨h2,e2,g2⟩ := ok_78 m (by omega) hp r1 x.expr (hx.ex (.inr (.inr (.inl o3))))
    rw [o3] at k0
    refine ⟨vs,vt,sp,st,h2,?_,w1.grow g2,fun _ => by simp [nextSp,nextSt,o3],Step.grow _ (g1.trans g2)⟩
    simp only [hh1] at e2 k0 ka ke
    try simp at e2
    simp [f59,Fr.keep_cons',Fr.keep_nil,stepE,pairs,fillE,cells_int,cells_str,cells_sl,cells_bool,el,k0,ka,ke,e2,oneE,o3]
  by_cases o4:x.op = 4
  · obtain ⟨h2,e2,g2⟩ := ok_79 m (by omega) hp r1 x 4 true [4] (by simp)
    rw [o4] at k0
    refine ⟨vs,vt,sp,st,h2,?_,w1.grow g2,fun _ => by simp [nextSp,nextSt,o4],Step.grow _ (g1.trans g2)⟩
    simp only [hh1] at e2 k0 ka ke
    try simp at e2
    simp [f59,Fr.keep_cons',Fr.keep_nil,stepE,pairs,fillE,cells_int,cells_str,cells_sl,cells_bool,el,k0,ka,ke,e2,oneE,lockE,o4]
  by_cases o5:x.op = 5
  · obtain ⟨h2,e2,g2⟩ := ok_79 m (by omega) hp r1 x 5 true [5,6] (by simp)
    rw [o5] at k0
    refine ⟨vs,vt,sp,st,h2,?_,w1.grow g2,fun _ => by simp [nextSp,nextSt,o5],Step.grow _ (g1.trans g2)⟩
    simp only [hh1] at e2 k0 ka ke
    try simp at e2
    simp [f59,Fr.keep_cons',Fr.keep_nil,stepE,pairs,fillE,cells_int,cells_str,cells_sl,cells_bool,el,k0,ka,ke,e2,oneE,lockE,o5]
  by_cases o6:x.op = 6
  · obtain ⟨h2,e2,g2⟩ := ok_79 m (by omega) hp r1 x 5 true [5,6] (by simp)
    rw [o6] at k0
    refine ⟨vs,vt,sp,st,h2,?_,w1.grow g2,fun _ => by simp [nextSp,nextSt,o6],Step.grow _ (g1.trans g2)⟩
    simp only [hh1] at e2 k0 ka ke
    try simp at e2
    simp [f59,Fr.keep_cons',Fr.keep_nil,stepE,pairs,fillE,cells_int,cells_str,cells_sl,cells_bool,el,k0,ka,ke,e2,oneE,lockE,o6]
  by_cases o7:x.op = 7
  · obtain ⟨h2,e2,g2⟩ := ok_81 m (by omega) w p t va vs vt .rw ar hal true [7] (by simp) h1 w1.lt w1.r r1.sv
    rw [o7] at k0
    refine ⟨vs,vt,sp,st,h2,?_,w1.grow g2,fun _ => by simp [nextSp,nextSt,o7],Step.grow _ (g1.trans g2)⟩
    simp only [hh1] at e2 k0 ka ke
    try simp at e2
    simp [f59,Fr.keep_cons',Fr.keep_nil,stepE,pairs,fillE,cells_int,cells_str,cells_sl,cells_bool,el,k0,ka,ke,e2,ok_80 m (by omega),oneE,nst,o7]
  by_cases o8:x.op = 8
  · obtain ⟨h2,e2,g2⟩ := ok_81 m (by omega) w p t va vs vt .rw ar hal true [7,8] (by simp) h1 w1.lt w1.r r1.sv
    rw [o8] at k0
    refine ⟨vs,vt,sp,st,h2,?_,w1.grow g2,fun _ => by simp [nextSp,nextSt,o8],Step.grow _ (g1.trans g2)⟩
    simp only [hh1] at e2 k0 ka ke
    try simp at e2
    simp [f59,Fr.keep_cons',Fr.keep_nil,stepE,pairs,fillE,cells_int,cells_str,cells_sl,cells_bool,el,k0,ka,ke,e2,ok_80 m (by omega),oneE,nst,o8]
  by_cases o9:x.op = 9
  · obtain ⟨h2,e2,g2⟩ := ok_82 m (by omega) hp r1 x
    rw [o9] at k0
    refine ⟨vs,vt,sp,st,h2,?_,w1.grow g2,fun _ => by simp [nextSp,nextSt,o9],Step.grow _ (g1.trans g2)⟩
    simp only [hh1] at e2 k0 ka ke
    try simp at e2
    simp [f59,Fr.keep_cons',Fr.keep_nil,stepE,pairs,fillE,cells_int,cells_str,cells_sl,cells_bool,el,k0,ka,ke,e2,oneE,o9]
  by_cases o10:x.op = 10
  · obtain ⟨h2,e2,g2⟩ := ok_82 m (by omega) hp r1 x
    rw [o10] at k0
    refine ⟨vs,vt,sp,st,h2,?_,w1.grow g2,fun _ => by simp [nextSp,nextSt,o10],Step.grow _ (g1.trans g2)⟩
    simp only [hh1] at e2 k0 ka ke
    try simp at e2
    simp [f59,Fr.keep_cons',Fr.keep_nil,stepE,pairs,fillE,cells_int,cells_str,cells_sl,cells_bool,el,k0,ka,ke,e2,oneE,o10]
  by_cases o11:x.op = 11
  · obtain ⟨h2,e2,g2⟩ := ok_82 m (by omega) hp r1 x
    rw [o11] at k0
    refine ⟨vs,vt,sp,st,h2,?_,w1.grow g2,fun _ => by simp [nextSp,nextSt,o11],Step.grow _ (g1.trans g2)⟩
    simp only [hh1] at e2 k0 ka ke
    try simp at e2
    simp [f59,Fr.keep_cons',Fr.keep_nil,stepE,pairs,fillE,cells_int,cells_str,cells_sl,cells_bool,el,k0,ka,ke,e2,oneE,o11]
  by_cases o12:x.op = 12
  · obtain ⟨vs',sp',h2,e2,w2,q2,s2⟩ := ok_83 m (by omega) hp w1 hal hsl x
    rw [o12] at k0
    have hone:oneE p t ar sp st x = otherE p t ar sp x := by simp [oneE,o12]
    refine ⟨vs',vt,sp',st,h2,?_,w2,fun hz => by rw [hone] at hz; rw [q2 hz]; simp [nextSp,nextSt,o12],(Step.grow _ g1).trans s2⟩
    simp only [hh1] at e2 k0 ka ke
    try simp at e2
    simp [f59,Fr.keep_cons',Fr.keep_nil,stepE,pairs,fillE,cells_int,cells_str,cells_sl,cells_bool,el,k0,ka,ke,e2,hone]
  by_cases o13:x.op = 13
  · obtain ⟨vs',sp',h2,e2,w2,q2,s2⟩ := ok_83 m (by omega) hp w1 hal hsl x
    rw [o13] at k0
    have hone:oneE p t ar sp st x = otherE p t ar sp x := by simp [oneE,o13]
    refine ⟨vs',vt,sp',st,h2,?_,w2,fun hz => by rw [hone] at hz; rw [q2 hz]; simp [nextSp,nextSt,o13],(Step.grow _ g1).trans s2⟩
    simp only [hh1] at e2 k0 ka ke
    try simp at e2
    simp [f59,Fr.keep_cons',Fr.keep_nil,stepE,pairs,fillE,cells_int,cells_str,cells_sl,cells_bool,el,k0,ka,ke,e2,hone]
  by_cases o14:x.op = 14
  · obtain ⟨vt',st',h2,e2,w2,q2,s2⟩ := ok_84 m (by omega) hp w1 hal htl x (hx.ex (.inr (.inr (.inr o14))))
    rw [o14] at k0
    have hone:oneE p t ar sp st x = settingE p t ar st x := by simp [oneE,o14]
    refine ⟨vs,vt',sp,st',h2,?_,w2,fun hz => by rw [hone] at hz; rw [q2 hz]; simp [nextSp,nextSt,o14],(Step.grow _ g1).trans s2⟩
    simp only [hh1] at e2 k0 ka ke
    try simp at e2
    simp [f59,Fr.keep_cons',Fr.keep_nil,stepE,pairs,fillE,cells_int,cells_str,cells_sl,cells_bool,el,k0,ka,ke,e2,hone]
  have hone:oneE p t ar sp st x = getE p t ar x := by simp [oneE,o1,o2,o3,o4,o5,o6,o7,o8,o9,o10,o11,o12,o13,o14]
  have k1 := ldS2 b1
  obtain ⟨h2,e2,g2⟩ := ok_85 m (by omega) hp r1 x.name true [1] (by simp)
  have r2 := r1.grow g2
  have b2 := gget g2 l1 b1
  have k3 := ldS3 b2
  obtain ⟨h3,e3,g3⟩ := ok_85 m (by omega) hp r2 x.arg true [7] (by simp)
  have r3 := r2.grow g3
  obtain ⟨h4,e4,g4⟩ := ok_81 m (by omega) w p t va vs vt .rw ar hal true [7] (by simp) h3 r3.lt r3.r r3.sv
  have e80 := fun b h => ok_80 m (by omega) b h
  simp only [hh1] at e2 k0 k1
  simp at e2 e3 e4
  by_cases hk:K p t x.name [1] = 0
  · by_cases hk2:K p t x.arg [7] = 0
    · refine ⟨vs,vt,sp,st,h4,?_,((w1.grow g2).grow g3).grow g4,fun _ => by simp [nextSp,nextSt,o12,o14],Step.grow _ (((g1.trans g2).trans g3).trans g4)⟩
      rw [hone]
      simp [f59,Fr.keep_cons',Fr.keep_nil,stepE,pairs,fillE,cells_int,cells_str,cells_sl,cells_bool,el,k0,k1,k3,e2,e3,e4,e80,hk,hk2,getE,orE,nst,o1,o2,o3,o4,o5,o6,o7,o8,o9,o10,o11,o12,o13,o14]
    · refine ⟨vs,vt,sp,st,h3,?_,(w1.grow g2).grow g3,fun _ => by simp [nextSp,nextSt,o12,o14],Step.grow _ ((g1.trans g2).trans g3)⟩
      rw [hone]
      simp [f59,Fr.keep_cons',Fr.keep_nil,stepE,pairs,fillE,cells_int,cells_str,cells_sl,cells_bool,el,k0,k1,k3,e2,e3,hk,hk2,getE,orE,nst,o1,o2,o3,o4,o5,o6,o7,o8,o9,o10,o11,o12,o13,o14]
  · refine ⟨vs,vt,sp,st,h2,?_,w1.grow g2,fun _ => by simp [nextSp,nextSt,o12,o14],Step.grow _ (g1.trans g2)⟩
    rw [hone]
    simp [f59,Fr.keep_cons',Fr.keep_nil,stepE,pairs,fillE,cells_int,cells_str,cells_sl,cells_bool,el,k0,k1,e2,hk,getE,orE,nst,o1,o2,o3,o4,o5,o6,o7,o8,o9,o10,o11,o12,o13,o14]

/-! ### The walk,in plain Lean -/
abbrev Res := Int × Int × List (List Nat) × List (List Nat)
mutual
def walkS (p:Prog) (t:Int):Stmt → List Stmt → List (List Nat) → List (List Nat) → Res
  | .mk op line nm arg fi ix ex fb body fe els,ar,sp,st =>
    if ar.length < 6 then
      (if oneE p t ar sp st (.mk op line nm arg fi ix ex fb body fe els) = 0 then
        (if (walkL p t body (ar ++ [.mk op line nm arg fi ix ex fb body fe els]) (nextSp (.mk op line nm arg fi ix ex fb body fe els) sp) (nextSt (.mk op line nm arg fi ix ex fb body fe els) st)).1 = 0 then
          walkL p t els (ar ++ [.mk op line nm arg fi ix ex fb body fe els])
            (walkL p t body (ar ++ [.mk op line nm arg fi ix ex fb body fe els]) (nextSp (.mk op line nm arg fi ix ex fb body fe els) sp) (nextSt (.mk op line nm arg fi ix ex fb body fe els) st)).2.2.1
            (walkL p t body (ar ++ [.mk op line nm arg fi ix ex fb body fe els]) (nextSp (.mk op line nm arg fi ix ex fb body fe els) sp) (nextSt (.mk op line nm arg fi ix ex fb body fe els) st)).2.2.2
        else walkL p t body (ar ++ [.mk op line nm arg fi ix ex fb body fe els]) (nextSp (.mk op line nm arg fi ix ex fb body fe els) sp) (nextSt (.mk op line nm arg fi ix ex fb body fe els) st))
      else (oneE p t ar sp st (.mk op line nm arg fi ix ex fb body fe els),line,sp,st))
    else (2,line,sp,st)
def walkL (p:Prog) (t:Int):List Stmt → List Stmt → List (List Nat) → List (List Nat) → Res
  | [],_,sp,st => (0,0,sp,st)
  | s :: l,ar,sp,st => if (walkS p t s ar sp st).1 = 0 then walkL p t l ar (walkS p t s ar sp st).2.2.1 (walkS p t s ar sp st).2.2.2 else walkS p t s ar sp st
end
theorem walkS_eq (p:Prog) (t:Int) (s:Stmt) (ar:List Stmt) (sp st:List (List Nat)):walkS p t s ar sp st =
    if ar.length < 6 then
      (if oneE p t ar sp st s = 0 then
        (if (walkL p t s.body (ar ++ [s]) (nextSp s sp) (nextSt s st)).1 = 0 then
          walkL p t s.els (ar ++ [s]) (walkL p t s.body (ar ++ [s]) (nextSp s sp) (nextSt s st)).2.2.1 (walkL p t s.body (ar ++ [s]) (nextSp s sp) (nextSt s st)).2.2.2
        else walkL p t s.body (ar ++ [s]) (nextSp s sp) (nextSt s st))
      else (oneE p t ar sp st s,s.line,sp,st))
    else (2,s.line,sp,st) := by
  obtain ⟨op,line,name,arg,fi,index,expr,fb,body,fe,els⟩ := s
  rw [walkS]
  rfl
theorem nextSp_len (s:Stmt) (sp:List (List Nat)):(nextSp s sp).length ≤ sp.length + 1 := by unfold nextSp; split <;> simp
theorem nextSt_len (s:Stmt) (st:List (List Nat)):(nextSt s st).length ≤ st.length + 1 := by unfold nextSt; split <;> simp
theorem walk_len (p:Prog) (t:Int) (d:Nat):∀ (l:List Stmt) (_:Stmt.cntL l ≤ d) (ar:List Stmt) (sp st:List (List Nat)),
    (walkL p t l ar sp st).2.2.1.length ≤ sp.length + Stmt.cntL l ∧ (walkL p t l ar sp st).2.2.2.length ≤ st.length + Stmt.cntL l := by
  induction d with
  | zero =>
    intro l hd ar sp st
    have:l = [] := by have := len_cntL l; cases l <;> simp_all
    subst this
    simp [walkL,Stmt.cntL]
  | succ d ih =>
    intro l
    induction l with
    | nil => intro hd ar sp st; simp [walkL,Stmt.cntL]
    | cons s l ihl =>
      intro hd ar sp st
      simp only [Stmt.cntL] at hd ⊢
      have hc := Stmt.cnt_eq s
      have hS:(walkS p t s ar sp st).2.2.1.length ≤ sp.length + s.cnt ∧ (walkS p t s ar sp st).2.2.2.length ≤ st.length + s.cnt := by
        have n1 := nextSp_len s sp
        have n2 := nextSt_len s st
        have b := ih s.body (by omega) (ar ++ [s]) (nextSp s sp) (nextSt s st)
        have e := ih s.els (by omega) (ar ++ [s]) (walkL p t s.body (ar ++ [s]) (nextSp s sp) (nextSt s st)).2.2.1 (walkL p t s.body (ar ++ [s]) (nextSp s sp) (nextSt s st)).2.2.2
        rw [walkS_eq]
        split
        · split
          · split <;> constructor <;> omega
          · constructor <;> simp
        · constructor <;> simp
      rw [walkL]
      split
      · have := ihl (by omega) ar (walkS p t s ar sp st).2.2.1 (walkS p t s ar sp st).2.2.2
        omega
      · omega
theorem walkS_len (p:Prog) (t:Int) (s:Stmt) (ar:List Stmt) (sp st:List (List Nat)) (h:(walkS p t s ar sp st).1 = 0):(walkS p t s ar sp st).2.2.1.length ≤ sp.length + s.cnt ∧ (walkS p t s ar sp st).2.2.2.length ≤ st.length + s.cnt := by
  have := walk_len p t _ [s] (Nat.le_refl _) ar sp st
  simp only [walkL,h,Stmt.cntL] at this
  simpa using this
mutual
def allS (P:Stmt → Prop):Stmt → Prop
  | .mk op line nm arg fi ix ex fb body fe els => P (.mk op line nm arg fi ix ex fb body fe els) ∧ (allL P body ∧ allL P els)
def allL (P:Stmt → Prop):List Stmt → Prop
  | [] => True
  | s :: l => allS P s ∧ allL P l
end
theorem allS_eq (P:Stmt → Prop) (s:Stmt):allS P s ↔ P s ∧ (allL P s.body ∧ allL P s.els) := by
  obtain ⟨op,line,name,arg,fi,index,expr,fb,body,fe,els⟩ := s
  rw [allS]; rfl
theorem allL_at {P:Stmt → Prop}:∀ {l:List Stmt} {i:Nat} {x:Stmt},allL P l → l[i]? = some x → allS P x
  | [],i,x,_,h => by simp at h
  | s :: l,0,x,ha,h => by simp at h; subst h; rw [allL] at ha; exact ha.1
  | s :: l,i + 1,x,ha,h => by rw [allL] at ha; exact allL_at ha.2 (by simpa using h)
theorem cntL_drop (l:List Stmt) (i:Nat) (x:Stmt) (h:l[i]? = some x):Stmt.cntL (l.drop i) = x.cnt + Stmt.cntL (l.drop (i + 1)) := by
  obtain ⟨hi,rfl⟩ := List.getElem?_eq_some_iff.1 h
  rw [List.drop_eq_getElem_cons hi,Stmt.cntL]
theorem cnt_mem (l:List Stmt) (i:Nat) (x:Stmt) (h:l[i]? = some x):x.cnt ≤ Stmt.cntL l := by
  have h1 := cntL_take l i x h
  have h2 := cntL_le l (i + 1)
  omega
theorem drop_cons {l:List Stmt} {i:Nat} {x:Stmt} (h:l[i]? = some x):l.drop i = x :: l.drop (i + 1) := by
  obtain ⟨hi,rfl⟩ := List.getElem?_eq_some_iff.1 h
  exact List.drop_eq_getElem_cons hi

/-! ### How code is joined -/
theorem seq_congr {cf:CallF} {k:Nat} {a b b':IC} (e:∀ fr h,exec cf k b fr h = exec cf k b' fr h) (fr:Fr) (h:H):exec cf k (.seq a b) fr h = exec cf k (.seq a b') fr h := by
  simp only [exec,e]
theorem seq3_assoc (cf:CallF) (k:Nat) (a b c R:IC) (fr:Fr) (h:H):exec cf k (.seq a (.seq b (.seq c R))) fr h = exec cf k (.seq (.seq a (.seq b c)) R) fr h := by
  rw [exec_assoc]
  exact seq_congr (fun fr h => (exec_assoc cf k b c R fr h).symm) fr h
theorem seq4_assoc (cf:CallF) (k:Nat) (a b c d R:IC) (fr:Fr) (h:H):exec cf k (.seq a (.seq b (.seq c (.seq d R)))) fr h = exec cf k (.seq (.seq a (.seq b (.seq c d))) R) fr h := by
  rw [exec_assoc]
  exact seq_congr (fun fr h => seq3_assoc cf k b c d R fr h) fr h
theorem exec_blk {cf:CallF} {k:Nat} {b:IC} {d:Nat} {fr fr':Fr} {h h':H} {x:X} (hx:x.isBrk = false) (e:exec cf k b fr h = some (x,fr',h')):exec cf k (.block d b) fr h = some (x,fr',h') := by
  simp only [exec,e]
  cases x with
  | brk j => simp at hx
  | norm => rfl
  | ret => rfl
theorem loopN_succ (b:Fr → H → Option (X × Fr × H)) (n:Nat) (fr:Fr) (h:H):loopN b (n + 1) fr h = match b fr h with | some (.norm,fr',h') => loopN b n fr' h' | r => r := rfl
theorem loop_next {b:Fr → H → Option (X × Fr × H)} {n:Nat} {fr fr':Fr} {h h':H} (e:b fr h = some (.norm,fr',h')):loopN b (n + 1) fr h = loopN b n fr' h' := by rw [loopN_succ,e]
theorem loop_out {b:Fr → H → Option (X × Fr × H)} {n:Nat} {fr fr':Fr} {h h':H} {x:X} (hx:x ≠ .norm) (e:b fr h = some (x,fr',h')):loopN b (n + 1) fr h = some (x,fr',h') := by
  rw [loopN_succ,e]
  cases x with
  | norm => exact absurd rfl hx
  | brk j => rfl
  | ret => rfl
def q39_A:IC := (rF 2 [bq 0 16 .lss (.t 15) (.t 14)] ma28)
def q39_B:IC := (.cond (.t 16) .skip (.exit 0))
def q39_1:IC := (rT 3 [oq 0 17 (.iad 11 (.t 13) (.t 15)),lq 1 18 11 true 17,oq 2 7 (.alloc (.agg [.int .i64 0,.int .i64 0,.str [],.str [],.sl true [],.int .i64 0,.int .i64 0,.str [],.sl true [],.sl true [],.sl true []])),sq 3 11 7 (.t 18)] ma28)
def q39_2:IC := (rF 4 [oq 0 8 (.mv (ic 2))] ma28)
def q39_3:IC := (.seq (rF 5 [mq 0 19 0,nq 1 20 19,fq 2 21 20 3,lq 3 22 1 false 21,zq 4 23 false 22,bq 5 24 .lss (.t 23) (ic 6)] ma28) (.cond (.t 24) (rF 6 [mq 0 25 0,lq 1 26 11 true 7,cq 2 27 59 [.t 25,.t 26],mq 3 8 27] ma28) .skip))
def q39_4:IC := (.seq (rF 7 [mq 0 28 8,bq 1 29 .neq (.t 28) (ic 0)] ma28) (.cond (.t 29) (.seq (rF 8 [mq 0 30 8,fq 1 31 7 1,lq 2 32 1 false 31,mq 3 4 30,mq 4 5 32] ma28) .ret) .skip))
def q39_5:IC := (.reg 9 true [mq 0 33 0,nq 1 34 33,fq 2 35 34 3,lq 3 36 1 false 35,lq 4 37 11 true 7,zq 5 38 false 36,oq 6 39 (.bslF 11 (.agg [.int .i64 0,.int .i64 0,.str [],.str [],.sl true [],.int .i64 0,.int .i64 0,.str [],.sl true [],.sl true [],.sl true []]) 1 [(0,.c (.agg [.int .i64 0,.int .i64 0,.str [],.str [],.sl true [],.int .i64 0,.int .i64 0,.str [],.sl true [],.sl true [],.sl true []]))]),oq 7 40 (.app 11 (.t 36) (.t 39)),oq 8 41 (.iad 11 (.t 40) (.t 38)),sq 9 11 41 (.t 37),nq 10 42 33,fq 11 43 42 3,sq 12 1 43 (.t 40)] [(true,9,12)] ma28)
def q39_6:IC := (rF 10 [fq 0 44 7 9,lq 1 45 1 false 44,fq 2 46 7 10,lq 3 47 1 false 46,oq 4 48 (.bslF 1 (.sl true []) 2 [(0,.t 45),(1,.t 47)]),zq 5 49 false 48,oq 6 50 (.mv (ic 0))] ma28)
def q39_7:IC := (rF 17 [mq 0 65 0,mq 1 66 0,nq 2 67 66,fq 3 68 67 3,lq 4 69 1 false 68,mq 5 70 0,nq 6 71 70,fq 7 72 71 3,lq 8 73 1 false 72,zq 9 74 false 73,bq 10 75 .sub (.t 74) (ic 1),oq 11 76 (.slc 11 (.t 69) none (some (.t 75))),nq 12 77 65,fq 13 78 77 3,sq 14 1 78 (.t 76)] ma28)
def q39_D:IC := (rF 18 [bq 0 79 .add (.t 15) (ic 1),mq 1 15 79] ma28)
theorem shape_39:b39_1 = .seq q39_A (.seq q39_B (.seq (.block 1 (.seq q39_1 (.seq q39_2 (.seq q39_3 (.seq q39_4 (.seq q39_5 (.seq (.seq q39_6 (.block 2 (.loop b39_0))) q39_7))))))) q39_D)) := rfl
structure F39 (w:Nat) (lv:V) (n i:Nat) (fr:Fr):Prop where
  t0:Fr.get fr 0 = some (.ptr w 0 0)
  t13:Fr.get fr 13 = some lv
  t14:Fr.get fr 14 = some (.int .i64 n)
  t15:Fr.get fr 15 = some (.int .i64 i)
structure G39 (w:Nat) (lv:V) (n i:Nat) (la lb:V) (j:Nat) (fr:Fr):Prop where
  f:F39 w lv n i fr
  t48:Fr.get fr 48 = some (.sl true [la,lb])
  t49:Fr.get fr 49 = some (.int .i64 2)
  t50:Fr.get fr 50 = some (.int .i64 j)
/-- A round of the inner loop. -/
theorem inner39 (cf:CallF) (m w:Nat) (lv:V) (n i:Nat) (la lb lj:V) (hca:la.cells.length = 1) (hcb:lb.cells.length = 1) (j:Nat) (hj:([la,lb]:List V)[j]? = some lj) (hl1:∀ h,ldv h 1 false (.vptr lj.cells) = some lj) (fr:Fr) (k k':H) (F:G39 w lv n i la lb j fr) (e ln:Int)
    (hc:cf 39 [.ptr w 0 0,lj] k = some (.tup [.int .i64 e,.int .i64 ln],k')) :
    (e ≠ 0 → ∃ fr',exec cf m b39_0 fr k = some (.ret,fr',k') ∧ Fr.get fr' 4 = some (.int .i64 e) ∧ Fr.get fr' 5 = some (.int .i64 ln) ∧ Fr.get fr' 0 = some (.ptr w 0 0)) ∧
    (e = 0 → ∃ fr',exec cf m b39_0 fr k = some (.norm,fr',k') ∧ G39 w lv n i la lb (j + 1) fr') := by
  obtain ⟨⟨t0,t13,t14,t15⟩,t48,t49,t50⟩ := F
  have hj2:j < 2 := by
    have := (List.getElem?_eq_some_iff.1 hj).1
    simpa using this
  have hi':(j:Int) < 2 := by omega
  have hw:wrp .i64 ((j:Int) + 1) = (j:Int) + 1 := wrp_i64 (by omega) (by omega)
  have hlc:lj.cells.length = 1 := by
    match j,hj with
    | 0,hj => simp at hj; rw [← hj]; exact hca
    | 1,hj => simp at hj; rw [← hj]; exact hcb
    | j + 2,hj => simp at hj
  refine ⟨fun he => ?_,fun he => ?_⟩
  · simp [b39_0,iadv,t0,t48,t49,t50,hi',hj,hlc,hl1,hc,he]
  · subst he
    simp [b39_0,iadv,t0,t48,t49,t50,hi',hj,hlc,hl1,hc,hw]
    exact ⟨⟨by simp [t0],by simp [t13],by simp [t14],by simp [t15]⟩,by simp [t48],by simp [t49],by simp⟩
theorem inner39_end (cf:CallF) (m w:Nat) (lv:V) (n i:Nat) (la lb:V) (fr:Fr) (k:H) (F:G39 w lv n i la lb 2 fr) :
    ∃ fr',exec cf m b39_0 fr k = some (.brk 2,fr',k) ∧ F39 w lv n i fr' := by
  obtain ⟨⟨t0,t13,t14,t15⟩,t48,t49,t50⟩ := F
  simp [b39_0,t0,t48,t49,t50]
  exact ⟨by simp [t0],by simp [t13],by simp [t14],by simp [t15]⟩

theorem stvAt {h:H} {id i:Nat} {es:List V} {x:Stmt} {kd:Kind} (hk:kd ≠ .ro) (hg:h.get id = some (.row es 11 kd)) (he:es[i]? = some zeroS):stv h 11 (.ptr id i 0) x.v = some (h.set id (.row (es.set i x.v) 11 kd)) := by
  simp [stv,hg,hk,he,zeroS,Stmt.v_eq,V.cells,one,splice]
/-- The first half of a round: the statement by itself. -/
theorem first39 (m:Nat) (hm:4294967412 ≤ m) {p:Prog} (hp:p.Small) {t:Int} {w:Nat} {va vs vt:V} {ar:List Stmt} {sp st:List (List Nat)} {k:H} (hw:WS p t w va vs vt ar sp st k) (har:ar.length ≤ 6) (hsl:sp.length + 1 < 2 ^ 31) (htl:st.length + 1 < 2 ^ 31)
    (f:Bool) (l:List Stmt) (hl:l.length < 2 ^ 31) (i:Nat) (x:Stmt) (hx:l[i]? = some x) (hfit:x.Fit) (fr:Fr) (F:F39 w (.sl f (l.map Stmt.v)) l.length i fr) :
    ∃ frA,exec (call fns m) m (.seq q39_A q39_B) fr k = some (.norm,frA,k) ∧
    ((ar.length < 6 ∧ oneE p t ar sp st x = 0 ∧ ∃ fr' k' vs' vt',exec (call fns m) m (.seq q39_1 (.seq q39_2 (.seq q39_3 q39_4))) frA k = some (.norm,fr',k') ∧ F39 w (.sl f (l.map Stmt.v)) l.length i fr' ∧ Fr.get fr' 7 = some (.ptr (k.nx * 256 + 2) 0 0) ∧
      k'.get (k.nx * 256 + 2) = some (.row [x.v] 11 .rw) ∧ k.nx * 256 + 2 < k'.nx * 256 ∧ WS p t w va vs' vt' ar (nextSp x sp) (nextSt x st) k' ∧ Step (wS w va vs vt) (wS w va vs' vt') k k' ∧ k.nx * 256 + 2 ∉ wS w va vs' vt') ∨
    ((¬ ar.length < 6 ∨ oneE p t ar sp st x ≠ 0) ∧ ∃ fr' k' vs' vt' sp' st',exec (call fns m) m (.seq q39_1 (.seq q39_2 (.seq q39_3 q39_4))) frA k = some (.ret,fr',k') ∧ Fr.get fr' 4 = some (.int .i64 (if ar.length < 6 then oneE p t ar sp st x else 2)) ∧ Fr.get fr' 5 = some (.int .i64 x.line) ∧
      WS p t w va vs' vt' ar sp' st' k' ∧ Step (wS w va vs vt) (wS w va vs' vt') k k')) := by
  obtain ⟨t0,t13,t14,t15⟩ := F
  obtain ⟨hi,_⟩ := List.getElem?_eq_some_iff.1 hx
  have hi':(i:Int) < (l.length:Int) := by omega
  obtain ⟨frA,eA,⟨t0,t13,t14,t15⟩⟩:∃ frA,exec (call fns m) m (.seq q39_A q39_B) fr k = some (.norm,frA,k) ∧ F39 w (.sl f (l.map Stmt.v)) l.length i frA := by
    simp [q39_A,q39_B,t0,t13,t14,t15,hi']
    exact ⟨by simp [t0],by simp [t13],by simp [t14],by simp [t15]⟩
  refine ⟨frA,eA,?_⟩
  let k0:H := (({ k with nx := k.nx + 1 }:H).set (k.nx * 256 + 2) (.row [zeroS] 11 .rw))
  let k1:H := k0.set (k.nx * 256 + 2) (.row [x.v] 11 .rw)
  have g1:Grow k k1 := (((Grow.refl k).up (k.nx + 1) (by omega)).set (by omega) _).set (by omega) _
  have es:stv k0 11 (.ptr (k.nx * 256 + 2) 0 0) x.v = some k1 := stvS0 (by simp [k0,H.get_set])
  have b1:k1.get (k.nx * 256 + 2) = some (.row [x.v] 11 .rw) := by simp [k1,H.get_set]
  have l1:k.nx * 256 + 2 < k1.nx * 256 := by show _ < (k.nx + 1) * 256; omega
  have w1 := hw.grow g1
  have ed := ld_106 x
  have el := len_106 x
  have ka := ldSa b1
  have kl := ldS1 b1
  have kw := ldW3 w1.r
  simp only [k0,zeroS] at es
  have har2:(va = .sl true [] ∧ ar = []) ∨ ∃ id,va = .ref id 0 ar.length 11 none := by
    rcases w1.a.form with ⟨h1,h2⟩ | ⟨id,h1⟩
    · exact .inl ⟨h1,by simpa using h2⟩
    · exact .inr ⟨id,by simpa using h1⟩
  by_cases h6:ar.length < 6
  · have h6':(ar.length:Int) < 6 := by omega
    obtain ⟨vs',vt',sp',st',k2,e2,w2,q2,s2⟩ := ok_59 m (by omega) hp w1 (by omega) hsl htl x hfit
    have kl2:ldv k2 1 false (.ptr (k.nx * 256 + 2) 0 1) = some (.int .i64 x.line) := ldS1 (x := x) (kd := .rw) (by
      rw [s2.keep _ l1 (fun hh => by have := hw.ltS _ hh; omega)]; exact b1)
    have b2:k2.get (k.nx * 256 + 2) = some (.row [x.v] 11 .rw) := by
      rw [s2.keep _ l1 (fun hh => by have := hw.ltS _ hh; omega)]; exact b1
    have l2:k.nx * 256 + 2 < k2.nx * 256 := by have := s2.nx; omega
    have hfresh:k.nx * 256 + 2 ∉ wS w va vs' vt' := fun hh => (s2.ids _ hh).elim (fun h => by have := hw.ltS _ h; omega) (fun h => by have:k1.nx = k.nx + 1 := rfl; omega)
    by_cases h0:oneE p t ar sp st x = 0
    · obtain ⟨rfl,rfl⟩ := q2 h0
      rw [h0] at e2
      refine .inl ⟨h6,h0,?_⟩
      rcases har2 with ⟨rfl,rfl⟩ | ⟨ia,rfl⟩
      · simp [q39_1,q39_2,q39_3,q39_4,iadv,stepE,cells_agg,nilv,t0,t13,t14,t15,hx,es,ed,el,ka,kw,e2]
        exact ⟨_,_,⟨rfl,rfl⟩,⟨by simp [t0],by simp [t13],by simp [t14],by simp [t15]⟩,by simp,b2,l2,_,_,w2,(Step.grow _ g1).trans s2,hfresh⟩
      · simp [q39_1,q39_2,q39_3,q39_4,iadv,stepE,cells_agg,nilv,t0,t13,t14,t15,hx,es,ed,el,ka,kw,e2,h6']
        exact ⟨_,_,⟨rfl,rfl⟩,⟨by simp [t0],by simp [t13],by simp [t14],by simp [t15]⟩,by simp,b2,l2,_,_,w2,(Step.grow _ g1).trans s2,hfresh⟩
    · refine .inr ⟨.inr h0,?_⟩
      rw [if_pos h6]
      rcases har2 with ⟨rfl,rfl⟩ | ⟨ia,rfl⟩
      · simp [q39_1,q39_2,q39_3,q39_4,iadv,stepE,cells_agg,nilv,t0,t13,t14,t15,hx,es,ed,el,ka,kw,e2,h0,kl2]
        exact ⟨_,_,⟨rfl,rfl⟩,by simp,by simp,_,_,⟨_,_,w2⟩,(Step.grow _ g1).trans s2⟩
      · simp [q39_1,q39_2,q39_3,q39_4,iadv,stepE,cells_agg,nilv,t0,t13,t14,t15,hx,es,ed,el,ka,kw,e2,h6',h0,kl2]
        exact ⟨_,_,⟨rfl,rfl⟩,by simp,by simp,_,_,⟨_,_,w2⟩,(Step.grow _ g1).trans s2⟩
  · have h6':¬ (ar.length:Int) < 6 := by omega
    refine .inr ⟨.inl h6,?_⟩
    rw [if_neg h6]
    rcases har2 with ⟨rfl,rfl⟩ | ⟨ia,rfl⟩
    · simp at h6
    · simp [q39_1,q39_2,q39_3,q39_4,iadv,stepE,cells_agg,nilv,t0,t13,t14,t15,hx,es,ed,el,kl,kw,h6']
      exact ⟨_,_,⟨rfl,rfl⟩,by simp,by simp,_,_,⟨_,_,w1⟩,Step.grow _ g1⟩

theorem WS.pop {p:Prog} {t:Int} {w:Nat} {va vs vt:V} {ar:List Stmt} {x:Stmt} {sp st:List (List Nat)} {h:H} (hw:WS p t w va vs vt (ar ++ [x]) sp st h) :
    ∃ id,va = .ref id 0 (ar.length + 1) 11 none ∧ WS p t w (.ref id 0 ar.length 11 none) vs vt ar sp st (h.set w (.row [wrow p t (.ref id 0 ar.length 11 none) vs vt] 6 .rw)) ∧
      Step (wS w va vs vt) (wS w (.ref id 0 ar.length 11 none) vs vt) h (h.set w (.row [wrow p t (.ref id 0 ar.length 11 none) vs vt] 6 .rw)) := by
  have ha := hw.a
  rw [List.map_append] at ha
  obtain ⟨id,rfl,o⟩ := ha.pop
  simp only [List.length_map] at o
  have nd := hw.nd
  have hd := hw.nd
  simp only [wS,ids,List.nodup_cons,List.mem_append,List.mem_cons,List.not_mem_nil,or_false,not_or] at hd
  have hf := hd.1
  refine ⟨id,by simp,⟨by simp [H.get_set],hw.lt,?_,?_,?_,nd⟩,⟨Nat.le_refl _,fun i h1 h2 => ?_,fun i h1 => .inl h1⟩⟩
  · exact o.keep (fun i hi => by simp [ids] at hi; subst hi; rw [H.get_set,if_neg (by omega)]) (Nat.le_refl _)
  · exact hw.s.keep (fun i hi => by rw [H.get_set,if_neg (by rintro rfl; exact hf.2.1 hi)]) (Nat.le_refl _)
  · exact hw.t.keep (fun i hi => by rw [H.get_set,if_neg (by rintro rfl; exact hf.2.2 hi)]) (Nat.le_refl _)
  · simp only [wS,List.mem_cons,not_or] at h2
    rw [H.get_set,if_neg h2.1]
/-- A statement is put around. -/
theorem second39 (m:Nat) {p:Prog} {t:Int} {w:Nat} {va vs vt:V} {ar:List Stmt} {sp st:List (List Nat)} {k:H} (hw:WS p t w va vs vt ar sp st k) (har:ar.length ≤ 6) (lv:V) (n i:Nat) (x:Stmt) (fr:Fr) (F:F39 w lv n i fr)
    (ix:Nat) (t7:Fr.get fr 7 = some (.ptr ix 0 0)) (hix:k.get ix = some (.row [x.v] 11 .rw)) (lix:ix < k.nx * 256) (hne:ix ∉ wS w va vs vt) :
    ∃ fr' k' va',exec (call fns m) m (.seq q39_5 q39_6) fr k = some (.norm,fr',k') ∧ G39 w lv n i (.sl x.fb (x.body.map Stmt.v)) (.sl x.fe (x.els.map Stmt.v)) 0 fr' ∧
      WS p t w va' vs vt (ar ++ [x]) sp st k' ∧ Step (wS w va vs vt) (wS w va' vs vt) k k' := by
  obtain ⟨t0,t13,t14,t15⟩ := F
  let h1:H := { k with nx := k.nx + 1 }
  have o1:Own 11 h1 va (ar.map Stmt.v) := hw.a.keep (fun _ _ => rfl) (by show k.nx ≤ k.nx + 1; omega)
  have hf:k.nx * 256 + 7 ∉ ids va := fun hh => by have := hw.a.lt _ hh; omega
  obtain ⟨h3,ea,o2,hnx,keep,hrow⟩ := o1.app zeroS rfl (by omega) (by simp [bound]; omega) (k.nx * 256 + 7) (by show _ < (k.nx + 1) * 256; omega) hf (.sl true [zeroS]) rfl
  have hlt := hw.lt
  have nd := hw.nd
  simp only [wS,List.nodup_cons,List.mem_append,not_or] at nd
  simp only [wS,List.mem_cons,List.mem_append,not_or] at hne
  have hnw:k.nx * 256 + 7 ≠ w := by omega
  let h4:H := h3.set (k.nx * 256 + 7) (.row ((ar.map Stmt.v ++ [zeroS]).set ar.length x.v) 11 .slk)
  have es4:stv h3 11 (.ptr (k.nx * 256 + 7) ar.length 0) x.v = some h4 := stvAt (by decide) hrow (by simp)
  have hset:(ar.map Stmt.v ++ [zeroS]).set ar.length x.v = (ar ++ [x]).map Stmt.v := by
    rw [List.set_append_right _ _ (by simp)]
    simp
  have hgw:h4.get w = some (.row [wrow p t va vs vt] 6 .rw) := by
    simp only [h4]; rw [H.get_set,if_neg (Ne.symm hnw),keep w (Ne.symm hnw) nd.1.1]; exact hw.r
  have es5 := stW3 hgw (k.nx * 256 + 7) 0 (ar.map Stmt.v ++ [zeroS]).length 11 none
  have o4:Own 11 h4 (.ref (k.nx * 256 + 7) 0 (ar ++ [x]).length 11 none) ((ar ++ [x]).map Stmt.v) := by
    refine .inr ⟨k.nx * 256 + 7,(ar ++ [x]).map Stmt.v,by simp,?_,by rw [List.take_length],Nat.le_refl _,?_⟩
    · simp only [h4]; rw [H.get_set,if_pos rfl,hset]
    · show _ < h3.nx * 256; rw [hnx]; show _ < (k.nx + 1) * 256; omega
  have P := hw.put_a h4 (k.nx * 256 + 7) (ar ++ [x]).length (ar ++ [x]) (by omega) (by show _ < h3.nx * 256; rw [hnx]; show _ < (k.nx + 1) * 256; omega) (by show k.nx ≤ h3.nx; rw [hnx]; show k.nx ≤ k.nx + 1; omega) o4 (fun j hj hja => by
    simp only [h4]; rw [H.get_set,if_neg (by omega),keep j (by omega) hja]; rfl)
  have kw:ldv h1 1 false (.ptr w 0 3) = some va := ldW3 (h := h1) hw.r
  have kx:ldv h1 11 true (.ptr ix 0 0) = some x.v := ldSa (h := h1) hix
  let h5:H := h4.set w (.row [wrow p t (.ref (k.nx * 256 + 7) 0 (ar.length + 1) 11 none) vs vt] 6 .rw)
  have h5ix:h5.get ix = some (.row [x.v] 11 .rw) := by
    simp only [h5,h4]
    rw [H.get_set,if_neg hne.1,H.get_set,if_neg (by omega),keep ix (by omega) hne.2.1]; exact hix
  have k9 := ldS9 h5ix
  have k10 := ldS10 h5ix
  simp only [List.length_append,List.length_map,List.length_cons,List.length_nil,Nat.zero_add] at ea es5
  have es5':stv h4 1 (.ptr w 0 3) (.ref (k.nx * 256 + 7) 0 (ar.length + 1) 11 none) = some h5 := es5
  obtain ⟨fr',e,G⟩:∃ fr',exec (call fns m) m (.seq q39_5 q39_6) fr k = some (.norm,fr',h5) ∧ G39 w lv n i (.sl x.fb (x.body.map Stmt.v)) (.sl x.fe (x.els.map Stmt.v)) 0 fr' := by
    have hn7:¬ (k.nx * 256 + 7 = w) := hnw
    have hll:(ar.length:Int) < (ar.length:Int) + 1 := by omega
    simp only [h1,zeroS] at ea kw kx
    rcases hw.a.form with ⟨rfl,h2⟩ | ⟨id,rfl⟩
    · have har0:ar = [] := by simpa using h2
      subst har0
      simp at ea es4 es5'
      simp [q39_5,q39_6,iadv,stepE,pairs,fillE,cells_int,cells_str,cells_sl,cells_bool,cells_agg,nilv,t0,t7,kw,kx,ea,es4,es5',k9,k10,Log.push,addrOf,findL,obeq_refl,hn7]
      exact ⟨⟨by simp [t0],by simp [t13],by simp [t14],by simp [t15]⟩,by simp,by simp,by simp⟩
    · simp only [List.length_map] at ea kw
      simp [q39_5,q39_6,iadv,stepE,pairs,fillE,cells_int,cells_str,cells_sl,cells_bool,cells_agg,nilv,t0,t7,kw,kx,ea,es4,es5',k9,k10,Log.push,addrOf,findL,obeq_refl,hn7,hll]
      exact ⟨⟨by simp [t0],by simp [t13],by simp [t14],by simp [t15]⟩,by simp,by simp,by simp⟩
  exact ⟨fr',h5,.ref (k.nx * 256 + 7) 0 (ar ++ [x]).length 11 none,e,G,by simpa [h5] using P.1,by simpa [h5] using P.2⟩

/-- The statement is taken away again. -/
theorem third39 (m:Nat) {p:Prog} {t:Int} {w:Nat} {va vs vt:V} {ar:List Stmt} {x:Stmt} {sp st:List (List Nat)} {k:H} (hw:WS p t w va vs vt (ar ++ [x]) sp st k) (har:ar.length ≤ 6) (lv:V) (n i:Nat) (fr:Fr) (F:F39 w lv n i fr) :
    ∃ fr' k' va',exec (call fns m) m q39_7 fr k = some (.norm,fr',k') ∧ F39 w lv n i fr' ∧ WS p t w va' vs vt ar sp st k' ∧ Step (wS w va vs vt) (wS w va' vs vt) k k' := by
  obtain ⟨t0,t13,t14,t15⟩ := F
  obtain ⟨id,rfl,w',s'⟩ := hw.pop
  have kw := ldW3 hw.r
  have es := stW3 hw.r id 0 ar.length 11 none
  have hw1:wrp .i64 (ar.length:Int) = (ar.length:Int) := wrp_i64 (by omega) (by omega)
  have hle:(ar.length:Int) ≤ (ar.length:Int) + 1 := by omega
  have hle0:0 ≤ (ar.length:Int) := by omega
  obtain ⟨fr',e,F'⟩:∃ fr',exec (call fns m) m q39_7 fr k = some (.norm,fr',k.set w (.row [wrow p t (.ref id 0 ar.length 11 none) vs vt] 6 .rw)) ∧ F39 w lv n i fr' := by
    simp [q39_7,oint,slcv,nilv,t0,kw,es,hw1,hle,hle0]
    exact ⟨by simp [t0],by simp [t13],by simp [t14],by simp [t15]⟩
  exact ⟨fr',_,_,e,F',w',s'⟩
theorem endD39 (m w:Nat) (lv:V) (n i:Nat) (hi:i < 2 ^ 31) (fr:Fr) (k:H) (F:F39 w lv n i fr):∃ fr',exec (call fns m) m q39_D fr k = some (.norm,fr',k) ∧ F39 w lv n (i + 1) fr' := by
  obtain ⟨t0,t13,t14,t15⟩ := F
  have hw:wrp .i64 ((i:Int) + 1) = (i:Int) + 1 := wrp_i64 (by omega) (by omega)
  simp [q39_D,t0,t15,hw]
  exact ⟨by simp [t0],by simp [t13],by simp [t14],by simp⟩
theorem ldSl (f:Bool) (l:List V) (h:H):ldv h 1 false (.vptr (V.sl f l).cells) = some (.sl f l) := by simp [ldv,V.cells,cut,mk]
/-- What a run of 'list' answers. -/
def Says39 (p:Prog) (t:Int) (w n f:Nat) (fl:Bool) (l ar:List Stmt) (sp st:List (List Nat)) (va vs vt:V) (h:H):Prop :=
  ∃ va' vs' vt' ar' sp' st' h',call fns n f [.ptr w 0 0,.sl fl (l.map Stmt.v)] h = some (.tup [.int .i64 (walkL p t l ar sp st).1,.int .i64 (walkL p t l ar sp st).2.1],h') ∧ WS p t w va' vs' vt' ar' sp' st' h' ∧
    ((walkL p t l ar sp st).1 = 0 → ar' = ar ∧ sp' = (walkL p t l ar sp st).2.2.1 ∧ st' = (walkL p t l ar sp st).2.2.2) ∧ Step (wS w va vs vt) (wS w va' vs' vt') h h'
structure R39 (p:Prog) (t:Int) (w:Nat) (f:Bool) (l ar:List Stmt) (sp st:List (List Nat)) (S0:List Nat) (h0:H) (i:Nat) (fr:Fr) (k:H):Prop where
  F:F39 w (.sl f (l.map Stmt.v)) l.length i fr
  ex:∃ va vs vt sp' st',WS p t w va vs vt ar sp' st' k ∧ walkL p t l ar sp st = walkL p t (l.drop i) ar sp' st' ∧ sp'.length + Stmt.cntL (l.drop i) ≤ sp.length + Stmt.cntL l ∧ st'.length + Stmt.cntL (l.drop i) ≤ st.length + Stmt.cntL l ∧ Step S0 (wS w va vs vt) h0 k
def Q39 (p:Prog) (t:Int) (w:Nat) (l ar:List Stmt) (sp st:List (List Nat)) (S0:List Nat) (h0:H) (y:X) (fr:Fr) (k:H):Prop :=
  (y = .ret ∧ (walkL p t l ar sp st).1 ≠ 0 ∧ Fr.get fr 4 = some (.int .i64 (walkL p t l ar sp st).1) ∧ Fr.get fr 5 = some (.int .i64 (walkL p t l ar sp st).2.1) ∧ ∃ va vs vt ar' sp' st',WS p t w va vs vt ar' sp' st' k ∧ Step S0 (wS w va vs vt) h0 k) ∨
  (y = .brk 0 ∧ (walkL p t l ar sp st).1 = 0 ∧ (walkL p t l ar sp st).2.1 = 0 ∧ ∃ va vs vt,WS p t w va vs vt ar (walkL p t l ar sp st).2.2.1 (walkL p t l ar sp st).2.2.2 k ∧ Step S0 (wS w va vs vt) h0 k)
theorem round39 (m:Nat) (hm:4294967412 ≤ m) {p:Prog} (hp:p.Small) {t:Int} {w:Nat} (f:Bool) (l ar:List Stmt) (har:ar.length ≤ 6) (sp st:List (List Nat)) (hsp:sp.length + Stmt.cntL l < 2 ^ 31) (hst:st.length + Stmt.cntL l < 2 ^ 31) (S0:List Nat) (h0:H) (hl:l.length < 2 ^ 31)
    (i:Nat) (x:Stmt) (hx:l[i]? = some x) (hfit:x.Fit)
    (ihb:∀ va vs vt ar sp st h,WS p t w va vs vt ar sp st h → ar.length ≤ 6 → sp.length + Stmt.cntL x.body < 2 ^ 31 → st.length + Stmt.cntL x.body < 2 ^ 31 → Says39 p t w m 39 x.fb x.body ar sp st va vs vt h)
    (ihe:∀ va vs vt ar sp st h,WS p t w va vs vt ar sp st h → ar.length ≤ 6 → sp.length + Stmt.cntL x.els < 2 ^ 31 → st.length + Stmt.cntL x.els < 2 ^ 31 → Says39 p t w m 39 x.fe x.els ar sp st va vs vt h)
    (fr:Fr) (k:H) (hI:R39 p t w f l ar sp st S0 h0 i fr k) :
    (∃ fr' k',exec (call fns m) m b39_1 fr k = some (.norm,fr',k') ∧ R39 p t w f l ar sp st S0 h0 (i + 1) fr' k') ∨ (∃ y fr' k',y ≠ .norm ∧ exec (call fns m) m b39_1 fr k = some (y,fr',k') ∧ Q39 p t w l ar sp st S0 h0 y fr' k') := by
  obtain ⟨F,va,vs,vt,sp',st',hw,hwalk,hl1,hl2,hS⟩ := hI
  have hdr := drop_cons hx
  have hcd := cntL_drop l i x hx
  have hcx := Stmt.cnt_eq x
  rw [hdr,walkL] at hwalk
  have hws := walkS_eq p t x ar sp' st'
  obtain ⟨frA,eA,h1 | h1⟩ := first39 m hm hp hw har (by omega) (by omega) f l hl i x hx hfit fr F
  · obtain ⟨h6,hone,fr1,k1,vs1,vt1,e1,F1,t7,b1,l1,w1,s1,hfr⟩ := h1
    rw [if_pos h6,if_pos hone] at hws
    obtain ⟨fr2,k2,va2,e2,G2,w2,s2⟩ := second39 m w1 har (.sl f (l.map Stmt.v)) l.length i x fr1 F1 (k.nx * 256 + 2) t7 b1 l1 hfr
    have har2:(ar ++ [x]).length ≤ 6 := by simp; omega
    have n1 := nextSp_len x sp'
    have n2 := nextSt_len x st'
    obtain ⟨va3,vs3,vt3,ar3,sp3,st3,k3,c3,w3,q3,s3⟩ := ihb va2 vs1 vt1 (ar ++ [x]) (nextSp x sp') (nextSt x st') k2 w2 har2 (by omega) (by omega)
    have I3 := inner39 (call fns m) m w (.sl f (l.map Stmt.v)) l.length i (.sl x.fb (x.body.map Stmt.v)) (.sl x.fe (x.els.map Stmt.v)) (.sl x.fb (x.body.map Stmt.v)) rfl rfl 0 rfl (ldSl _ _) fr2 k2 k3 G2 _ _ c3
    have eAB := exec_seq_norm eA
    obtain ⟨fA,kA,eA1,eA2⟩ := eAB
    obtain ⟨fB,kB,e51,e52⟩ := exec_seq_norm e2
    -- what a run of the block gives,from the inner loop on
    have outer:∀ y fr' k' ,y.isBrk = false → y ≠ .norm → exec (call fns m) m (.block 2 (.loop b39_0)) fr2 k2 = some (y,fr',k') → exec (call fns m) m b39_1 fr k = some (y,fr',k') := by
      intro y fr' k' hb hn e
      rw [shape_39,exec_then eA1,exec_then eA2]
      refine exec_out hn (exec_blk hb ?_)
      rw [seq4_assoc,exec_then e1,exec_then e51,exec_assoc,exec_then e52]
      exact exec_out hn e
    have outerN:∀ fr' k' fr'' k'',exec (call fns m) m (.block 2 (.loop b39_0)) fr2 k2 = some (.norm,fr',k') → exec (call fns m) m q39_7 fr' k' = some (.norm,fr'',k'') → exec (call fns m) m b39_1 fr k = exec (call fns m) m q39_D fr'' k'' := by
      intro fr' k' fr'' k'' e e7
      rw [shape_39,exec_then eA1,exec_then eA2]
      refine exec_then (exec_blk rfl ?_)
      rw [seq4_assoc,exec_then e1,exec_then e51,exec_assoc,exec_then e52,exec_then e]
      exact e7
    obtain ⟨m',rfl⟩:∃ m',m = m' + 3 := ⟨m - 3,by omega⟩
    by_cases hb0:(walkL p t x.body (ar ++ [x]) (nextSp x sp') (nextSt x st')).1 = 0
    · obtain ⟨rfl,rfl,rfl⟩ := q3 hb0
      rw [if_pos hb0] at hws
      obtain ⟨fr3,e3,G3⟩ := I3.2 hb0
      have wl := walk_len p t _ x.body (Nat.le_refl _) (ar ++ [x]) (nextSp x sp') (nextSt x st')
      obtain ⟨va4,vs4,vt4,ar4,sp4,st4,k4,c4,w4,q4,s4⟩ := ihe va3 vs3 vt3 (ar ++ [x]) _ _ k3 w3 har2 (by omega) (by omega)
      have I4 := inner39 (call fns (m' + 3)) (m' + 3) w (.sl f (l.map Stmt.v)) l.length i (.sl x.fb (x.body.map Stmt.v)) (.sl x.fe (x.els.map Stmt.v)) (.sl x.fe (x.els.map Stmt.v)) rfl rfl 1 rfl (ldSl _ _) fr3 k3 k4 G3 _ _ c4
      have S4 := (((hS.trans s1).trans s2).trans s3).trans s4
      by_cases he0:(walkS p t x ar sp' st').1 = 0
      · rw [if_pos he0] at hwalk
        have he0' := he0
        rw [hws] at he0'
        obtain ⟨rfl,rfl,rfl⟩ := q4 he0'
        obtain ⟨fr4,e4,G4⟩ := I4.2 he0'
        obtain ⟨fr5,e5,F5⟩ := inner39_end (call fns (m' + 3)) (m' + 3) w (.sl f (l.map Stmt.v)) l.length i _ _ fr4 k4 G4
        have eL:loopN (exec (call fns (m' + 3)) (m' + 3) b39_0) (m' + 3) fr2 k2 = some (.brk 2,fr5,k4) := by
          rw [loop_next e3,loop_next e4]; exact loop_out (by simp) e5
        obtain ⟨fr6,k6,va6,e6,F6,w6,s6⟩ := third39 (m' + 3) w4 har (.sl f (l.map Stmt.v)) l.length i fr5 F5
        obtain ⟨hil,_⟩ := List.getElem?_eq_some_iff.1 hx
        obtain ⟨fr7,e7,F7⟩ := endD39 (m' + 3) w (.sl f (l.map Stmt.v)) l.length i (by omega) fr6 k6 F6
        refine .inl ⟨fr7,k6,?_,F7,va6,vs4,vt4,_,_,w6,?_,?_,?_,S4.trans s6⟩
        · rw [outerN _ _ _ _ (exec_brk eL) e6]; exact e7
        · rw [hwalk,hws]
        · have := (walkS_len p t x ar sp' st' he0).1
          rw [hws] at this; omega
        · have := (walkS_len p t x ar sp' st' he0).2
          rw [hws] at this; omega
      · rw [if_neg he0] at hwalk
        have he0' := he0
        rw [hws] at he0'
        obtain ⟨fr4,e4,r1,r2,_⟩ := I4.1 he0'
        have eL:loopN (exec (call fns (m' + 3)) (m' + 3) b39_0) (m' + 3) fr2 k2 = some (.ret,fr4,k4) := by
          rw [loop_next e3]; exact loop_out (by simp) e4
        refine .inr ⟨.ret,fr4,k4,by simp,outer _ _ _ rfl (by simp) (exec_bret eL),.inl ⟨rfl,?_,?_,?_,va4,vs4,vt4,ar4,sp4,st4,w4,S4⟩⟩
        · rw [hwalk]; exact he0
        · rw [hwalk,hws]; exact r1
        · rw [hwalk,hws]; exact r2
    · rw [if_neg hb0] at hws
      have he0:¬ (walkS p t x ar sp' st').1 = 0 := by rw [hws]; exact hb0
      rw [if_neg he0] at hwalk
      obtain ⟨fr3,e3,r1,r2,_⟩ := I3.1 hb0
      have eL:loopN (exec (call fns (m' + 3)) (m' + 3) b39_0) (m' + 3) fr2 k2 = some (.ret,fr3,k3) := loop_out (by simp) e3
      refine .inr ⟨.ret,fr3,k3,by simp,outer _ _ _ rfl (by simp) (exec_bret eL),.inl ⟨rfl,?_,?_,?_,va3,vs3,vt3,ar3,sp3,st3,w3,((hS.trans s1).trans s2).trans s3⟩⟩
      · rw [hwalk]; exact he0
      · rw [hwalk,hws]; exact r1
      · rw [hwalk,hws]; exact r2
  · obtain ⟨hcase,fr1,k1,vs1,vt1,sp1,st1,e1,r1,r2,w1,s1⟩ := h1
    have hws':(walkS p t x ar sp' st').1 = (if ar.length < 6 then oneE p t ar sp' st' x else 2) ∧ (walkS p t x ar sp' st').2.1 = x.line ∧ (walkS p t x ar sp' st').1 ≠ 0 := by
      rw [hws]
      by_cases h6:ar.length < 6
      · have hne:oneE p t ar sp' st' x ≠ 0 := hcase.resolve_left (by omega)
        simp [h6,hne]
      · simp [h6]
    have he0:¬ (walkS p t x ar sp' st').1 = 0 := hws'.2.2
    rw [if_neg he0] at hwalk
    obtain ⟨fA,kA,eA1,eA2⟩ := exec_seq_norm eA
    refine .inr ⟨.ret,fr1,k1,by simp,?_,.inl ⟨rfl,?_,?_,?_,va,vs1,vt1,ar,sp1,st1,w1,hS.trans s1⟩⟩
    · rw [shape_39,exec_then eA1,exec_then eA2]
      refine exec_out (by simp) (exec_blk rfl ?_)
      rw [seq4_assoc]
      exact exec_out (by simp) e1
    · rw [hwalk]; exact he0
    · rw [hwalk,hws'.1]; exact r1
    · rw [hwalk,hws'.2.1]; exact r2

theorem ok_39' (p:Prog) (hp:p.Small) (t:Int) (w:Nat) (d:Nat):∀ (f:Bool) (l:List Stmt) (_:Stmt.cntL l ≤ d) (_:allL Stmt.Fit l) (n:Nat) (_:4294967420 + d ≤ n) (_:Stmt.cntL l < 2 ^ 31) (va vs vt:V) (ar:List Stmt) (sp st:List (List Nat)) (h:H)
    (_:WS p t w va vs vt ar sp st h) (_:ar.length ≤ 6) (_:sp.length + Stmt.cntL l < 2 ^ 31) (_:st.length + Stmt.cntL l < 2 ^ 31),Says39 p t w n 39 f l ar sp st va vs vt h := by
  induction d with
  | zero =>
    intro f l hd hfit n hn hcl va vs vt ar sp st h hw har hsp hst
    have:l = [] := by have := len_cntL l; cases l <;> simp_all
    subst this
    obtain ⟨m,rfl⟩:∃ m,n = m + 1 := ⟨n - 1,by omega⟩
    obtain ⟨m,rfl⟩:∃ k,m = k + 1 := ⟨m - 1,by omega⟩
    refine ⟨va,vs,vt,ar,sp,st,h,?_,hw,fun _ => ⟨rfl,rfl,rfl⟩,Step.refl _ _⟩
    rw [call_succ]
    show call1 (call fns (m + 1)) (m + 1) f39 _ _ = _
    simp [f39,Fr.keep_cons',Fr.keep_nil,b39_1,loopN,walkL]
  | succ d ih =>
    intro f l hd hfit n hn hcl va vs vt ar sp st h hw har hsp hst
    obtain ⟨m,rfl⟩:∃ m,n = m + 1 := ⟨n - 1,by omega⟩
    have hlen := len_cntL l
    have L := loopN_ind (b := exec (call fns m) m b39_1) (n := l.length) (I := R39 p t w f l ar sp st (wS w va vs vt) h) (Q := Q39 p t w l ar sp st (wS w va vs vt) h)
      (fun i fr k hi hI => by
        obtain ⟨x,hx⟩:∃ x,l[i]? = some x := ⟨_,List.getElem?_eq_getElem hi⟩
        have hxf := (allS_eq _ x).1 (allL_at hfit hx)
        have hcm := cnt_mem l i x hx
        have hce := Stmt.cnt_eq x
        exact round39 m (by omega) hp f l ar har sp st hsp hst _ h (by omega) i x hx hxf.1
          (fun va vs vt ar sp st h hw har hsp hst => ih x.fb x.body (by omega) hxf.2.1 m (by omega) (by omega) va vs vt ar sp st h hw har hsp hst)
          (fun va vs vt ar sp st h hw har hsp hst => ih x.fe x.els (by omega) hxf.2.2 m (by omega) (by omega) va vs vt ar sp st h hw har hsp hst) fr k hI)
      (fun fr k hI => by
        obtain ⟨⟨t0,t13,t14,t15⟩,va',vs',vt',sp',st',w',hwalk,_,_,s'⟩ := hI
        rw [List.drop_length,walkL] at hwalk
        obtain ⟨fr',e⟩:∃ fr',exec (call fns m) m b39_1 fr k = some (.brk 0,fr',k) := by
          simp [b39_1,t0,t13,t14,t15]
        exact ⟨.brk 0,fr',k,by simp,e,.inr ⟨rfl,by rw [hwalk],by rw [hwalk],va',vs',vt',by rw [hwalk]; exact w',s'⟩⟩)
      l.length 0 (by omega) (by omega) m (by omega)
    obtain ⟨fr3,e3,i3⟩:∃ fr3,exec (call fns m) m (.seq s39_0 p39_1) (enter 0 [.ptr w 0 0,.sl f (l.map Stmt.v)]) h = some (.norm,fr3,h) ∧ F39 w (.sl f (l.map Stmt.v)) l.length 0 fr3 := by
      simp [s39_0,p39_1,Fr.keep_cons',Fr.keep_nil]
      exact ⟨by simp,by simp,by simp,by simp⟩
    obtain ⟨y,fr4,h4,e4,q⟩ := L fr3 h ⟨i3,va,vs,vt,sp,st,hw,by simp,by simp,by simp,Step.refl _ _⟩
    rcases q with ⟨rfl,q1,q2,q3,va',vs',vt',ar',sp',st',w',s'⟩ | ⟨rfl,q1,q2,va',vs',vt',w',s'⟩
    · refine ⟨va',vs',vt',ar',sp',st',h4,?_,w',fun h0 => absurd h0 q1,s'⟩
      rw [call_succ]
      show call1 (call fns m) m f39 _ _ = _
      obtain ⟨f1,k1,e31,e32⟩ := exec_seq_norm e3
      have q:exec (call fns m) m f39.body (enter 0 [.ptr w 0 0,.sl f (l.map Stmt.v)]) h = some (.ret,fr4,h4) := by
        rw [body_39,seg_39_1,exec_then e31,exec_assoc,exec_then e32]
        exact exec_out (by simp) (exec_bret e4)
      unfold call1
      rw [q]
      simp [res_39,fz_39,q2,q3]
    · refine ⟨va',vs',vt',ar,_,_,h4,?_,w',fun _ => ⟨rfl,rfl,rfl⟩,s'⟩
      rw [call_succ]
      show call1 (call fns m) m f39 _ _ = _
      have q:exec (call fns m) m f39.body (enter 0 [.ptr w 0 0,.sl f (l.map Stmt.v)]) h = exec (call fns m) m (.seq s39_2 s39_3) fr4 h4 := by
        rw [body_39,seg_39_1]
        exact glue2 e3 (exec_brk e4)
      unfold call1
      rw [q]
      simp [s39_2,s39_3,iadv,ldv,cut,mk,V.cells,q1,q2,res_39,fz_39]

/-! ### The threads,one after the other -/
def cntT:List Thread → Nat
  | [] => 0
  | th :: l => Stmt.cntL th.body + cntT l
def runT (p:Prog):List Thread → Nat → List (List Nat) → List (List Nat) → Int × Int
  | [],_,_,_ => (0,0)
  | th :: l,i,sp,st => if (walkL p i th.body [] sp st).1 = 0 then runT p l (i + 1) (walkL p i th.body [] sp st).2.2.1 (walkL p i th.body [] sp st).2.2.2 else ((walkL p i th.body [] sp st).1,(walkL p i th.body [] sp st).2.1)
theorem WS.thread {p:Prog} {t:Int} {w:Nat} {va vs vt:V} {ar:List Stmt} {sp st:List (List Nat)} {h:H} (hw:WS p t w va vs vt ar sp st h) (t':Int) :
    stv h 1 (.ptr w 0 2) (.int .i64 t') = some (h.set w (.row [wrow p t' va vs vt] 6 .rw)) ∧ WS p t' w va vs vt ar sp st (h.set w (.row [wrow p t' va vs vt] 6 .rw)) ∧ Step (wS w va vs vt) (wS w va vs vt) h (h.set w (.row [wrow p t' va vs vt] 6 .rw)) := by
  have hd := hw.nd
  simp only [wS,List.nodup_cons,List.mem_append,not_or] at hd
  have hf := hd.1
  refine ⟨stW2 hw.r t',⟨by simp [H.get_set],hw.lt,?_,?_,?_,hw.nd⟩,⟨Nat.le_refl _,fun i h1 h2 => ?_,fun i h1 => .inl h1⟩⟩
  · exact hw.a.keep (fun i hi => by rw [H.get_set,if_neg (by rintro rfl; exact hf.1 hi)]) (Nat.le_refl _)
  · exact hw.s.keep (fun i hi => by rw [H.get_set,if_neg (by rintro rfl; exact hf.2.1 hi)]) (Nat.le_refl _)
  · exact hw.t.keep (fun i hi => by rw [H.get_set,if_neg (by rintro rfl; exact hf.2.2 hi)]) (Nat.le_refl _)
  · simp only [wS,List.mem_cons,not_or] at h2
    rw [H.get_set,if_neg h2.1]
theorem ldT (x:Thread) (h:H):ldv h 4 true (.vptr x.v.cells) = some x.v := ld_55 x h
theorem stvT {h:H} {id:Nat} {x:Thread} (hg:h.get id = some (.row [.agg [.str [],.int .i64 0,.sl true [],.sl true []]] 4 .rw)):stv h 4 (.ptr id 0 0) x.v = some (h.set id (.row [x.v] 4 .rw)) := by
  simp [stv,hg,Thread.v,V.cells,one,splice]
theorem ldT0 {h:H} {id:Nat} {x:Thread} {kd:Kind} (hg:h.get id = some (.row [x.v] 4 kd)):ldv h 1 false (.ptr id 0 0) = some (.str x.name) := by simp [ldv,hg,Thread.v,V.cells,cut,mk]
theorem ldT1 {h:H} {id:Nat} {x:Thread} {kd:Kind} (hg:h.get id = some (.row [x.v] 4 kd)):ldv h 1 false (.ptr id 0 1) = some (.int .i64 x.line) := by simp [ldv,hg,Thread.v,V.cells,cut,mk]
theorem ldT2 {h:H} {id:Nat} {x:Thread} {kd:Kind} (hg:h.get id = some (.row [x.v] 4 kd)):ldv h 1 false (.ptr id 0 2) = some (.sl x.fl (x.locals.map .str)) := by simp [ldv,hg,Thread.v,V.cells,cut,mk]
theorem ldT3 {h:H} {id:Nat} {x:Thread} {kd:Kind} (hg:h.get id = some (.row [x.v] 4 kd)):ldv h 1 false (.ptr id 0 3) = some (.sl x.fb (x.body.map Stmt.v)) := by simp [ldv,hg,Thread.v,V.cells,cut,mk]
theorem cntT_drop (l:List Thread) (i:Nat) (x:Thread) (h:l[i]? = some x):l.drop i = x :: l.drop (i + 1) ∧ cntT (l.drop i) = Stmt.cntL x.body + cntT (l.drop (i + 1)) := by
  obtain ⟨hi,rfl⟩ := List.getElem?_eq_some_iff.1 h
  rw [List.drop_eq_getElem_cons hi,cntT]; exact ⟨rfl,rfl⟩
theorem Step.toGrow {S S':List Nat} {h k k':H} (g:Grow h k) (hs:∀ id,id ∈ S → h.nx * 256 ≤ id) (s:Step S S' k k'):Grow h k' ∧ ∀ id,id ∈ S' → h.nx * 256 ≤ id := by
  have g1 := g.1
  have g2 := s.nx
  refine ⟨⟨by omega,fun id hid => ?_⟩,fun id hid => ?_⟩
  · rw [s.keep id (by omega) (fun hh => by have := hs id hh; omega)]; exact g.2 id hid
  · rcases s.ids id hid with h1 | h1
    · exact hs id h1
    · omega
structure R19 (p:Prog) (w:Nat) (h:H) (i:Nat) (fr:Fr) (k:H):Prop where
  t4:Fr.get fr 4 = some (.ptr w 0 0)
  t13:Fr.get fr 13 = some (.sl p.ft (p.threads.map Thread.v))
  t14:Fr.get fr 14 = some (.int .i64 p.threads.length)
  t15:Fr.get fr 15 = some (.int .i64 i)
  ex:∃ t va vs vt sp st,WS p t w va vs vt [] sp st k ∧ runT p p.threads 0 [] [] = runT p (p.threads.drop i) i sp st ∧ sp.length + cntT (p.threads.drop i) ≤ cntT p.threads ∧ st.length + cntT (p.threads.drop i) ≤ cntT p.threads ∧ Grow h k ∧ (∀ id,id ∈ wS w va vs vt → h.nx * 256 ≤ id)
def Q19 (p:Prog) (h:H) (y:X) (fr:Fr) (k:H):Prop :=
  (y = .ret ∧ Fr.get fr 2 = some (.int .i64 (runT p p.threads 0 [] []).1) ∧ Fr.get fr 3 = some (.int .i64 (runT p p.threads 0 [] []).2) ∧ Grow h k) ∨ (y = .brk 0 ∧ runT p p.threads 0 [] [] = (0,0) ∧ Grow h k)
theorem round19 (m:Nat) (p:Prog) (hp:p.Small) (hm:4294967480 + cntT p.threads ≤ m) (hc:cntT p.threads < 2 ^ 31) (hfit:∀ x,x ∈ p.threads → allL Stmt.Fit x.body) (w:Nat) (h:H) (i:Nat) (hi:i < p.threads.length) (fr:Fr) (k:H) (hI:R19 p w h i fr k) :
    (∃ fr' k',exec (call fns m) m b19_0 fr k = some (.norm,fr',k') ∧ R19 p w h (i + 1) fr' k') ∨ (∃ y fr' k',y ≠ .norm ∧ exec (call fns m) m b19_0 fr k = some (y,fr',k') ∧ Q19 p h y fr' k') := by
  obtain ⟨t4,t13,t14,t15,t,va,vs,vt,sp,st,hw,hrun,hl1,hl2,hg,hids⟩ := hI
  obtain ⟨x,hx⟩:∃ x,p.threads[i]? = some x := ⟨_,List.getElem?_eq_getElem hi⟩
  obtain ⟨hdr,hcd⟩ := cntT_drop p.threads i x hx
  rw [hdr,runT] at hrun
  have hi':(i:Int) < (p.threads.length:Int) := by omega
  have hpt := hp.t
  have hwi:wrp .i64 ((i:Int) + 1) = (i:Int) + 1 := wrp_i64 (by omega) (by omega)
  let k0:H := (({ k with nx := k.nx + 1 }:H).set (k.nx * 256 + 3) (.row [.agg [.str [],.int .i64 0,.sl true [],.sl true []]] 4 .rw))
  let k1:H := k0.set (k.nx * 256 + 3) (.row [x.v] 4 .rw)
  have g1:Grow k k1 := (((Grow.refl k).up (k.nx + 1) (by omega)).set (by omega) _).set (by omega) _
  have es:stv k0 4 (.ptr (k.nx * 256 + 3) 0 0) x.v = some k1 := stvT (by simp [k0,H.get_set])
  have w1 := hw.grow g1
  obtain ⟨es2,w2,s2⟩ := w1.thread (i:Int)
  have hne:k.nx * 256 + 3 ≠ w := by have := hw.lt; omega
  have b2:(k1.set w (.row [wrow p i va vs vt] 6 .rw)).get (k.nx * 256 + 3) = some (.row [x.v] 4 .rw) := by
    rw [H.get_set,if_neg hne]; simp [k1,H.get_set]
  have k3 := ldT3 b2
  have ed := ld_55 x
  have el := len_55 x
  obtain ⟨va',vs',vt',ar',sp',st',h',e39,w3,q3,s3⟩ := ok_39' p hp (i:Int) w (Stmt.cntL x.body) x.fb x.body (Nat.le_refl _) (hfit x (List.mem_of_getElem? hx)) m (by omega) (by omega) va vs vt [] sp st _ w2 (by simp) (by omega) (by omega)
  obtain ⟨g',ids'⟩ := (((Step.grow _ g1).trans s2).trans s3).toGrow hg hids
  simp only [k0] at es
  by_cases h0:(walkL p i x.body [] sp st).1 = 0
  · rw [if_pos h0] at hrun
    obtain ⟨rfl,rfl,rfl⟩ := q3 h0
    rw [h0] at e39
    have wl := walk_len p i _ x.body (Nat.le_refl _) [] sp st
    refine .inl ?_
    obtain ⟨fr',e,f4,f13,f14,f15⟩:∃ fr',exec (call fns m) m b19_0 fr k = some (.norm,fr',h') ∧ Fr.get fr' 4 = some (.ptr w 0 0) ∧ Fr.get fr' 13 = some (.sl p.ft (p.threads.map Thread.v)) ∧ Fr.get fr' 14 = some (.int .i64 p.threads.length) ∧ Fr.get fr' 15 = some (.int .i64 ((i + 1:Nat):Int)) := by
      simp [b19_0,iadv,stepE,cells_agg,nilv,t4,t13,t14,t15,hi',hx,es,ed,el,es2,k3,e39,hwi]
    exact ⟨fr',h',e,f4,f13,f14,f15,_,va',vs',vt',_,_,w3,hrun,by omega,by omega,g',ids'⟩
  · rw [if_neg h0] at hrun
    refine .inr ⟨.ret,?_⟩
    obtain ⟨fr',e,f2,f3⟩:∃ fr',exec (call fns m) m b19_0 fr k = some (.ret,fr',h') ∧ Fr.get fr' 2 = some (.int .i64 (walkL p i x.body [] sp st).1) ∧ Fr.get fr' 3 = some (.int .i64 (walkL p i x.body [] sp st).2.1) := by
      simp [b19_0,iadv,stepE,cells_agg,nilv,t4,t13,t14,t15,hi',hx,es,ed,el,es2,k3,e39,hwi,h0]
    exact ⟨fr',h',by simp,e,.inl ⟨rfl,by rw [hrun]; exact f2,by rw [hrun]; exact f3,g'⟩⟩
theorem ok_19 (n:Nat) (p:Prog) (hp:p.Small) (hn:4294967500 + cntT p.threads ≤ n) (hc:cntT p.threads < 2 ^ 31) (hfit:∀ x,x ∈ p.threads → allL Stmt.Fit x.body) (h:H) :
    ∃ h',call fns n 19 [p.v] h = some (.tup [.int .i64 (runT p p.threads 0 [] []).1,.int .i64 (runT p p.threads 0 [] []).2],h') ∧ Grow h h' := by
  obtain ⟨m,rfl⟩:∃ m,n = m + 1 := ⟨n - 1,by omega⟩
  have hpt := hp.t
  let h1:H := ({ h with nx := h.nx + 1 }:H).set (h.nx * 256) (.row [p.v] 2 .rw)
  let h2:H := ({ nx := h.nx + 1 + 1,t := h1.t }:H).set ((h.nx + 1) * 256 + 2) (.row [wrow p 0 (.sl true []) (.sl true []) (.sl true [])] 6 .rw)
  have g1:Grow h h1 := ((Grow.refl h).up (h.nx + 1) (by omega)).set (Nat.le_refl _) _
  have g2:Grow h1 h2 := ((Grow.refl h1).up (h.nx + 1 + 1) (by show h.nx + 1 ≤ _; omega)).set (by show (h.nx + 1) * 256 ≤ _; omega) _
  have w2:WS p 0 ((h.nx + 1) * 256 + 2) (.sl true []) (.sl true []) (.sl true []) [] [] [] h2 :=
    ⟨by simp [h2,H.get_set],by show (h.nx + 1) * 256 + 2 < (h.nx + 1 + 1) * 256; omega,Own.nil _ _,Own.nil _ _,Own.nil _ _,by simp [wS,ids]⟩
  obtain ⟨fr3,e3,t4,t13,t14,t15⟩:∃ fr3,exec (call fns m) m (.seq s19_0 (.seq s19_1 p19_2)) (enter 0 [p.v]) h = some (.norm,fr3,h2) ∧ Fr.get fr3 4 = some (.ptr ((h.nx + 1) * 256 + 2) 0 0) ∧ Fr.get fr3 13 = some (.sl p.ft (p.threads.map Thread.v)) ∧ Fr.get fr3 14 = some (.int .i64 p.threads.length) ∧ Fr.get fr3 15 = some (.int .i64 ((0:Nat):Int)) := by
    have kp:ldv ({ nx := h.nx + 1 + 1,t := h1.t }:H) 2 true (.ptr (h.nx * 256) 0 0) = some (.agg [.sl p.fd (p.decls.map Decl.v),.sl p.ft (p.threads.map Thread.v)]) := by
      have:({ nx := h.nx + 1 + 1,t := h1.t }:H).get (h.nx * 256) = some (.row [p.v] 2 .rw) := by
        show h1.get _ = _
        simp [h1,H.get_set]
      simp [ldv,this,Prog.v,V.cells,cut,mk]
    have kt:ldv h2 1 false (.ptr (h.nx * 256) 0 1) = some (.sl p.ft (p.threads.map Thread.v)) := by
      have:h2.get (h.nx * 256) = some (.row [p.v] 2 .rw) := by
        rw [g2.2 _ (by show h.nx * 256 < (h.nx + 1) * 256; omega)]
        simp [h1,H.get_set]
      simp [ldv,this,Prog.v,V.cells,cut,mk]
    simp only [h2,h1,wrow,Prog.v] at kp kt ⊢
    simp [s19_0,s19_1,p19_2,Fr.keep_cons',Fr.keep_nil,stepE,cells_agg,Prog.v,fill,trips,kp,kt]
  have L := loopN_ind (b := exec (call fns m) m b19_0) (n := p.threads.length) (I := R19 p ((h.nx + 1) * 256 + 2) h) (Q := Q19 p h)
    (fun i fr k hi hI => round19 m p hp (by omega) hc hfit _ h i hi fr k hI)
    (fun fr k hI => by
      obtain ⟨t4,t13,t14,t15,t,va,vs,vt,sp,st,hw,hrun,_,_,hg,_⟩ := hI
      rw [List.drop_length,runT] at hrun
      obtain ⟨fr',e⟩:∃ fr',exec (call fns m) m b19_0 fr k = some (.brk 0,fr',k) := by
        simp [b19_0,t4,t13,t14,t15]
      exact ⟨.brk 0,fr',k,by simp,e,.inr ⟨rfl,hrun,hg⟩⟩)
    p.threads.length 0 (by omega) (by omega) m (by omega)
  obtain ⟨y,fr4,h4,e4,q⟩ := L fr3 h2 ⟨t4,t13,t14,t15,0,_,_,_,[],[],w2,by simp,by simp,by simp,g1.trans g2,fun id hid => by
    simp [wS,ids] at hid
    have := g1.1
    omega⟩
  rcases q with ⟨rfl,q1,q2,g⟩ | ⟨rfl,q1,g⟩
  · refine ⟨h4,?_,g⟩
    rw [call_succ]
    show call1 (call fns m) m f19 _ _ = _
    obtain ⟨f1,k1,e31,e32⟩ := exec_seq_norm e3
    obtain ⟨f2,k2,e33,e34⟩ := exec_seq_norm e32
    have q:exec (call fns m) m f19.body (enter 0 [p.v]) h = some (.ret,fr4,h4) := by
      rw [body_19,seg_19_2,exec_then e31,exec_then e33,exec_assoc,exec_then e34]
      exact exec_out (by simp) (exec_bret e4)
    unfold call1
    rw [q]
    simp [res_19,fz_19,q1,q2]
  · refine ⟨h4,?_,g⟩
    rw [call_succ]
    show call1 (call fns m) m f19 _ _ = _
    have q:exec (call fns m) m f19.body (enter 0 [p.v]) h = exec (call fns m) m (.seq s19_3 s19_4) fr4 h4 := by
      rw [body_19,seg_19_2]
      exact glue3 e3 (exec_brk e4)
    unfold call1
    rw [q]
    simp [s19_3,s19_4,iadv,ldv,cut,mk,V.cells,q1,res_19,fz_19]

def q64_h:IC := (.seq (rF 2 [mq 0 11 9,mq 1 12 0,nq 2 13 12,fq 3 14 13 3,lq 4 15 1 false 14,zq 5 16 false 15,bq 6 17 .lss (.t 11) (.t 16)] ma45) (.cond (.t 17) .skip (.exit 0)))
def q64_l:IC := (rT 4 [mq 0 20 0,nq 1 21 20,fq 2 22 21 3,lq 3 23 1 false 22,mq 4 24 9,oq 5 25 (.iad 11 (.t 23) (.t 24)),lq 6 26 11 true 25,oq 7 10 (.alloc (.agg [.int .i64 0,.int .i64 0,.str [],.str [],.sl true [],.int .i64 0,.int .i64 0,.str [],.sl true [],.sl true [],.sl true []])),sq 8 11 10 (.t 26)] ma45)
def q64_q:IC := (rF 5 [fq 0 27 10 0,lq 1 28 1 false 27,mq 2 29 1,bq 3 30 .eql (.t 28) (.t 29),mq 4 31 30,⟨5,some 32,.fad (.t 10) 0,(some (31,false))⟩,⟨6,some 33,.ld 1 false (.t 32),(some (31,false))⟩,⟨7,some 34,.mv (.t 2),(some (31,false))⟩,⟨8,some 35,.bin .eql (.t 33) (.t 34),(some (31,false))⟩,oq 9 36 (.pick (.t 31) (.c (.bool true)) (.t 35)),mq 10 37 36,⟨11,some 38,.mv (.t 3),(some (37,true))⟩,⟨12,some 39,.bin .eql (.t 38) (.c (.str [])),(some (37,true))⟩,⟨13,some 40,.mv (.t 39),(some (37,true))⟩,⟨14,some 41,.fad (.t 10) 2,(some (40,false))⟩,⟨15,some 42,.ld 1 false (.t 41),(some (40,false))⟩,⟨16,some 43,.mv (.t 3),(some (40,false))⟩,⟨17,some 44,.bin .eql (.t 42) (.t 43),(some (40,false))⟩,⟨18,some 45,.pick (.t 40) (.c (.bool true)) (.t 44),(some (37,true))⟩,oq 19 46 (.pick (.t 37) (.t 45) (.c (.bool false)))] ma45)
def q64_c:IC := (.cond (.t 46) (.seq (rF 6 [oq 0 8 (.mv (.c (.bool true)))] ma45) .ret) .skip)
def q64_d:IC := (rF 3 [mq 0 18 9,bq 1 19 .add (.t 18) (ic 1),mq 2 9 19] ma45)
theorem shape_64:b64_0 = .seq q64_h (.seq (.block 1 (.seq q64_l (.seq q64_q q64_c))) q64_d) := rfl
def hit64 (a b:Int) (nm:List Nat) (x:Stmt):Bool := (decide (x.op = a) || decide (x.op = b)) && (nm == [] || x.name == nm)
def insideR (ar:List Stmt) (a b:Int) (nm:List Nat):Bool := ar.any (hit64 a b nm)
structure J64 (w:Nat) (a b:Int) (nm:List Nat) (h0:H) (i:Nat) (fr:Fr) (k:H):Prop where
  gr:Grow h0 k
  t0:Fr.get fr 0 = some (.ptr w 0 0)
  t1:Fr.get fr 1 = some (.int .i64 a)
  t2:Fr.get fr 2 = some (.int .i64 b)
  t3:Fr.get fr 3 = some (.str nm)
  t9:Fr.get fr 9 = some (.int .i64 i)
theorem step64 (m:Nat) {p:Prog} {t:Int} {w:Nat} {va vs vt:V} {ar:List Stmt} {h:H} (hw0:WR p t w va vs vt ar h) (a b:Int) (nm:List Nat) (i:Nat) (x:Stmt) (hx:ar[i]? = some x) (fr:Fr) (k:H) (hI:J64 w a b nm h i fr k) :
    (hit64 a b nm x = true → ∃ fr' k',exec (call fns m) m b64_0 fr k = some (.ret,fr',k') ∧ Grow h k' ∧ Fr.get fr' 8 = some (.bool true)) ∧
    (hit64 a b nm x = false → ∃ fr' k',exec (call fns m) m b64_0 fr k = some (.norm,fr',k') ∧ J64 w a b nm h (i + 1) fr' k') := by
  obtain ⟨gr,t0,t1,t2,t3,t9⟩ := hI
  have w1 := hw0.grow gr
  have hlen := hw0.len
  obtain ⟨hi,_⟩ := List.getElem?_eq_some_iff.1 hx
  have hi':(i:Int) < (ar.length:Int) := by omega
  have hw:wrp .i64 ((i:Int) + 1) = (i:Int) + 1 := wrp_i64 (by omega) (by omega)
  let q1:H := { k with nx := k.nx + 1 }
  have gq:Grow k q1 := (Grow.refl k).up (k.nx + 1) (by omega)
  let q0:H := q1.set (k.nx * 256 + 7) (.row [zeroS] 11 .rw)
  let q2:H := q0.set (k.nx * 256 + 7) (.row [x.v] 11 .rw)
  have g2:Grow k q2 := (gq.set (by omega) _).set (by omega) _
  have kw := ldW3 w1.r
  have kw1:ldv q1 1 false (.ptr w 0 3) = some va := ldW3 (w1.grow gq).r
  obtain ⟨ad,e2,q⟩ := w1.sv.at' i x.v (by simp [hx])
  have e1 := q q1 gq
  have es:stv q0 11 (.ptr (k.nx * 256 + 7) 0 0) x.v = some q2 := stvS0 (by simp [q0,H.get_set])
  have hq2:q2.get (k.nx * 256 + 7) = some (.row [x.v] 11 .rw) := by simp [q2,H.get_set]
  have k0 := ldS0 hq2
  have k2 := ldS2 hq2
  have G := gr.trans g2
  simp only [q0,q1,zeroS] at es e1 kw1
  have hsl := w1.sv.len
  simp only [List.length_map] at hsl
  -- the head of the round,then its question
  have head:∃ fr1,exec (call fns m) m q64_h fr k = some (.norm,fr1,k) ∧ Fr.get fr1 0 = some (.ptr w 0 0) ∧ Fr.get fr1 1 = some (.int .i64 a) ∧ Fr.get fr1 2 = some (.int .i64 b) ∧ Fr.get fr1 3 = some (.str nm) ∧ Fr.get fr1 9 = some (.int .i64 i) := by
    rcases lenV_cases hsl with ⟨f,l,rfl,hl⟩ | ⟨id,lo,e,cap,rfl⟩
    · simp [q64_h,nilv,t0,t1,t2,t3,t9,hi',hl,kw]
    · simp [q64_h,nilv,t0,t1,t2,t3,t9,hi',kw]
  obtain ⟨fr1,eh,t0,t1,t2,t3,t9⟩ := head
  have load:∃ fr2,exec (call fns m) m q64_l fr1 k = some (.norm,fr2,q2) ∧ Fr.get fr2 0 = some (.ptr w 0 0) ∧ Fr.get fr2 1 = some (.int .i64 a) ∧ Fr.get fr2 2 = some (.int .i64 b) ∧ Fr.get fr2 3 = some (.str nm) ∧ Fr.get fr2 9 = some (.int .i64 i) ∧ Fr.get fr2 10 = some (.ptr (k.nx * 256 + 7) 0 0) := by
    simp [q64_l,nilv,stepE,cells_agg,t0,t1,t2,t3,t9,kw1,e1,e2,es]
  obtain ⟨fr2,el,t0,t1,t2,t3,t9,t10⟩ := load
  have ask:∃ fr3,exec (call fns m) m q64_q fr2 q2 = some (.norm,fr3,q2) ∧ Fr.get fr3 0 = some (.ptr w 0 0) ∧ Fr.get fr3 1 = some (.int .i64 a) ∧ Fr.get fr3 2 = some (.int .i64 b) ∧ Fr.get fr3 3 = some (.str nm) ∧ Fr.get fr3 9 = some (.int .i64 i) ∧ Fr.get fr3 46 = some (.bool (hit64 a b nm x)) := by
    unfold hit64
    by_cases c1:x.op = a
    · cases c3:(nm == ([]:List Nat)) with
      | true =>
        have c5:nm = [] := by simpa using c3
        subst c5
        simp [q64_q,t0,t1,t2,t3,t9,t10,k0,k2,c1]
      | false =>
        have c5:¬ nm = [] := by simpa using c3
        cases c4:(x.name == nm) with
        | true =>
          have c6:x.name = nm := by simpa using c4
          simp [q64_q,t0,t1,t2,t3,t9,t10,k0,k2,c1,c3,c4,c5,c6]
        | false =>
          simp [q64_q,t0,t1,t2,t3,t9,t10,k0,k2,c1,c3,c4,c5]
    · by_cases c2:x.op = b
      · subst c2
        cases c3:(nm == ([]:List Nat)) with
        | true =>
          have c5:nm = [] := by simpa using c3
          subst c5
          simp [q64_q,t0,t1,t2,t3,t9,t10,k0,k2,c1]
        | false =>
          have c5:¬ nm = [] := by simpa using c3
          cases c4:(x.name == nm) with
          | true =>
            have c6:x.name = nm := by simpa using c4
            simp [q64_q,t0,t1,t2,t3,t9,t10,k0,k2,c1,c3,c4,c5,c6]
          | false =>
            simp [q64_q,t0,t1,t2,t3,t9,t10,k0,k2,c1,c3,c4,c5]
      · simp [q64_q,t0,t1,t2,t3,t9,t10,k0,k2,c1,c2]
  obtain ⟨fr3,eq,t0,t1,t2,t3,t9,t46⟩ := ask
  refine ⟨fun hh => ?_,fun hh => ?_⟩
  · rw [hh] at t46
    obtain ⟨fr4,e4,f8⟩:∃ fr4,exec (call fns m) m q64_c fr3 q2 = some (.ret,fr4,q2) ∧ Fr.get fr4 8 = some (.bool true) := by
      simp [q64_c,t46]
      try exact (by simp)
    refine ⟨fr4,q2,?_,G,f8⟩
    rw [shape_64,exec_then eh]
    refine exec_out (by simp) (exec_blk rfl ?_)
    rw [exec_then el,exec_then eq]
    exact e4
  · rw [hh] at t46
    obtain ⟨fr4,e4,t0,t1,t2,t3,t9⟩:∃ fr4,exec (call fns m) m (.seq q64_c q64_d) fr3 q2 = some (.norm,fr4,q2) ∧ Fr.get fr4 0 = some (.ptr w 0 0) ∧ Fr.get fr4 1 = some (.int .i64 a) ∧ Fr.get fr4 2 = some (.int .i64 b) ∧ Fr.get fr4 3 = some (.str nm) ∧ Fr.get fr4 9 = some (.int .i64 ((i + 1:Nat):Int)) := by
      simp [q64_c,q64_d,t0,t1,t2,t3,t9,t46,hw]
    obtain ⟨fB,kB,e41,e42⟩ := exec_seq_norm e4
    refine ⟨fr4,q2,?_,G,t0,t1,t2,t3,t9⟩
    rw [shape_64,exec_then eh,exec_then (exec_blk (x := .norm) rfl (by rw [exec_then el,exec_then eq]; exact e41))]
    exact e42
theorem ok_64 (n:Nat) (hn:2147483700 ≤ n) {p:Prog} {t:Int} {w:Nat} {va vs vt:V} {ar:List Stmt} {h:H} (hw:WR p t w va vs vt ar h) (a b:Int) (nm:List Nat) :
    ∃ h',call fns n 64 [.ptr w 0 0,.int .i64 a,.int .i64 b,.str nm] h = some (.bool (insideR ar a b nm),h') ∧ Grow h h' := by
  obtain ⟨m,rfl⟩:∃ m,n = m + 1 := ⟨n - 1,by omega⟩
  have hlen := hw.len
  have hsl := hw.sv.len
  simp only [List.length_map] at hsl
  have L := loopN_find (b := exec (call fns m) m b64_0) (n := ar.length) (inv := J64 w a b nm h) (P := hitAt (hit64 a b nm) ar) (Q := fun _ fr' k' => Grow h k' ∧ Fr.get fr' 8 = some (.bool true)) (R := fun fr' k' => Grow h k') (d := 0)
    (fun i fr k hi hI hp => by
      obtain ⟨x,hx⟩:∃ x,ar[i]? = some x := ⟨_,List.getElem?_eq_getElem hi⟩
      obtain ⟨fr',k',e,q⟩ := (step64 m hw a b nm i x hx fr k hI).1 (by simpa [hitAt,hx] using hp)
      exact ⟨fr',k',e,q⟩)
    (fun i fr k hi hI hp => by
      obtain ⟨x,hx⟩:∃ x,ar[i]? = some x := ⟨_,List.getElem?_eq_getElem hi⟩
      obtain ⟨fr',k',e,q⟩ := (step64 m hw a b nm i x hx fr k hI).2 (by simpa [hitAt,hx] using hp)
      exact ⟨fr',k',e,q⟩)
    (fun fr k hI => by
      obtain ⟨gr,t0,t1,t2,t3,t9⟩ := hI
      have kw := ldW3 (hw.grow gr).r
      rcases lenV_cases hsl with ⟨f,l,rfl,hl⟩ | ⟨id,lo,e,cap,rfl⟩
      · simp [b64_0,nilv,t0,t9,hl,kw]
        exact ⟨_,_,⟨rfl,rfl⟩,gr⟩
      · simp [b64_0,nilv,t0,t9,kw]
        exact ⟨_,_,⟨rfl,rfl⟩,gr⟩)
    m (by omega) [(9,.int .i64 0),(8,.bool false),(0,.ptr w 0 0),(1,.int .i64 a),(2,.int .i64 b),(3,.str nm)] h ⟨Grow.refl h,by simp,by simp,by simp,by simp,by simp⟩
  rw [call_succ]
  show ∃ h',call1 (call fns m) m f64 _ _ = _ ∧ _
  rcases L with ⟨i,fr',h',hi,hp,hj,e,g,q⟩ | ⟨hj,fr',h',e,g⟩
  · have ha:insideR ar a b nm = true := by
      unfold insideR
      rw [List.any_eq_true]
      exact ⟨ar[i],List.getElem_mem hi,by simpa [hitAt,List.getElem?_eq_getElem hi] using hp⟩
    refine ⟨h',?_,g⟩
    rw [ha]
    simp [f64,Fr.keep_cons',Fr.keep_nil,e,q]
  · have ha:insideR ar a b nm = false := by
      unfold insideR
      rw [List.any_eq_false]
      intro x hx
      obtain ⟨i,hi,rfl⟩ := List.getElem_of_mem hx
      have := hj i hi
      simpa [hitAt,List.getElem?_eq_getElem hi] using this
    refine ⟨h',?_,g⟩
    rw [ha]
    simp [f64,Fr.keep_cons',Fr.keep_nil,e]
def q46_0:IC := (rT 0 [oq 0 3 (.box (.t 1) 11),oq 1 4 (.mv (ic 0))] ma34)
def q46_1:IC := (.reg 1 true [mq 0 15 0,nq 1 16 15,fq 2 17 16 0,lq 3 18 2 true 17,mq 4 19 0,nq 5 20 19,fq 6 21 20 2,lq 7 22 1 false 21,oq 8 5 (.alloc (.agg [.sl true [],.sl true []])),sq 9 2 5 (.t 18),mq 10 6 22] [(false,9,7)] ma34)
def q46_2:IC := (rF 2 [mq 0 23 0,cq 1 24 64 [.t 23,ic 7,ic 7,.c (.str [])],mq 2 7 24] ma34)
def q46_3:IC := (rF 3 [mq 0 25 0,cq 1 26 64 [.t 25,ic 8,ic 8,.c (.str [])],mq 2 8 26] ma34)
def q46_4:IC := (rF 4 [mq 0 27 0,cq 1 28 64 [.t 27,ic 3,ic 3,.c (.str [])],mq 2 9 28] ma34)
def q46_5:IC := (rF 5 [fq 0 29 3 0,lq 1 30 1 false 29] ma34)
def br46_31:IC := (.seq (.seq (rF 7 [fq 0 33 3 4,lq 1 34 1 false 33,zq 2 35 false 34,bq 3 36 .eql (.t 35) (ic 0)] ma34) (.cond (.t 36) (.seq (.reg 8 false [lq 0 37 2 true 5,mq 1 38 6,fq 2 39 3 2,lq 3 40 1 false 39,cq 4 41 66 [.t 37,.t 38,.t 40,ic 8,ic 1],lq 5 42 2 true 5,mq 6 43 6,fq 7 44 3 5,lq 8 45 4 true 44,cq 9 46 67 [.t 42,.t 43,.t 45],cq 10 47 65 [.t 41,.t 46],mq 11 4 47] [(false,4,5),(false,4,8)] ma34) .ret) .skip)) (.seq (.reg 9 false [lq 0 48 2 true 5,mq 1 49 6,fq 2 50 3 2,lq 3 51 1 false 50,cq 4 52 66 [.t 48,.t 49,.t 51,ic 2,ic 2],lq 5 53 2 true 5,mq 6 54 6,fq 7 55 3 4,lq 8 56 1 false 55,oq 9 57 (.iad 4 (.t 56) (ic 0)),lq 10 58 4 true 57,cq 11 59 67 [.t 53,.t 54,.t 58],lq 12 60 2 true 5,mq 13 61 6,fq 14 62 3 5,lq 15 63 4 true 62,cq 16 64 67 [.t 60,.t 61,.t 63],cq 17 65 65 [.t 59,.t 64],cq 18 66 65 [.t 52,.t 65],mq 19 4 66] [(false,4,5),(false,4,8),(false,4,10),(false,4,12),(false,4,15),(false,11,12),(false,11,15)] ma34) .ret))
def br46_67:IC := (.seq (rF 12 [lq 0 70 2 true 5,mq 1 71 6,fq 2 72 3 5,lq 3 73 4 true 72,cq 4 74 67 [.t 70,.t 71,.t 73],mq 5 4 74] ma34) .ret)
def br46_75:IC := (.seq (rF 14 [lq 0 77 2 true 5,mq 1 78 6,fq 2 79 3 2,lq 3 80 1 false 79,cq 4 81 66 [.t 77,.t 78,.t 80,ic 3,ic 3],mq 5 82 7,mq 6 83 82,⟨7,some 84,.mv (.t 0),(some (83,false))⟩,⟨8,some 85,.fad (.t 3) 2,(some (83,false))⟩,⟨9,some 86,.ld 1 false (.t 85),(some (83,false))⟩,⟨10,some 87,.call 64 [.t 84,ic 4,ic 4,.t 86],(some (83,false))⟩,oq 11 88 (.pick (.t 83) (.c (.bool true)) (.t 87)),cq 12 89 68 [.t 88],cq 13 90 65 [.t 81,.t 89],mq 14 4 90] ma34) .ret)
def br46_91:IC := (.seq (rF 17 [lq 0 94 2 true 5,mq 1 95 6,fq 2 96 3 2,lq 3 97 1 false 96,cq 4 98 66 [.t 94,.t 95,.t 97,ic 4,ic 4],mq 5 99 7,mq 6 100 99,⟨7,some 101,.mv (.t 0),(some (100,false))⟩,⟨8,some 102,.fad (.t 3) 2,(some (100,false))⟩,⟨9,some 103,.ld 1 false (.t 102),(some (100,false))⟩,⟨10,some 104,.call 64 [.t 101,ic 5,ic 6,.t 103],(some (100,false))⟩,oq 11 105 (.pick (.t 100) (.c (.bool true)) (.t 104)),cq 12 106 68 [.t 105],cq 13 107 65 [.t 98,.t 106],mq 14 4 107] ma34) .ret)
def br46_108:IC := (.seq (rF 19 [mq 0 110 7,cq 1 111 68 [.t 110],mq 2 4 111] ma34) .ret)
def br46_112:IC := (.seq (rF 21 [mq 0 114 7,mq 1 115 114,⟨2,some 116,.mv (.t 8),(some (115,false))⟩,oq 3 117 (.pick (.t 115) (.c (.bool true)) (.t 116)),cq 4 118 68 [.t 117],mq 5 4 118] ma34) .ret)
def br46_119:IC := (.seq (rF 25 [lq 0 123 2 true 5,mq 1 124 6,fq 2 125 3 2,lq 3 126 1 false 125,cq 4 127 66 [.t 123,.t 124,.t 126,ic 5,ic 5],mq 5 10 127] ma34) (.seq (.seq (rF 26 [mq 0 128 10,bq 1 129 .neq (.t 128) (ic 0)] ma34) (.cond (.t 129) (.seq (rF 27 [mq 0 130 10,mq 1 4 130] ma34) .ret) .skip)) (.seq (.reg 28 false [fq 3 134 5 0,lq 4 135 1 false 134,fq 5 136 3 2,lq 6 137 1 false 136,cq 7 138 43 [.t 135,.t 137],mq 0 131 0,fq 1 132 5 0,lq 2 133 1 false 132,oq 8 139 (.iad 6 (.t 133) (.t 138)),fq 9 140 139 5,lq 10 141 1 false 140,cq 11 142 64 [.t 131,ic 4,ic 4,.t 141],mq 12 11 142] [(false,7,2)] ma34) (.seq (rF 29 [mq 0 143 7,mq 1 144 143,⟨2,some 145,.mv (.t 11),(some (144,false))⟩,⟨3,some 146,.un .not (.t 145),(some (144,false))⟩,oq 4 147 (.pick (.t 144) (.c (.bool true)) (.t 146)),mq 5 148 147,⟨6,some 149,.fad (.t 3) 0,(some (148,false))⟩,⟨7,some 150,.ld 1 false (.t 149),(some (148,false))⟩,⟨8,some 151,.bin .eql (.t 150) (ic 9),(some (148,false))⟩,⟨9,some 152,.mv (.t 151),(some (148,false))⟩,⟨10,some 153,.mv (.t 8),(some (152,true))⟩,⟨11,some 154,.pick (.t 152) (.t 153) (.c (.bool false)),(some (148,false))⟩,oq 12 155 (.pick (.t 148) (.c (.bool true)) (.t 154)),cq 13 156 68 [.t 155],mq 14 4 156] ma34) .ret))))
def br46_157:IC := (.seq (rF 31 [lq 0 159 2 true 5,mq 1 160 6,fq 2 161 3 2,lq 3 162 1 false 161,cq 4 163 66 [.t 159,.t 160,.t 162,ic 7,ic 7],mq 5 12 163] ma34) (.seq (.seq (rF 32 [mq 0 164 12,bq 1 165 .neq (.t 164) (ic 0)] ma34) (.cond (.t 165) (.seq (rF 33 [mq 0 166 12,mq 1 4 166] ma34) .ret) .skip)) (.seq (rF 34 [fq 0 167 5 1,lq 1 168 1 false 167,fq 2 169 3 2,lq 3 170 1 false 169,cq 4 171 44 [.t 168,.t 170],mq 5 13 171] ma34) (.seq (.seq (rF 35 [mq 0 172 7,mq 1 173 172,⟨2,some 174,.mv (.t 8),(some (173,false))⟩,oq 3 175 (.pick (.t 173) (.c (.bool true)) (.t 174)),mq 4 176 175,⟨5,some 177,.mv (.t 9),(some (176,false))⟩,oq 6 178 (.pick (.t 176) (.c (.bool true)) (.t 177)),mq 7 179 178,⟨8,some 180,.mv (.t 13),(some (179,false))⟩,⟨9,some 181,.mv (.t 6),(some (179,false))⟩,⟨10,some 182,.bin .eql (.t 180) (.t 181),(some (179,false))⟩,oq 11 183 (.pick (.t 179) (.c (.bool true)) (.t 182)),mq 12 184 183,⟨13,some 185,.mv (.t 13),(some (184,false))⟩,⟨14,some 186,.bin .eql (.t 185) (ic 0),(some (184,false))⟩,oq 15 187 (.pick (.t 184) (.c (.bool true)) (.t 186))] ma34) (.cond (.t 187) (.seq (rF 36 [oq 0 4 (.mv (ic 7))] ma34) .ret) .skip)) (.seq (.seq (rF 37 [mq 0 188 0,nq 1 189 188,fq 2 190 189 4,lq 3 191 1 false 190,fq 4 192 3 2,lq 5 193 1 false 192,cq 6 194 45 [.t 191,.t 193],bq 7 195 .geq (.t 194) (ic 0)] ma34) (.cond (.t 195) (.seq (rF 38 [oq 0 4 (.mv (ic 8))] ma34) .ret) .skip)) (.seq (rT 39 [mq 1 197 0,nq 2 198 197,fq 3 199 198 4,lq 4 200 1 false 199,fq 5 201 3 2,lq 6 202 1 false 201,oq 7 203 (.bslF 1 (.str []) 1 [(0,.t 202)]),oq 8 204 (.app 1 (.t 200) (.t 203)),mq 0 196 0,nq 9 205 196,fq 10 206 205 4,sq 11 1 206 (.t 204)] ma34) (.seq (rF 40 [oq 0 4 (.mv (ic 0))] ma34) .ret)))))))
def br46_207:IC := (.seq (rF 42 [lq 0 209 2 true 5,mq 1 210 6,fq 2 211 3 2,lq 3 212 1 false 211,cq 4 213 66 [.t 209,.t 210,.t 212,ic 7,ic 7],mq 5 214 7,mq 6 215 214,⟨7,some 216,.mv (.t 8),(some (215,false))⟩,oq 8 217 (.pick (.t 215) (.c (.bool true)) (.t 216)),mq 9 218 217,⟨10,some 219,.fad (.t 5) 1,(some (218,false))⟩,⟨11,some 220,.ld 1 false (.t 219),(some (218,false))⟩,⟨12,some 221,.fad (.t 3) 2,(some (218,false))⟩,⟨13,some 222,.ld 1 false (.t 221),(some (218,false))⟩,⟨14,some 223,.call 44 [.t 220,.t 222],(some (218,false))⟩,⟨15,some 224,.mv (.t 6),(some (218,false))⟩,⟨16,some 225,.bin .eql (.t 223) (.t 224),(some (218,false))⟩,oq 17 226 (.pick (.t 218) (.c (.bool true)) (.t 225)),cq 18 227 68 [.t 226],cq 19 228 65 [.t 213,.t 227],mq 20 4 228] ma34) .ret)
def br46_229:IC := (.seq (rF 44 [lq 0 231 2 true 5,mq 1 232 6,fq 2 233 3 2,lq 3 234 1 false 233,cq 4 235 66 [.t 231,.t 232,.t 234,ic 6,ic 6],mq 5 236 7,mq 6 237 236,⟨7,some 238,.mv (.t 9),(some (237,false))⟩,oq 8 239 (.pick (.t 237) (.c (.bool true)) (.t 238)),cq 9 240 68 [.t 239],cq 10 241 65 [.t 235,.t 240],mq 11 14 241] ma34) (.seq (.seq (rF 45 [mq 0 242 14,bq 1 243 .eql (.t 242) (ic 0),mq 2 244 243,⟨3,some 245,.mv (.t 0),(some (244,true))⟩,⟨4,some 246,.nck (.t 245),(some (244,true))⟩,⟨5,some 247,.fad (.t 246) 5,(some (244,true))⟩,⟨6,some 248,.ld 1 false (.t 247),(some (244,true))⟩,⟨7,some 249,.fad (.t 3) 2,(some (244,true))⟩,⟨8,some 250,.ld 1 false (.t 249),(some (244,true))⟩,⟨9,some 251,.call 45 [.t 248,.t 250],(some (244,true))⟩,⟨10,some 252,.bin .geq (.t 251) (ic 0),(some (244,true))⟩,oq 11 253 (.pick (.t 244) (.t 252) (.c (.bool false)))] ma34) (.cond (.t 253) (rF 46 [oq 0 14 (.mv (ic 8))] ma34) .skip)) (.seq (rT 47 [mq 1 255 0,nq 2 256 255,fq 3 257 256 5,lq 4 258 1 false 257,fq 5 259 3 2,lq 6 260 1 false 259,oq 7 261 (.bslF 1 (.str []) 1 [(0,.t 260)]),oq 8 262 (.app 1 (.t 258) (.t 261)),mq 0 254 0,nq 9 263 254,fq 10 264 263 5,sq 11 1 264 (.t 262)] ma34) (.seq (rF 48 [mq 0 265 14,lq 1 266 2 true 5,mq 2 267 6,fq 3 268 3 5,lq 4 269 4 true 268,cq 5 270 67 [.t 266,.t 267,.t 269],cq 6 271 65 [.t 265,.t 270],mq 7 4 271] ma34) .ret))))
def sw46:IC := (.seq (rF 6 [bq 0 32 .eql (.t 30) (ic 1),mq 1 31 32] ma34) (.cond (.t 31) br46_31 (.seq (.seq (rF 10 [bq 0 68 .eql (.t 30) (ic 2),mq 1 67 68] ma34) (.cond (.t 67) .skip (rF 11 [bq 0 69 .eql (.t 30) (ic 3),mq 1 67 69] ma34))) (.cond (.t 67) br46_67 (.seq (rF 13 [bq 0 76 .eql (.t 30) (ic 4),mq 1 75 76] ma34) (.cond (.t 75) br46_75 (.seq (.seq (rF 15 [bq 0 92 .eql (.t 30) (ic 5),mq 1 91 92] ma34) (.cond (.t 91) .skip (rF 16 [bq 0 93 .eql (.t 30) (ic 6),mq 1 91 93] ma34))) (.cond (.t 91) br46_91 (.seq (rF 18 [bq 0 109 .eql (.t 30) (ic 7),mq 1 108 109] ma34) (.cond (.t 108) br46_108 (.seq (rF 20 [bq 0 113 .eql (.t 30) (ic 8),mq 1 112 113] ma34) (.cond (.t 112) br46_112 (.seq (.seq (rF 22 [bq 0 120 .eql (.t 30) (ic 9),mq 1 119 120] ma34) (.cond (.t 119) .skip (.seq (rF 23 [bq 0 121 .eql (.t 30) (ic 10),mq 1 119 121] ma34) (.cond (.t 119) .skip (rF 24 [bq 0 122 .eql (.t 30) (ic 11),mq 1 119 122] ma34))))) (.cond (.t 119) br46_119 (.seq (rF 30 [bq 0 158 .eql (.t 30) (ic 12),mq 1 157 158] ma34) (.cond (.t 157) br46_157 (.seq (rF 41 [bq 0 208 .eql (.t 30) (ic 13),mq 1 207 208] ma34) (.cond (.t 207) br46_207 (.seq (rF 43 [bq 0 230 .eql (.t 30) (ic 14),mq 1 229 230] ma34) (.cond (.t 229) br46_229 (.skip)))))))))))))))))))))
def q46_6:IC := (.reg 49 false [lq 0 272 2 true 5,mq 1 273 6,fq 2 274 3 2,lq 3 275 1 false 274,cq 4 276 66 [.t 272,.t 273,.t 275,ic 8,ic 8],lq 5 277 2 true 5,mq 6 278 6,fq 7 279 3 3,lq 8 280 1 false 279,cq 9 281 66 [.t 277,.t 278,.t 280,ic 6,ic 6],mq 10 282 7,cq 11 283 68 [.t 282],cq 12 284 65 [.t 281,.t 283],cq 13 285 65 [.t 276,.t 284],mq 14 4 285] [(false,4,5),(false,4,8)] ma34)
theorem shape_46:f46.body = .seq q46_0 (.seq q46_1 (.seq q46_2 (.seq q46_3 (.seq q46_4 (.seq (.seq q46_5 (.block 0 sw46)) (.seq q46_6 .ret)))))) := rfl
theorem res_46:f46.res = [.tmp 4] := rfl
theorem fz_46:f46.fz = false := rfl
theorem ldPv {h:H} {id:Nat} {p:Prog} {kd:Kind} (hg:h.get id = some (.row [p.v] 2 kd)):ldv h 2 true (.ptr id 0 0) = some p.v := by simp [ldv,hg,Prog.v,V.cells,cut,mk]
theorem ldPd {h:H} {id:Nat} {p:Prog} {kd:Kind} (hg:h.get id = some (.row [p.v] 2 kd)):ldv h 1 false (.ptr id 0 0) = some (.sl p.fd (p.decls.map Decl.v)) := by simp [ldv,hg,Prog.v,V.cells,cut,mk]
theorem ldPt {h:H} {id:Nat} {p:Prog} {kd:Kind} (hg:h.get id = some (.row [p.v] 2 kd)):ldv h 1 false (.ptr id 0 1) = some (.sl p.ft (p.threads.map Thread.v)) := by simp [ldv,hg,Prog.v,V.cells,cut,mk]
theorem stvP {h:H} {id:Nat} {p:Prog} (hg:h.get id = some (.row [.agg [.sl true [],.sl true []]] 2 .rw)):stv h 2 (.ptr id 0 0) p.v = some (h.set id (.row [p.v] 2 .rw)) := by
  simp [stv,hg,Prog.v,V.cells,one,splice]
theorem any_congr {α:Type} {l:List α} {f g:α → Bool} (h:∀ x,x ∈ l → f x = g x):l.any f = l.any g := by
  induction l with
  | nil => rfl
  | cons a l ih => simp only [List.any_cons,h a (by simp)]; rw [ih (fun x hx => h x (by simp [hx]))]
theorem insideR_op (ar:List Stmt) (a:Int):insideR ar a a [] = insideOps ar [a] := by
  unfold insideR insideOps
  exact any_congr fun x _ => by simp [hit64,hitOps]
theorem insideR_nm (ar:List Stmt) (a b:Int) (nm:List Nat) (h:nm ≠ []):insideR ar a b nm = insideName ar nm [a,b] := by
  unfold insideR insideName
  exact any_congr fun x _ => by
    cases nm with
    | nil => exact absurd rfl h
    | cons c l => simp [hit64,hitOps]; rw [Bool.and_comm]
theorem insideR_nm1 (ar:List Stmt) (a:Int) (nm:List Nat) (h:nm ≠ []):insideR ar a a nm = insideName ar nm [a] := by
  unfold insideR insideName
  exact any_congr fun x _ => by
    cases nm with
    | nil => exact absurd rfl h
    | cons c l => simp [hit64,hitOps]; rw [Bool.and_comm]
theorem insideOps_two (ar:List Stmt) (a b:Int):insideOps ar [a,b] = (insideOps ar [a] || insideOps ar [b]) := by
  unfold insideOps
  induction ar with
  | nil => rfl
  | cons x l ih =>
    simp only [List.any_cons,ih]
    have:hitOps [a,b] x = (hitOps [a] x || hitOps [b] x) := by simp [hitOps]
    rw [this]
    cases hitOps [a] x <;> cases hitOps [b] x <;> simp
theorem wK12 (p:Prog) (t:Int) (s:List Nat):wantE (meaning p t s) 8 1 = K p t s [1,2] := by
  obtain ⟨h0,h9⟩ := meaning_range p t s
  unfold K
  have:meaning p t s = 0 ∨ meaning p t s = 1 ∨ meaning p t s = 2 ∨ meaning p t s = 3 ∨ meaning p t s = 4 ∨ meaning p t s = 5 ∨ meaning p t s = 6 ∨ meaning p t s = 7 ∨ meaning p t s = 8 ∨ meaning p t s = 9 := by omega
  rcases this with h | h | h | h | h | h | h | h | h | h <;> rw [h] <;> rfl
theorem wK3 (p:Prog) (t:Int) (s:List Nat):wantE (meaning p t s) 2 2 = K p t s [3] := by
  obtain ⟨h0,h9⟩ := meaning_range p t s
  unfold K
  have:meaning p t s = 0 ∨ meaning p t s = 1 ∨ meaning p t s = 2 ∨ meaning p t s = 3 ∨ meaning p t s = 4 ∨ meaning p t s = 5 ∨ meaning p t s = 6 ∨ meaning p t s = 7 ∨ meaning p t s = 8 ∨ meaning p t s = 9 := by omega
  rcases this with h | h | h | h | h | h | h | h | h | h <;> rw [h] <;> rfl
theorem wK4 (p:Prog) (t:Int) (s:List Nat):wantE (meaning p t s) 3 3 = K p t s [4] := by
  obtain ⟨h0,h9⟩ := meaning_range p t s
  unfold K
  have:meaning p t s = 0 ∨ meaning p t s = 1 ∨ meaning p t s = 2 ∨ meaning p t s = 3 ∨ meaning p t s = 4 ∨ meaning p t s = 5 ∨ meaning p t s = 6 ∨ meaning p t s = 7 ∨ meaning p t s = 8 ∨ meaning p t s = 9 := by omega
  rcases this with h | h | h | h | h | h | h | h | h | h <;> rw [h] <;> rfl
theorem wK5 (p:Prog) (t:Int) (s:List Nat):wantE (meaning p t s) 4 4 = K p t s [5] := by
  obtain ⟨h0,h9⟩ := meaning_range p t s
  unfold K
  have:meaning p t s = 0 ∨ meaning p t s = 1 ∨ meaning p t s = 2 ∨ meaning p t s = 3 ∨ meaning p t s = 4 ∨ meaning p t s = 5 ∨ meaning p t s = 6 ∨ meaning p t s = 7 ∨ meaning p t s = 8 ∨ meaning p t s = 9 := by omega
  rcases this with h | h | h | h | h | h | h | h | h | h <;> rw [h] <;> rfl
theorem wK6 (p:Prog) (t:Int) (s:List Nat):wantE (meaning p t s) 5 5 = K p t s [6] := by
  obtain ⟨h0,h9⟩ := meaning_range p t s
  unfold K
  have:meaning p t s = 0 ∨ meaning p t s = 1 ∨ meaning p t s = 2 ∨ meaning p t s = 3 ∨ meaning p t s = 4 ∨ meaning p t s = 5 ∨ meaning p t s = 6 ∨ meaning p t s = 7 ∨ meaning p t s = 8 ∨ meaning p t s = 9 := by omega
  rcases this with h | h | h | h | h | h | h | h | h | h <;> rw [h] <;> rfl
theorem wK7 (p:Prog) (t:Int) (s:List Nat):wantE (meaning p t s) 6 6 = K p t s [7] := by
  obtain ⟨h0,h9⟩ := meaning_range p t s
  unfold K
  have:meaning p t s = 0 ∨ meaning p t s = 1 ∨ meaning p t s = 2 ∨ meaning p t s = 3 ∨ meaning p t s = 4 ∨ meaning p t s = 5 ∨ meaning p t s = 6 ∨ meaning p t s = 7 ∨ meaning p t s = 8 ∨ meaning p t s = 9 := by omega
  rcases this with h | h | h | h | h | h | h | h | h | h <;> rw [h] <;> rfl
theorem wK8 (p:Prog) (t:Int) (s:List Nat):wantE (meaning p t s) 7 7 = K p t s [8] := by
  obtain ⟨h0,h9⟩ := meaning_range p t s
  unfold K
  have:meaning p t s = 0 ∨ meaning p t s = 1 ∨ meaning p t s = 2 ∨ meaning p t s = 3 ∨ meaning p t s = 4 ∨ meaning p t s = 5 ∨ meaning p t s = 6 ∨ meaning p t s = 7 ∨ meaning p t s = 8 ∨ meaning p t s = 9 := by omega
  rcases this with h | h | h | h | h | h | h | h | h | h <;> rw [h] <;> rfl
theorem wK1 (p:Prog) (t:Int) (s:List Nat):wantE (meaning p t s) 8 8 = K p t s [1] := by
  obtain ⟨h0,h9⟩ := meaning_range p t s
  unfold K
  have:meaning p t s = 0 ∨ meaning p t s = 1 ∨ meaning p t s = 2 ∨ meaning p t s = 3 ∨ meaning p t s = 4 ∨ meaning p t s = 5 ∨ meaning p t s = 6 ∨ meaning p t s = 7 ∨ meaning p t s = 8 ∨ meaning p t s = 9 := by omega
  rcases this with h | h | h | h | h | h | h | h | h | h <;> rw [h] <;> rfl
structure C46 (p:Prog) (t:Int) (w:Nat) (va vs vt:V) (ar:List Stmt) (sp st:List (List Nat)) (x:Stmt) (i3 i5:Nat) (h:H):Prop where
  ws:WS p t w va vs vt ar sp st h
  al:ar.length < 2 ^ 31
  b3:h.get i3 = some (.row [x.v] 11 .rw)
  l3:i3 < h.nx * 256
  n3:i3 ∉ wS w va vs vt
  b5:h.get i5 = some (.row [p.v] 2 .rw)
  l5:i5 < h.nx * 256
  n5:i5 ∉ wS w va vs vt
theorem C46.grow {p:Prog} {t:Int} {w:Nat} {va vs vt:V} {ar:List Stmt} {sp st:List (List Nat)} {x:Stmt} {i3 i5:Nat} {h k:H} (c:C46 p t w va vs vt ar sp st x i3 i5 h) (g:Grow h k):C46 p t w va vs vt ar sp st x i3 i5 k :=
  ⟨c.ws.grow g,c.al,gget g c.l3 c.b3,by have := g.1; have := c.l3; omega,c.n3,gget g c.l5 c.b5,by have := g.1; have := c.l5; omega,c.n5⟩
structure F46 (t:Int) (w:Nat) (ar:List Stmt) (x:Stmt) (i3 i5:Nat) (fr:Fr):Prop where
  t0:Fr.get fr 0 = some (.ptr w 0 0)
  t3:Fr.get fr 3 = some (.ptr i3 0 0)
  t5:Fr.get fr 5 = some (.ptr i5 0 0)
  t6:Fr.get fr 6 = some (.int .i64 t)
  t7:Fr.get fr 7 = some (.bool (insideOps ar [7]))
  t8:Fr.get fr 8 = some (.bool (insideOps ar [8]))
  t9:Fr.get fr 9 = some (.bool (insideOps ar [3]))
theorem pre46 (m:Nat) (hm:4294967405 ≤ m) {p:Prog} (hp:p.Small) {t:Int} {w:Nat} {va vs vt:V} {ar:List Stmt} {sp st:List (List Nat)} {h:H} (hw:WS p t w va vs vt ar sp st h) (hal:ar.length < 2 ^ 31) (x:Stmt) :
    ∃ fr' h' i3 i5,exec (call fns m) m (.seq q46_0 (.seq q46_1 (.seq q46_2 (.seq q46_3 (.seq q46_4 q46_5))))) (enter 0 [.ptr w 0 0,x.v]) h = some (.norm,fr',h') ∧ F46 t w ar x i3 i5 fr' ∧ Fr.get fr' 30 = some (.int .i64 x.op) ∧ C46 p t w va vs vt ar sp st x i3 i5 h' ∧ Grow h h' := by
  have hlt := hw.lt
  let h1:H := ({ h with nx := h.nx + 1 }:H).set (h.nx * 256) (.row [x.v] 11 .rw)
  let h1':H := { nx := h.nx + 1 + 1,t := h1.t }
  let h2':H := h1'.set ((h.nx + 1) * 256 + 8) (.row [.agg [.sl true [],.sl true []]] 2 .rw)
  let h2:H := h2'.set ((h.nx + 1) * 256 + 8) (.row [p.v] 2 .rw)
  have g1:Grow h h1 := ((Grow.refl h).up (h.nx + 1) (by omega)).set (Nat.le_refl _) _
  have hid:(h.nx + 1) * 256 + 8 < (h.nx + 1 + 1) * 256 := by omega
  have g2':Grow h1 h2' := ((Grow.refl h1).up (h.nx + 1 + 1) (by show h.nx + 1 ≤ _; omega)).set (by show (h.nx + 1) * 256 ≤ _; omega) _
  have g2:Grow h1 h2 := g2'.set (by show (h.nx + 1) * 256 ≤ _; omega) _
  have w1 := hw.grow g1
  have w2 := w1.grow g2
  have c2:C46 p t w va vs vt ar sp st x (h.nx * 256) ((h.nx + 1) * 256 + 8) h2 :=
    ⟨w2,hal,gget g2 (by show _ < (h.nx + 1) * 256; omega) (by simp [h1,H.get_set]),by show _ < (h.nx + 1 + 1) * 256; omega,fun hh => by have := hw.ltS _ hh; omega,
      by simp [h2,H.get_set],by show _ < (h.nx + 1 + 1) * 256; omega,fun hh => by have := hw.ltS _ hh; omega⟩
  obtain ⟨h3,e3,g3⟩ := ok_64 m (by omega) (c2.ws.wr hal) 7 7 []
  have c3 := c2.grow g3
  obtain ⟨h4,e4,g4⟩ := ok_64 m (by omega) (c3.ws.wr hal) 8 8 []
  have c4 := c3.grow g4
  obtain ⟨h5,e5,g5⟩ := ok_64 m (by omega) (c4.ws.wr hal) 3 3 []
  have c5 := c4.grow g5
  have el := len_106 x
  have kp:ldv h1' 2 true (.ptr w 0 0) = some p.v := ldW0 (h := h1') w1.r
  have kt:ldv h1' 1 false (.ptr w 0 2) = some (.int .i64 t) := ldW2 (h := h1') w1.r
  have es:stv h2' 2 (.ptr ((h.nx + 1) * 256 + 8) 0 0) p.v = some h2 := stvP (by simp [h2',H.get_set])
  have hgw:h2.get w = some (.row [wrow p t va vs vt] 6 .rw) := w2.r
  have hgw':h2'.get w = some (.row [wrow p t va vs vt] 6 .rw) := (w1.grow g2').r
  have k0 := ldS0 c5.b3
  rw [insideR_op] at e3 e4 e5
  obtain ⟨fr',e,f0,f3,f5,f6,f7,f8,f9,f30⟩:∃ fr',exec (call fns m) m (.seq q46_0 (.seq q46_1 (.seq q46_2 (.seq q46_3 (.seq q46_4 q46_5))))) (enter 0 [.ptr w 0 0,x.v]) h = some (.norm,fr',h5) ∧
      Fr.get fr' 0 = some (.ptr w 0 0) ∧ Fr.get fr' 3 = some (.ptr (h.nx * 256) 0 0) ∧ Fr.get fr' 5 = some (.ptr ((h.nx + 1) * 256 + 8) 0 0) ∧ Fr.get fr' 6 = some (.int .i64 t) ∧
      Fr.get fr' 7 = some (.bool (insideOps ar [7])) ∧ Fr.get fr' 8 = some (.bool (insideOps ar [8])) ∧ Fr.get fr' 9 = some (.bool (insideOps ar [3])) ∧ Fr.get fr' 30 = some (.int .i64 x.op) := by
    simp only [h2',h1',h1] at es kp kt hgw'
    simp [q46_0,q46_1,q46_2,q46_3,q46_4,q46_5,stepE,cells_agg,nilv,el,kp,kt,es,e3,e4,e5,k0,Log.push,addrOf,findL,hgw,hgw',obeq_refl]
  exact ⟨fr',h5,h.nx * 256,(h.nx + 1) * 256 + 8,e,⟨f0,f3,f5,f6,f7,f8,f9⟩,f30,c5,((((g1.trans g2).trans g3).trans g4).trans g5)⟩

theorem E67 (m:Nat) (hm:4294967400 ≤ m) {p:Prog} (hp:p.Small) (t:Int) (e:Expr) (he:e.Fine) (h:H):∃ h',call fns m 67 [p.v,.int .i64 t,e.v] h = some (.int .i64 (exprErr p t e),h') ∧ Grow h h' := by
  have hdn := Expr.depth_le_nodes e.depth e (Nat.le_refl _)
  exact ok_67 m p hp t e he.1 he.2 (by have := he.2; omega) h
theorem E66 (m:Nat) (hm:4294967400 ≤ m) {p:Prog} (hp:p.Small) (t:Int) (s:List Nat) (a b:Int) (h:H):∃ h',call fns m 66 [p.v,.int .i64 t,.str s,.int .i64 a,.int .i64 b] h = some (.int .i64 (wantE (meaning p t s) a b),h') ∧ Grow h h' :=
  ok_66 m (by omega) p hp t s a b h
theorem one_assign (m:Nat) (hm:4294967405 ≤ m) {p:Prog} (hp:p.Small) {t:Int} {w:Nat} {va vs vt:V} {ar:List Stmt} {sp st:List (List Nat)} {x:Stmt} {i3 i5:Nat} {h:H} (c:C46 p t w va vs vt ar sp st x i3 i5 h) {fr:Fr} (F:F46 t w ar x i3 i5 fr) (hix:∀ e,e ∈ x.index → e.Fine) (hex:x.expr.Fine) :
    ∃ fr' h',exec (call fns m) m br46_31 fr h = some (.ret,fr',h') ∧ Fr.get fr' 4 = some (.int .i64 (assignE p t x)) ∧ Grow h h' := by
  obtain ⟨t0,t3,t5,t6,t7,t8,t9⟩ := F
  have e80 := fun b h => ok_68 m (by omega) b h
  have e65 := fun a b h => ok_65 m (by omega) a b h
  have kpa := ldPv c.b5
  have kda := ldPd c.b5
  have kta := ldPt c.b5
  have s0a := ldS0 c.b3
  have s2a := ldS2 c.b3
  have s3a := ldS3 c.b3
  have s4a := ldS4 c.b3
  have s5a := ldS5 c.b3
  cases hx:x.index with
  | nil =>
    obtain ⟨h2,e2,g2⟩ := E66 m (by omega) hp t x.name 8 1 h
    have c2 := c.grow g2
    have kpb := ldPv c2.b5
    have kdb := ldPd c2.b5
    have ktb := ldPt c2.b5
    have s0b := ldS0 c2.b3
    have s2b := ldS2 c2.b3
    have s3b := ldS3 c2.b3
    have s4b := ldS4 c2.b3
    have s5b := ldS5 c2.b3
    obtain ⟨h3,e3,g3⟩ := E67 m (by omega) hp t x.expr hex h2
    rw [wK12] at e2
    rw [hx] at s4a
    simp at s4a
    simp [br46_31,t0,t3,t5,t6,t7,t8,t9,kpa,kda,kta,s0a,s2a,s3a,s5a,kpb,kdb,ktb,s0b,s2b,s3b,s4b,s5b,s4a,e2,e3,e65,Log.push,addrOf,findL,obeq_refl,c.b3,c.b5,c2.b3,c2.b5,assignE,hx,orE]
    exact ⟨_,_,⟨rfl,rfl⟩,by simp,g2.trans g3⟩
  | cons e l =>
    have hl0:¬ ((l.length:Int) + 1 = 0) := by omega
    have hec:e.v.cells.length = 4 := by simp [Expr.v_eq,V.cells]
    obtain ⟨h2,e2,g2⟩ := E66 m (by omega) hp t x.name 2 2 h
    have c2 := c.grow g2
    have kpb := ldPv c2.b5
    have kdb := ldPd c2.b5
    have ktb := ldPt c2.b5
    have s0b := ldS0 c2.b3
    have s2b := ldS2 c2.b3
    have s3b := ldS3 c2.b3
    have s4b := ldS4 c2.b3
    have s5b := ldS5 c2.b3
    obtain ⟨h3,e3,g3⟩ := E67 m (by omega) hp t e (hix e (by simp [hx])) h2
    have c3 := c2.grow g3
    have kpc := ldPv c3.b5
    have kdc := ldPd c3.b5
    have ktc := ldPt c3.b5
    have s0c := ldS0 c3.b3
    have s2c := ldS2 c3.b3
    have s3c := ldS3 c3.b3
    have s4c := ldS4 c3.b3
    have s5c := ldS5 c3.b3
    obtain ⟨h4,e4,g4⟩ := E67 m (by omega) hp t x.expr hex h3
    have k2e := ldIx e h2
    rw [wK3] at e2
    rw [hx] at s4a s4b
    simp at s4a s4b
    simp [br46_31,iadv,t0,t3,t5,t6,t7,t8,t9,kpa,kda,kta,s0a,s2a,s3a,s5a,kpb,kdb,ktb,s0b,s2b,s3b,s5b,kpc,kdc,ktc,s0c,s2c,s3c,s4c,s5c,s4a,s4b,k2e,hec,hl0,e2,e3,e4,e65,Log.push,addrOf,findL,obeq_refl,c.b3,c.b5,c2.b3,c2.b5,c3.b3,c3.b5,assignE,hx,orE]
    exact ⟨_,_,⟨rfl,rfl⟩,by simp,(g2.trans g3).trans g4⟩
theorem one_expr (m:Nat) (hm:4294967405 ≤ m) {p:Prog} (hp:p.Small) {t:Int} {w:Nat} {va vs vt:V} {ar:List Stmt} {sp st:List (List Nat)} {x:Stmt} {i3 i5:Nat} {h:H} (c:C46 p t w va vs vt ar sp st x i3 i5 h) {fr:Fr} (F:F46 t w ar x i3 i5 fr) (hex:x.expr.Fine) :
    ∃ fr' h',exec (call fns m) m br46_67 fr h = some (.ret,fr',h') ∧ Fr.get fr' 4 = some (.int .i64 (exprErr p t x.expr)) ∧ Grow h h' := by
  obtain ⟨t0,t3,t5,t6,t7,t8,t9⟩ := F
  have e80 := fun b h => ok_68 m (by omega) b h
  have e65 := fun a b h => ok_65 m (by omega) a b h
  have kpa := ldPv c.b5
  have kda := ldPd c.b5
  have kta := ldPt c.b5
  have s0a := ldS0 c.b3
  have s2a := ldS2 c.b3
  have s3a := ldS3 c.b3
  have s4a := ldS4 c.b3
  have s5a := ldS5 c.b3
  obtain ⟨h2,e2,g2⟩ := E67 m (by omega) hp t x.expr hex h
  simp [br46_67,t0,t3,t5,t6,t7,t8,t9,kpa,kda,kta,s0a,s2a,s3a,s4a,s5a,e2,Log.push,addrOf,findL,obeq_refl]
  exact ⟨_,_,⟨rfl,rfl⟩,by simp,g2⟩
theorem one_lock (m:Nat) (hm:4294967405 ≤ m) {p:Prog} (hp:p.Small) {t:Int} {w:Nat} {va vs vt:V} {ar:List Stmt} {sp st:List (List Nat)} {x:Stmt} {i3 i5:Nat} {h:H} (c:C46 p t w va vs vt ar sp st x i3 i5 h) {fr:Fr} (F:F46 t w ar x i3 i5 fr) (hn:x.name ≠ []) :
    ∃ fr' h',exec (call fns m) m br46_75 fr h = some (.ret,fr',h') ∧ Fr.get fr' 4 = some (.int .i64 (lockE p t ar x 4 [4])) ∧ Grow h h' := by
  obtain ⟨t0,t3,t5,t6,t7,t8,t9⟩ := F
  have e80 := fun b h => ok_68 m (by omega) b h
  have e65 := fun a b h => ok_65 m (by omega) a b h
  have kpa := ldPv c.b5
  have kda := ldPd c.b5
  have kta := ldPt c.b5
  have s0a := ldS0 c.b3
  have s2a := ldS2 c.b3
  have s3a := ldS3 c.b3
  have s4a := ldS4 c.b3
  have s5a := ldS5 c.b3
  obtain ⟨h2,e2,g2⟩ := E66 m (by omega) hp t x.name 3 3 h
  have c2 := c.grow g2
  have kpb := ldPv c2.b5
  have kdb := ldPd c2.b5
  have ktb := ldPt c2.b5
  have s0b := ldS0 c2.b3
  have s2b := ldS2 c2.b3
  have s3b := ldS3 c2.b3
  have s4b := ldS4 c2.b3
  have s5b := ldS5 c2.b3
  obtain ⟨h3,e3,g3⟩ := ok_64 m (by omega) (c2.ws.wr c.al) 4 4 x.name
  rw [wK4] at e2
  rw [insideR_nm1 _ 4 _ hn] at e3
  cases ha:insideOps ar [7] with
  | true =>
    rw [ha] at t7
    simp [br46_75,t0,t3,t5,t6,t7,t8,t9,kpa,kda,kta,s0a,s2a,s3a,s4a,s5a,kpb,kdb,ktb,s0b,s2b,s3b,s4b,s5b,e2,e80,e65,Log.push,addrOf,findL,obeq_refl,lockE,orE,nst,ha]
    exact ⟨_,_,⟨rfl,rfl⟩,by simp,g2⟩
  | false =>
    rw [ha] at t7
    cases hb:insideName ar x.name [4] <;> rw [hb] at e3 <;> simp [br46_75,t0,t3,t5,t6,t7,t8,t9,kpa,kda,kta,s0a,s2a,s3a,s4a,s5a,kpb,kdb,ktb,s0b,s2b,s3b,s4b,s5b,e2,e3,e80,e65,Log.push,addrOf,findL,obeq_refl,lockE,orE,nst,ha,hb]
    · exact ⟨_,_,⟨rfl,rfl⟩,by simp,g2.trans g3⟩
    · exact ⟨_,_,⟨rfl,rfl⟩,by simp,g2.trans g3⟩
theorem one_rw (m:Nat) (hm:4294967405 ≤ m) {p:Prog} (hp:p.Small) {t:Int} {w:Nat} {va vs vt:V} {ar:List Stmt} {sp st:List (List Nat)} {x:Stmt} {i3 i5:Nat} {h:H} (c:C46 p t w va vs vt ar sp st x i3 i5 h) {fr:Fr} (F:F46 t w ar x i3 i5 fr) (hn:x.name ≠ []) :
    ∃ fr' h',exec (call fns m) m br46_91 fr h = some (.ret,fr',h') ∧ Fr.get fr' 4 = some (.int .i64 (lockE p t ar x 5 [5,6])) ∧ Grow h h' := by
  obtain ⟨t0,t3,t5,t6,t7,t8,t9⟩ := F
  have e80 := fun b h => ok_68 m (by omega) b h
  have e65 := fun a b h => ok_65 m (by omega) a b h
  have kpa := ldPv c.b5
  have kda := ldPd c.b5
  have kta := ldPt c.b5
  have s0a := ldS0 c.b3
  have s2a := ldS2 c.b3
  have s3a := ldS3 c.b3
  have s4a := ldS4 c.b3
  have s5a := ldS5 c.b3
  obtain ⟨h2,e2,g2⟩ := E66 m (by omega) hp t x.name 4 4 h
  have c2 := c.grow g2
  have kpb := ldPv c2.b5
  have kdb := ldPd c2.b5
  have ktb := ldPt c2.b5
  have s0b := ldS0 c2.b3
  have s2b := ldS2 c2.b3
  have s3b := ldS3 c2.b3
  have s4b := ldS4 c2.b3
  have s5b := ldS5 c2.b3
  obtain ⟨h3,e3,g3⟩ := ok_64 m (by omega) (c2.ws.wr c.al) 5 6 x.name
  rw [wK5] at e2
  rw [insideR_nm _ 5 6 _ hn] at e3
  cases ha:insideOps ar [7] with
  | true =>
    rw [ha] at t7
    simp [br46_91,t0,t3,t5,t6,t7,t8,t9,kpa,kda,kta,s0a,s2a,s3a,s4a,s5a,kpb,kdb,ktb,s0b,s2b,s3b,s4b,s5b,e2,e80,e65,Log.push,addrOf,findL,obeq_refl,lockE,orE,nst,ha]
    exact ⟨_,_,⟨rfl,rfl⟩,by simp,g2⟩
  | false =>
    rw [ha] at t7
    cases hb:insideName ar x.name [5,6] <;> rw [hb] at e3 <;> simp [br46_91,t0,t3,t5,t6,t7,t8,t9,kpa,kda,kta,s0a,s2a,s3a,s4a,s5a,kpb,kdb,ktb,s0b,s2b,s3b,s4b,s5b,e2,e3,e80,e65,Log.push,addrOf,findL,obeq_refl,lockE,orE,nst,ha,hb]
    · exact ⟨_,_,⟨rfl,rfl⟩,by simp,g2.trans g3⟩
    · exact ⟨_,_,⟨rfl,rfl⟩,by simp,g2.trans g3⟩
theorem one_tx (m:Nat) (hm:4294967405 ≤ m) {p:Prog} (hp:p.Small) {t:Int} {w:Nat} {va vs vt:V} {ar:List Stmt} {sp st:List (List Nat)} {x:Stmt} {i3 i5:Nat} {h:H} (c:C46 p t w va vs vt ar sp st x i3 i5 h) {fr:Fr} (F:F46 t w ar x i3 i5 fr) :
    ∃ fr' h',exec (call fns m) m br46_108 fr h = some (.ret,fr',h') ∧ Fr.get fr' 4 = some (.int .i64 (nst (insideOps ar [7]))) ∧ Grow h h' := by
  obtain ⟨t0,t3,t5,t6,t7,t8,t9⟩ := F
  have e80 := fun b h => ok_68 m (by omega) b h
  have e65 := fun a b h => ok_65 m (by omega) a b h
  simp [br46_108,t0,t3,t5,t6,t7,t8,t9,e80,nst]
  exact ⟨_,_,⟨rfl,rfl⟩,by simp,Grow.refl _⟩
theorem one_at (m:Nat) (hm:4294967405 ≤ m) {p:Prog} (hp:p.Small) {t:Int} {w:Nat} {va vs vt:V} {ar:List Stmt} {sp st:List (List Nat)} {x:Stmt} {i3 i5:Nat} {h:H} (c:C46 p t w va vs vt ar sp st x i3 i5 h) {fr:Fr} (F:F46 t w ar x i3 i5 fr) :
    ∃ fr' h',exec (call fns m) m br46_112 fr h = some (.ret,fr',h') ∧ Fr.get fr' 4 = some (.int .i64 (nst (insideOps ar [7,8]))) ∧ Grow h h' := by
  obtain ⟨t0,t3,t5,t6,t7,t8,t9⟩ := F
  have e80 := fun b h => ok_68 m (by omega) b h
  have e65 := fun a b h => ok_65 m (by omega) a b h
  rw [insideOps_two]
  cases ha:insideOps ar [7] <;> rw [ha] at t7 <;> simp [br46_112,t0,t3,t5,t6,t7,t8,t9,e80,nst,ha]
  · exact ⟨_,_,⟨rfl,rfl⟩,by simp,Grow.refl _⟩
  · exact ⟨_,_,⟨rfl,rfl⟩,by simp,Grow.refl _⟩
theorem one_get (m:Nat) (hm:4294967405 ≤ m) {p:Prog} (hp:p.Small) {t:Int} {w:Nat} {va vs vt:V} {ar:List Stmt} {sp st:List (List Nat)} {x:Stmt} {i3 i5:Nat} {h:H} (c:C46 p t w va vs vt ar sp st x i3 i5 h) {fr:Fr} (F:F46 t w ar x i3 i5 fr) :
    ∃ fr' h',exec (call fns m) m q46_6 fr h = some (.norm,fr',h') ∧ Fr.get fr' 4 = some (.int .i64 (getE p t ar x)) ∧ Grow h h' := by
  obtain ⟨t0,t3,t5,t6,t7,t8,t9⟩ := F
  have e80 := fun b h => ok_68 m (by omega) b h
  have e65 := fun a b h => ok_65 m (by omega) a b h
  have kpa := ldPv c.b5
  have kda := ldPd c.b5
  have kta := ldPt c.b5
  have s0a := ldS0 c.b3
  have s2a := ldS2 c.b3
  have s3a := ldS3 c.b3
  have s4a := ldS4 c.b3
  have s5a := ldS5 c.b3
  obtain ⟨h2,e2,g2⟩ := E66 m (by omega) hp t x.name 8 8 h
  have c2 := c.grow g2
  have kpb := ldPv c2.b5
  have kdb := ldPd c2.b5
  have ktb := ldPt c2.b5
  have s0b := ldS0 c2.b3
  have s2b := ldS2 c2.b3
  have s3b := ldS3 c2.b3
  have s4b := ldS4 c2.b3
  have s5b := ldS5 c2.b3
  obtain ⟨h3,e3,g3⟩ := E66 m (by omega) hp t x.arg 6 6 h2
  rw [wK1] at e2
  rw [wK7] at e3
  simp [q46_6,t0,t3,t5,t6,t7,t8,t9,kpa,kda,kta,s0a,s2a,s3a,s4a,s5a,kpb,kdb,ktb,s0b,s2b,s3b,s4b,s5b,e2,e3,e80,e65,Log.push,addrOf,findL,obeq_refl,c.b3,c.b5,c2.b3,c2.b5,getE,orE,nst]
  exact ⟨_,_,⟨rfl,rfl⟩,by simp,g2.trans g3⟩

structure Prog.Uniq (p:Prog):Prop where
  nd:(p.decls.map Decl.name).Nodup
  on:∀ d,d ∈ p.decls → d.kind = 5 → d.on ≠ []
theorem onAt_none (l:List Decl) (nm acc:List Nat) (h:∀ d,d ∈ l → d.name ≠ nm):l.foldl (fun acc d => if d.name == nm then d.on else acc) acc = acc := by
  induction l generalizing acc with
  | nil => rfl
  | cons d l ih =>
    have h1:(d.name == nm) = false := by simpa using h d (by simp)
    simp only [List.foldl_cons,h1,Bool.false_eq_true,if_false]
    exact ih acc fun x hx => h x (by simp [hx])
theorem onAt_find (l:List Decl) (nm:List Nat) (hd:(l.map Decl.name).Nodup) (acc:List Nat) (d:Decl) (h:l.find? (fun d => d.name == nm) = some d):l.foldl (fun acc d => if d.name == nm then d.on else acc) acc = d.on := by
  induction l generalizing acc with
  | nil => simp at h
  | cons e l ih =>
    simp only [List.map_cons,List.nodup_cons] at hd
    cases he:e.name == nm with
    | true =>
      simp only [List.find?_cons,he] at h
      have he':e.name = nm := by simpa using he
      cases h
      simp only [List.foldl_cons,he,if_true]
      refine onAt_none l nm _ fun x hx hn => hd.1 ?_
      rw [List.mem_map]
      exact ⟨x,hx,by rw [hn]; exact he'.symm⟩
    | false =>
      simp only [List.find?_cons,he] at h
      simp only [List.foldl_cons,he,Bool.false_eq_true,if_false]
      exact ih hd.2 acc h
theorem cond_decl {p:Prog} (hu:p.Uniq) {t:Int} {nm:List Nat} (hk:K p t nm [6] = 0):∃ (i:Nat) (d:Decl),idxOf (fun x:Decl => x.name == nm) p.decls 0 = (i:Int) ∧ p.decls[i]? = some d ∧ onAt p.decls nm = d.on ∧ d.on ≠ [] := by
  have hm:meaning p t nm = 6 := by
    unfold K errOf at hk
    split at hk
    · omega
    · split at hk
      · rename_i h; simpa using h
      · omega
  have ht:tailMean p nm = 6 := by
    unfold meaning at hm
    split at hm
    · omega
    · exact hm
  rcases idxOf_find (fun x:Decl => x.name == nm) p.decls with ⟨i,d,h1,h2,h3,h4⟩ | ⟨h1,h2⟩
  · refine ⟨i,d,h2,h3,onAt_find _ _ hu.nd _ d h1,hu.on d (List.mem_of_getElem? h3) ?_⟩
    unfold tailMean at ht
    rw [h1] at ht
    unfold declared at ht
    simp only at ht
    repeat' split at ht
    all_goals first | omega | assumption
  · unfold tailMean at ht
    rw [h1] at ht
    simp only at ht
    split at ht <;> omega
theorem one_cond (m:Nat) (hm:4294967405 ≤ m) {p:Prog} (hp:p.Small) {t:Int} {w:Nat} {va vs vt:V} {ar:List Stmt} {sp st:List (List Nat)} {x:Stmt} {i3 i5:Nat} {h:H} (c:C46 p t w va vs vt ar sp st x i3 i5 h) {fr:Fr} (F:F46 t w ar x i3 i5 fr) (hu:p.Uniq) :
    ∃ fr' h',exec (call fns m) m br46_119 fr h = some (.ret,fr',h') ∧ Fr.get fr' 4 = some (.int .i64 (conditionE p t ar x)) ∧ Grow h h' := by
  obtain ⟨t0,t3,t5,t6,t7,t8,t9⟩ := F
  have e80 := fun b h => ok_68 m (by omega) b h
  have e65 := fun a b h => ok_65 m (by omega) a b h
  have kpa := ldPv c.b5
  have kda := ldPd c.b5
  have kta := ldPt c.b5
  have s0a := ldS0 c.b3
  have s2a := ldS2 c.b3
  have s3a := ldS3 c.b3
  have s4a := ldS4 c.b3
  have s5a := ldS5 c.b3
  obtain ⟨h2,e2,g2⟩ := E66 m (by omega) hp t x.name 5 5 h
  have c2 := c.grow g2
  have kpb := ldPv c2.b5
  have kdb := ldPd c2.b5
  have ktb := ldPt c2.b5
  have s0b := ldS0 c2.b3
  have s2b := ldS2 c2.b3
  have s3b := ldS3 c2.b3
  have s4b := ldS4 c2.b3
  have s5b := ldS5 c2.b3
  rw [wK6] at e2
  by_cases hk:K p t x.name [6] = 0
  · obtain ⟨i,d,hi,hd,hon,hne⟩ := cond_decl hu hk
    have e43 := ok_43 m p.fd p.decls x.name (by have := hp.d; omega) hp.d h2
    rw [hi] at e43
    obtain ⟨hil,hde⟩ := List.getElem?_eq_some_iff.1 hd
    obtain ⟨h3,e3,g3⟩ := ok_64 m (by omega) (c2.ws.wr c.al) 4 4 d.on
    have c3 := c2.grow g3
    have kpc := ldPv c3.b5
    have kdc := ldPd c3.b5
    have ktc := ldPt c3.b5
    have s0c := ldS0 c3.b3
    have s2c := ldS2 c3.b3
    have s3c := ldS3 c3.b3
    have s4c := ldS4 c3.b3
    have s5c := ldS5 c3.b3
    rw [insideR_nm1 _ 4 _ hne,← hon] at e3
    have ldc:∀ h,ldv h 1 false (.vptr [V.str d.on]) = some (.str d.on) := fun h => by simp [ldv,V.cells,cut,mk]
    have hcl:d.v.cells = [.int .i64 d.kind,.int .i64 d.line,.str d.name,.int .i64 d.size,.int .i64 d.init,.str d.on] := rfl
    rw [hk] at e2
    simp only [conditionE,hk]
    rw [hon] at e3 ⊢
    cases ha:insideOps ar [7] with
    | true =>
      rw [ha] at t7
      cases hb:insideName ar d.on [4] <;> rw [hb] at e3 <;> simp [br46_119,iadv,t0,t3,t5,t6,t7,t8,t9,kpa,kda,kta,s0a,s2a,s3a,s4a,s5a,kpb,kdb,ktb,s0b,s2b,s3b,s4b,s5b,kpc,kdc,ktc,s0c,s2c,s3c,s4c,s5c,e2,e3,e43,e80,e65,hd,hcl,ldc,Log.push,addrOf,findL,obeq_refl,c2.b3,c2.b5,orE,nst]
      · exact ⟨_,_,⟨rfl,rfl⟩,by simp,g2.trans g3⟩
      · exact ⟨_,_,⟨rfl,rfl⟩,by simp,g2.trans g3⟩
    | false =>
      rw [ha] at t7
      cases hb:insideName ar d.on [4] with
      | false =>
        rw [hb] at e3
        simp [br46_119,iadv,t0,t3,t5,t6,t7,t8,t9,kpa,kda,kta,s0a,s2a,s3a,s4a,s5a,kpb,kdb,ktb,s0b,s2b,s3b,s4b,s5b,kpc,kdc,ktc,s0c,s2c,s3c,s4c,s5c,e2,e3,e43,e80,e65,hd,hcl,ldc,Log.push,addrOf,findL,obeq_refl,c2.b3,c2.b5,orE,nst]
        exact ⟨_,_,⟨rfl,rfl⟩,by simp,g2.trans g3⟩
      | true =>
        rw [hb] at e3
        by_cases ho:x.op = 9
        · rw [ho] at s0c
          cases hc:insideOps ar [8] <;> rw [hc] at t8 <;> simp [br46_119,iadv,t0,t3,t5,t6,t7,t8,t9,kpa,kda,kta,s2a,s3a,s4a,s5a,kpb,kdb,ktb,s2b,s3b,s4b,s5b,kpc,kdc,ktc,s0c,s2c,s3c,s4c,s5c,e2,e3,e43,e80,e65,hd,hcl,ldc,Log.push,addrOf,findL,obeq_refl,c2.b3,c2.b5,orE,nst,ho]
          · exact ⟨_,_,⟨rfl,rfl⟩,by simp,g2.trans g3⟩
          · exact ⟨_,_,⟨rfl,rfl⟩,by simp,g2.trans g3⟩
        · simp [br46_119,iadv,t0,t3,t5,t6,t7,t8,t9,kpa,kda,kta,s2a,s3a,s4a,s5a,kpb,kdb,ktb,s2b,s3b,s4b,s5b,kpc,kdc,ktc,s0c,s2c,s3c,s4c,s5c,e2,e3,e43,e80,e65,hd,hcl,ldc,Log.push,addrOf,findL,obeq_refl,c2.b3,c2.b5,orE,nst,ho]
          exact ⟨_,_,⟨rfl,rfl⟩,by simp,g2.trans g3⟩
  · simp [br46_119,t0,t3,t5,t6,t7,t8,t9,kpa,kda,kta,s0a,s2a,s3a,s4a,s5a,e2,Log.push,addrOf,findL,obeq_refl,conditionE,orE,hk]
    exact ⟨_,_,⟨rfl,rfl⟩,by simp,g2⟩
theorem one_join (m:Nat) (hm:4294967405 ≤ m) {p:Prog} (hp:p.Small) {t:Int} {w:Nat} {va vs vt:V} {ar:List Stmt} {sp st:List (List Nat)} {x:Stmt} {i3 i5:Nat} {h:H} (c:C46 p t w va vs vt ar sp st x i3 i5 h) {fr:Fr} (F:F46 t w ar x i3 i5 fr) :
    ∃ fr' h',exec (call fns m) m br46_207 fr h = some (.ret,fr',h') ∧ Fr.get fr' 4 = some (.int .i64 (orE (K p t x.name [8]) (nst (insideOps ar [7,8] || decide (thAt p x.name = t))))) ∧ Grow h h' := by
  obtain ⟨t0,t3,t5,t6,t7,t8,t9⟩ := F
  have e80 := fun b h => ok_68 m (by omega) b h
  have e65 := fun a b h => ok_65 m (by omega) a b h
  have kpa := ldPv c.b5
  have kda := ldPd c.b5
  have kta := ldPt c.b5
  have s0a := ldS0 c.b3
  have s2a := ldS2 c.b3
  have s3a := ldS3 c.b3
  have s4a := ldS4 c.b3
  have s5a := ldS5 c.b3
  obtain ⟨h2,e2,g2⟩ := E66 m (by omega) hp t x.name 7 7 h
  have c2 := c.grow g2
  have kpb := ldPv c2.b5
  have kdb := ldPd c2.b5
  have ktb := ldPt c2.b5
  have s0b := ldS0 c2.b3
  have s2b := ldS2 c2.b3
  have s3b := ldS3 c2.b3
  have s4b := ldS4 c2.b3
  have s5b := ldS5 c2.b3
  rw [wK8] at e2
  have e44 := ok_44 m p.ft p.threads x.name (by have := hp.t; omega) hp.t h2
  have hth:idxOf (fun x_1:Thread => x_1.name == x.name) p.threads 0 = thAt p x.name := rfl
  rw [hth] at e44
  rw [insideOps_two]
  cases ha:insideOps ar [7] with
  | true =>
    rw [ha] at t7
    simp [br46_207,t0,t3,t5,t6,t7,t8,t9,kpa,kda,kta,s0a,s2a,s3a,s4a,s5a,kpb,kdb,ktb,s0b,s2b,s3b,s4b,s5b,e2,e44,e80,e65,Log.push,addrOf,findL,obeq_refl,orE,nst]
    exact ⟨_,_,⟨rfl,rfl⟩,by simp,g2⟩
  | false =>
    rw [ha] at t7
    cases hb:insideOps ar [8] with
    | true =>
      rw [hb] at t8
      simp [br46_207,t0,t3,t5,t6,t7,t8,t9,kpa,kda,kta,s0a,s2a,s3a,s4a,s5a,kpb,kdb,ktb,s0b,s2b,s3b,s4b,s5b,e2,e44,e80,e65,Log.push,addrOf,findL,obeq_refl,orE,nst]
      exact ⟨_,_,⟨rfl,rfl⟩,by simp,g2⟩
    | false =>
      rw [hb] at t8
      by_cases hu:thAt p x.name = t
      · simp [br46_207,t0,t3,t5,t6,t7,t8,t9,kpa,kda,kta,s0a,s2a,s3a,s4a,s5a,kpb,kdb,ktb,s0b,s2b,s3b,s4b,s5b,e2,e44,e80,e65,Log.push,addrOf,findL,obeq_refl,orE,nst,hu]
        exact ⟨_,_,⟨rfl,rfl⟩,by simp,g2⟩
      · simp [br46_207,t0,t3,t5,t6,t7,t8,t9,kpa,kda,kta,s0a,s2a,s3a,s4a,s5a,kpb,kdb,ktb,s0b,s2b,s3b,s4b,s5b,e2,e44,e80,e65,Log.push,addrOf,findL,obeq_refl,orE,nst,hu]
        exact ⟨_,_,⟨rfl,rfl⟩,by simp,g2⟩
theorem app_s {p:Prog} {t:Int} {w:Nat} {va vs vt:V} {ar:List Stmt} {sp st:List (List Nat)} {h:H} (hw:WS p t w va vs vt ar sp st h) (s:List Nat) (hl:sp.length + 1 < 2 ^ 31) (j:Nat) (hj:j < 256) :
    ∃ h' h'',appv 1 ({ h with nx := h.nx + 1 }:H) (h.nx * 256 + j) vs (.sl true [.str s]) = some (.ref (h.nx * 256 + j) 0 (sp.length + 1) 1 none,h') ∧ stv h' 1 (.ptr w 0 4) (.ref (h.nx * 256 + j) 0 (sp.length + 1) 1 none) = some h'' ∧
      ldv ({ h with nx := h.nx + 1 }:H) 1 false (.ptr w 0 4) = some vs ∧ WS p t w va (.ref (h.nx * 256 + j) 0 (sp.length + 1) 1 none) vt ar (sp ++ [s]) st h'' ∧ Step (wS w va vs vt) (wS w va (.ref (h.nx * 256 + j) 0 (sp.length + 1) 1 none) vt) h h'' := by
  have o1:Own 1 ({ h with nx := h.nx + 1 }:H) vs (sp.map .str) := hw.s.keep (fun _ _ => rfl) (by show h.nx ≤ h.nx + 1; omega)
  have hf:h.nx * 256 + j ∉ ids vs := fun hh => by have := hw.s.lt _ hh; omega
  obtain ⟨h',ea,o2,hnx,keep,_⟩ := o1.app (.str s) rfl (by omega) (by simp [bound]; omega) (h.nx * 256 + j) (by show _ < (h.nx + 1) * 256; omega) hf (.sl true [.str s]) rfl
  have hd := hw.nd
  have hlt := hw.lt
  have hwv:w ∉ ids vs := by
    intro hh
    simp only [wS,List.nodup_cons,List.mem_append,not_or] at hd
    exact hd.1.2.1 hh
  have hgw:h'.get w = some (.row [wrow p t va vs vt] 6 .rw) := by rw [keep w (by omega) hwv]; exact hw.r
  have es := stW4 hgw (h.nx * 256 + j) 0 (sp.map V.str ++ [V.str s]).length 1 none
  have e4':ldv ({ h with nx := h.nx + 1 }:H) 1 false (.ptr w 0 4) = some vs := ldW4 (h := ({ h with nx := h.nx + 1 }:H)) hw.r
  have P := hw.put_s h' (h.nx * 256 + j) _ (sp ++ [s]) (by omega) (by rw [hnx]; show _ < (h.nx + 1) * 256; omega) (by rw [hnx]; show h.nx ≤ h.nx + 1; omega) (by simpa using o2) (fun i hi hii => by rw [keep i (by omega) hii]; rfl)
  have hle:(sp.map V.str ++ [V.str s]).length = sp.length + 1 := by simp
  rw [hle] at ea es
  exact ⟨h',_,ea,es,e4',P.1,P.2⟩
theorem app_t {p:Prog} {t:Int} {w:Nat} {va vs vt:V} {ar:List Stmt} {sp st:List (List Nat)} {h:H} (hw:WS p t w va vs vt ar sp st h) (s:List Nat) (hl:st.length + 1 < 2 ^ 31) (j:Nat) (hj:j < 256) :
    ∃ h' h'',appv 1 ({ h with nx := h.nx + 1 }:H) (h.nx * 256 + j) vt (.sl true [.str s]) = some (.ref (h.nx * 256 + j) 0 (st.length + 1) 1 none,h') ∧ stv h' 1 (.ptr w 0 5) (.ref (h.nx * 256 + j) 0 (st.length + 1) 1 none) = some h'' ∧
      ldv ({ h with nx := h.nx + 1 }:H) 1 false (.ptr w 0 5) = some vt ∧ WS p t w va vs (.ref (h.nx * 256 + j) 0 (st.length + 1) 1 none) ar sp (st ++ [s]) h'' ∧ Step (wS w va vs vt) (wS w va vs (.ref (h.nx * 256 + j) 0 (st.length + 1) 1 none)) h h'' := by
  have o1:Own 1 ({ h with nx := h.nx + 1 }:H) vt (st.map .str) := hw.t.keep (fun _ _ => rfl) (by show h.nx ≤ h.nx + 1; omega)
  have hf:h.nx * 256 + j ∉ ids vt := fun hh => by have := hw.t.lt _ hh; omega
  obtain ⟨h',ea,o2,hnx,keep,_⟩ := o1.app (.str s) rfl (by omega) (by simp [bound]; omega) (h.nx * 256 + j) (by show _ < (h.nx + 1) * 256; omega) hf (.sl true [.str s]) rfl
  have hd := hw.nd
  have hlt := hw.lt
  have hwv:w ∉ ids vt := by
    intro hh
    simp only [wS,List.nodup_cons,List.mem_append,not_or] at hd
    exact hd.1.2.2 hh
  have hgw:h'.get w = some (.row [wrow p t va vs vt] 6 .rw) := by rw [keep w (by omega) hwv]; exact hw.r
  have es := stW5 hgw (h.nx * 256 + j) 0 (st.map V.str ++ [V.str s]).length 1 none
  have e4':ldv ({ h with nx := h.nx + 1 }:H) 1 false (.ptr w 0 5) = some vt := ldW5 (h := ({ h with nx := h.nx + 1 }:H)) hw.r
  have P := hw.put_t h' (h.nx * 256 + j) _ (st ++ [s]) (by omega) (by rw [hnx]; show _ < (h.nx + 1) * 256; omega) (by rw [hnx]; show h.nx ≤ h.nx + 1; omega) (by simpa using o2) (fun i hi hii => by rw [keep i (by omega) hii]; rfl)
  have hle:(st.map V.str ++ [V.str s]).length = st.length + 1 := by simp
  rw [hle] at ea es
  exact ⟨h',_,ea,es,e4',P.1,P.2⟩
theorem one_spawn (m:Nat) (hm:4294967405 ≤ m) {p:Prog} (hp:p.Small) {t:Int} {w:Nat} {va vs vt:V} {ar:List Stmt} {sp st:List (List Nat)} {x:Stmt} {i3 i5:Nat} {h:H} (c:C46 p t w va vs vt ar sp st x i3 i5 h) {fr:Fr} (F:F46 t w ar x i3 i5 fr) (hsl:sp.length + 1 < 2 ^ 31) :
    ∃ fr' h' vs' vt' sp' st',exec (call fns m) m br46_157 fr h = some (.ret,fr',h') ∧ Fr.get fr' 4 = some (.int .i64 (orE (K p t x.name [8]) (if (insideOps ar [7,8] || decide (thAt p x.name = t)) || (insideOps ar [3] || decide (thAt p x.name = 0)) then 7 else if sp.contains x.name then 8 else 0))) ∧ WS p t w va vs' vt' ar sp' st' h' ∧ ((orE (K p t x.name [8]) (if (insideOps ar [7,8] || decide (thAt p x.name = t)) || (insideOps ar [3] || decide (thAt p x.name = 0)) then 7 else if sp.contains x.name then 8 else 0)) = 0 → sp' = sp ++ [x.name] ∧ st' = st) ∧ Step (wS w va vs vt) (wS w va vs' vt') h h' := by
  obtain ⟨t0,t3,t5,t6,t7,t8,t9⟩ := F
  have e80 := fun b h => ok_68 m (by omega) b h
  have e65 := fun a b h => ok_65 m (by omega) a b h
  have kpa := ldPv c.b5
  have kda := ldPd c.b5
  have kta := ldPt c.b5
  have s0a := ldS0 c.b3
  have s2a := ldS2 c.b3
  have s3a := ldS3 c.b3
  have s4a := ldS4 c.b3
  have s5a := ldS5 c.b3
  obtain ⟨h2,e2,g2⟩ := E66 m (by omega) hp t x.name 7 7 h
  have c2 := c.grow g2
  have kpb := ldPv c2.b5
  have kdb := ldPd c2.b5
  have ktb := ldPt c2.b5
  have s0b := ldS0 c2.b3
  have s2b := ldS2 c2.b3
  have s3b := ldS3 c2.b3
  have s4b := ldS4 c2.b3
  have s5b := ldS5 c2.b3
  rw [wK8] at e2
  by_cases hk:K p t x.name [8] = 0
  · rw [hk] at e2
    have e44 := ok_44 m p.ft p.threads x.name (by have := hp.t; omega) hp.t h2
    have hth:idxOf (fun x_1:Thread => x_1.name == x.name) p.threads 0 = thAt p x.name := rfl
    rw [hth] at e44
    have kw := ldW4 c2.ws.r
    have e45 := see_45 m vs sp x.name (by omega) (by omega) h2 c2.ws.s.seesT
    have hge := idxOf_ge (fun y:List Nat => y == x.name) sp
    have hct:(sp.any fun y => y == x.name) = sp.contains x.name := by rw [any_swap,List.contains_eq_any_beq]
    rw [hct] at hge
    obtain ⟨ha,hb,ea,es,kw',w3,s3⟩ := app_s c2.ws x.name hsl 8 (by omega)
    have s2h:ldv ({ h2 with nx := h2.nx + 1 }:H) 1 false (.ptr i3 0 2) = some (.str x.name) := ldS2 (h := ({ h2 with nx := h2.nx + 1 }:H)) c2.b3
    simp only [hk]
    have bad:∀ b:Bool,b = true → (∃ fr' h',exec (call fns m) m br46_157 fr h = some (.ret,fr',h') ∧ Fr.get fr' 4 = some (.int .i64 7) ∧ Grow h h') → ∃ fr' h' vs' vt' sp' st',exec (call fns m) m br46_157 fr h = some (.ret,fr',h') ∧ Fr.get fr' 4 = some (.int .i64 (orE 0 (if b = true then 7 else if sp.contains x.name = true then 8 else 0))) ∧ WS p t w va vs' vt' ar sp' st' h' ∧
        (orE 0 (if b = true then 7 else if sp.contains x.name = true then 8 else 0) = 0 → sp' = sp ++ [x.name] ∧ st' = st) ∧ Step (wS w va vs vt) (wS w va vs' vt') h h' := by
      rintro b rfl ⟨fr',h',q1,q2,q3⟩
      exact ⟨fr',h',vs,vt,sp,st,q1,by simpa [orE] using q2,c.ws.grow q3,by simp [orE],Step.grow _ q3⟩
    rw [insideOps_two]
    cases h7:insideOps ar [7] with
    | true =>
      rw [h7] at t7
      refine bad _ (by simp) ?_
      simp [br46_157,pairs,fillE,cells_int,cells_str,cells_sl,cells_bool,nilv,t0,t3,t5,t6,t7,t8,t9,kpa,kda,kta,s0a,s2a,s3a,s4a,s5a,kpb,kdb,ktb,s0b,s2b,s3b,s4b,s5b,e2,e44,e80,e65,Log.push,addrOf,findL,obeq_refl,orE,nst]
      exact ⟨_,_,⟨rfl,rfl⟩,by simp,g2⟩
    | false =>
      rw [h7] at t7
      cases h8:insideOps ar [8] with
      | true =>
        rw [h8] at t8
        refine bad _ (by simp) ?_
        simp [br46_157,pairs,fillE,cells_int,cells_str,cells_sl,cells_bool,nilv,t0,t3,t5,t6,t7,t8,t9,kpa,kda,kta,s0a,s2a,s3a,s4a,s5a,kpb,kdb,ktb,s0b,s2b,s3b,s4b,s5b,e2,e44,e80,e65,Log.push,addrOf,findL,obeq_refl,orE,nst]
        exact ⟨_,_,⟨rfl,rfl⟩,by simp,g2⟩
      | false =>
        rw [h8] at t8
        cases h3:insideOps ar [3] with
        | true =>
          rw [h3] at t9
          refine bad _ (by simp) ?_
          simp [br46_157,pairs,fillE,cells_int,cells_str,cells_sl,cells_bool,nilv,t0,t3,t5,t6,t7,t8,t9,kpa,kda,kta,s0a,s2a,s3a,s4a,s5a,kpb,kdb,ktb,s0b,s2b,s3b,s4b,s5b,e2,e44,e80,e65,Log.push,addrOf,findL,obeq_refl,orE,nst]
          exact ⟨_,_,⟨rfl,rfl⟩,by simp,g2⟩
        | false =>
          rw [h3] at t9
          by_cases hu:thAt p x.name = t
          · refine bad _ (by simp [hu]) ?_
            simp [br46_157,pairs,fillE,cells_int,cells_str,cells_sl,cells_bool,nilv,t0,t3,t5,t6,t7,t8,t9,kpa,kda,kta,s0a,s2a,s3a,s4a,s5a,kpb,kdb,ktb,s0b,s2b,s3b,s4b,s5b,e2,e44,e80,e65,Log.push,addrOf,findL,obeq_refl,orE,nst,hu]
            exact ⟨_,_,⟨rfl,rfl⟩,by simp,g2⟩
          · by_cases h0:thAt p x.name = 0
            · refine bad _ (by simp [h0]) ?_
              have ht:¬ 0 = t := by rw [← h0]; exact hu
              simp [br46_157,pairs,fillE,cells_int,cells_str,cells_sl,cells_bool,nilv,t0,t3,t5,t6,t7,t8,t9,kpa,kda,kta,s0a,s2a,s3a,s4a,s5a,kpb,kdb,ktb,s0b,s2b,s3b,s4b,s5b,e2,e44,e80,e65,Log.push,addrOf,findL,obeq_refl,orE,nst,h0,ht]
              exact ⟨_,_,⟨rfl,rfl⟩,by simp,g2⟩
            · cases hc:sp.contains x.name with
              | true =>
                rw [hc] at hge
                have hge':0 ≤ idxOf (fun y:List Nat => y == x.name) sp 0 := by simpa using hge
                obtain ⟨fr',q1,q2⟩:∃ fr',exec (call fns m) m br46_157 fr h = some (.ret,fr',h2) ∧ Fr.get fr' 4 = some (.int .i64 8) := by
                  simp [br46_157,pairs,fillE,cells_int,cells_str,cells_sl,cells_bool,nilv,t0,t3,t5,t6,t7,t8,t9,kpa,kda,kta,s0a,s2a,s3a,s4a,s5a,kpb,kdb,ktb,s0b,s2b,s3b,s4b,s5b,e2,e44,e45,kw,e80,e65,Log.push,addrOf,findL,obeq_refl,orE,nst,h0,hu,hge']
                exact ⟨fr',h2,vs,vt,sp,st,q1,by simpa [orE,hu,h0] using q2,c2.ws,by simp [orE,hu,h0],Step.grow _ g2⟩
              | false =>
                rw [hc] at hge
                have hge':¬ 0 ≤ idxOf (fun y:List Nat => y == x.name) sp 0 := by simpa using hge
                obtain ⟨fr',q1,q2⟩:∃ fr',exec (call fns m) m br46_157 fr h = some (.ret,fr',hb) ∧ Fr.get fr' 4 = some (.int .i64 0) := by
                  simp [br46_157,pairs,fillE,cells_int,cells_str,cells_sl,cells_bool,nilv,t0,t3,t5,t6,t7,t8,t9,kpa,kda,kta,s0a,s2a,s3a,s4a,s5a,kpb,kdb,ktb,s0b,s2b,s3b,s4b,s5b,s2h,e2,e44,e45,kw,kw',ea,es,e80,e65,Log.push,addrOf,findL,obeq_refl,orE,nst,h0,hu,hge']
                exact ⟨fr',hb,_,vt,sp ++ [x.name],st,q1,by simpa [orE,hu,h0] using q2,w3,fun _ => ⟨rfl,rfl⟩,(Step.grow _ g2).trans s3⟩
  · obtain ⟨fr',q1,q2⟩:∃ fr',exec (call fns m) m br46_157 fr h = some (.ret,fr',h2) ∧ Fr.get fr' 4 = some (.int .i64 (K p t x.name [8])) := by
      simp [br46_157,pairs,fillE,cells_int,cells_str,cells_sl,cells_bool,nilv,t0,t3,t5,t6,t7,t8,t9,kpa,kda,kta,s0a,s2a,s3a,s4a,s5a,e2,e80,e65,Log.push,addrOf,findL,obeq_refl,orE,nst,hk]
    exact ⟨fr',h2,vs,vt,sp,st,q1,by simpa [orE,hk] using q2,c2.ws,by simp [orE,hk],Step.grow _ g2⟩
theorem one_set (m:Nat) (hm:4294967405 ≤ m) {p:Prog} (hp:p.Small) {t:Int} {w:Nat} {va vs vt:V} {ar:List Stmt} {sp st:List (List Nat)} {x:Stmt} {i3 i5:Nat} {h:H} (c:C46 p t w va vs vt ar sp st x i3 i5 h) {fr:Fr} (F:F46 t w ar x i3 i5 fr) (hsl:st.length + 1 < 2 ^ 31) (hex:x.expr.Fine) :
    ∃ fr' h' vs' vt' sp' st',exec (call fns m) m br46_229 fr h = some (.ret,fr',h') ∧ Fr.get fr' 4 = some (.int .i64 (settingE p t ar st x)) ∧ WS p t w va vs' vt' ar sp' st' h' ∧ ((settingE p t ar st x) = 0 → sp' = sp ∧ st' = st ++ [x.name]) ∧ Step (wS w va vs vt) (wS w va vs' vt') h h' := by
  obtain ⟨t0,t3,t5,t6,t7,t8,t9⟩ := F
  have e80 := fun b h => ok_68 m (by omega) b h
  have e65 := fun a b h => ok_65 m (by omega) a b h
  have kpa := ldPv c.b5
  have kda := ldPd c.b5
  have kta := ldPt c.b5
  have s0a := ldS0 c.b3
  have s2a := ldS2 c.b3
  have s3a := ldS3 c.b3
  have s4a := ldS4 c.b3
  have s5a := ldS5 c.b3
  obtain ⟨h2,e2,g2⟩ := E66 m (by omega) hp t x.name 6 6 h
  have c2 := c.grow g2
  have kpb := ldPv c2.b5
  have kdb := ldPd c2.b5
  have ktb := ldPt c2.b5
  have s0b := ldS0 c2.b3
  have s2b := ldS2 c2.b3
  have s3b := ldS3 c2.b3
  have s4b := ldS4 c2.b3
  have s5b := ldS5 c2.b3
  rw [wK7] at e2
  have kw := ldW5 c2.ws.r
  have e45 := see_45 m vt st x.name (by omega) (by omega) h2 c2.ws.t.seesT
  have hge := idxOf_ge (fun y:List Nat => y == x.name) st
  have hct:(st.any fun y => y == x.name) = st.contains x.name := by rw [any_swap,List.contains_eq_any_beq]
  rw [hct] at hge
  obtain ⟨ha,hb,ea,es,kw',w3,s3⟩ := app_t c2.ws x.name hsl 8 (by omega)
  have s2h:ldv ({ h2 with nx := h2.nx + 1 }:H) 1 false (.ptr i3 0 2) = some (.str x.name) := ldS2 (h := ({ h2 with nx := h2.nx + 1 }:H)) c2.b3
  have b3b:hb.get i3 = some (.row [x.v] 11 .rw) := by rw [s3.keep _ c2.l3 c.n3]; exact c2.b3
  have b5b:hb.get i5 = some (.row [p.v] 2 .rw) := by rw [s3.keep _ c2.l5 c.n5]; exact c2.b5
  have kph := ldPv b5b
  have s5h := ldS5 b3b
  obtain ⟨h4,e4,g4⟩ := E67 m (by omega) hp t x.expr hex hb
  have fin:(∃ fr',exec (call fns m) m br46_229 fr h = some (.ret,fr',h4) ∧ Fr.get fr' 4 = some (.int .i64 (settingE p t ar st x))) → ∃ fr' h' vs' vt' sp' st',exec (call fns m) m br46_229 fr h = some (.ret,fr',h') ∧ Fr.get fr' 4 = some (.int .i64 (settingE p t ar st x)) ∧ WS p t w va vs' vt' ar sp' st' h' ∧
      (settingE p t ar st x = 0 → sp' = sp ∧ st' = st ++ [x.name]) ∧ Step (wS w va vs vt) (wS w va vs' vt') h h' := by
    rintro ⟨fr',q1,q2⟩
    exact ⟨fr',h4,vs,_,sp,st ++ [x.name],q1,q2,w3.grow g4,fun _ => ⟨rfl,rfl⟩,((Step.grow _ g2).trans s3).trans (Step.grow _ g4)⟩
  refine fin ?_
  unfold settingE
  rw [insideOps_two]
  by_cases hk:K p t x.name [7] = 0
  · rw [hk] at e2
    simp only [hk]
    cases h7:insideOps ar [7] with
    | true =>
      rw [h7] at t7
      simp [br46_229,pairs,fillE,cells_int,cells_str,cells_sl,cells_bool,nilv,t0,t3,t5,t6,t7,t8,t9,kpa,kda,kta,s0a,s2a,s3a,s4a,s5a,kpb,kdb,ktb,s0b,s2b,s3b,s4b,s5b,s2h,kph,s5h,e2,e4,kw',ea,es,e80,e65,Log.push,addrOf,findL,obeq_refl,orE,nst]
    | false =>
      rw [h7] at t7
      cases h3:insideOps ar [3] with
      | true =>
        rw [h3] at t9
        simp [br46_229,pairs,fillE,cells_int,cells_str,cells_sl,cells_bool,nilv,t0,t3,t5,t6,t7,t8,t9,kpa,kda,kta,s0a,s2a,s3a,s4a,s5a,kpb,kdb,ktb,s0b,s2b,s3b,s4b,s5b,s2h,kph,s5h,e2,e4,kw',ea,es,e80,e65,Log.push,addrOf,findL,obeq_refl,orE,nst]
      | false =>
        rw [h3] at t9
        cases hc:st.contains x.name with
        | true =>
          rw [hc] at hge
          have hge':0 ≤ idxOf (fun y:List Nat => y == x.name) st 0 := by simpa using hge
          simp [br46_229,pairs,fillE,cells_int,cells_str,cells_sl,cells_bool,nilv,t0,t3,t5,t6,t7,t8,t9,kpa,kda,kta,s0a,s2a,s3a,s4a,s5a,kpb,kdb,ktb,s0b,s2b,s3b,s4b,s5b,s2h,kph,s5h,e2,e4,e45,kw,kw',ea,es,e80,e65,Log.push,addrOf,findL,obeq_refl,orE,nst,hge']
        | false =>
          rw [hc] at hge
          have hge':¬ 0 ≤ idxOf (fun y:List Nat => y == x.name) st 0 := by simpa using hge
          simp [br46_229,pairs,fillE,cells_int,cells_str,cells_sl,cells_bool,nilv,t0,t3,t5,t6,t7,t8,t9,kpa,kda,kta,s0a,s2a,s3a,s4a,s5a,kpb,kdb,ktb,s0b,s2b,s3b,s4b,s5b,s2h,kph,s5h,e2,e4,e45,kw,kw',ea,es,e80,e65,Log.push,addrOf,findL,obeq_refl,orE,nst,hge']
  · cases h7:insideOps ar [7] with
    | true =>
      rw [h7] at t7
      simp [br46_229,pairs,fillE,cells_int,cells_str,cells_sl,cells_bool,nilv,t0,t3,t5,t6,t7,t8,t9,kpa,kda,kta,s0a,s2a,s3a,s4a,s5a,kpb,kdb,ktb,s0b,s2b,s3b,s4b,s5b,s2h,kph,s5h,e2,e4,kw',ea,es,e80,e65,Log.push,addrOf,findL,obeq_refl,orE,nst,hk]
    | false =>
      rw [h7] at t7
      simp [br46_229,pairs,fillE,cells_int,cells_str,cells_sl,cells_bool,nilv,t0,t3,t5,t6,t7,t8,t9,kpa,kda,kta,s0a,s2a,s3a,s4a,s5a,kpb,kdb,ktb,s0b,s2b,s3b,s4b,s5b,s2h,kph,s5h,e2,e4,kw',ea,es,e80,e65,Log.push,addrOf,findL,obeq_refl,orE,nst,hk]
theorem sw46_1 (cf:CallF) (m:Nat) {t:Int} {w:Nat} {ar:List Stmt} {x:Stmt} {i3 i5:Nat} {fr:Fr} (F:F46 t w ar x i3 i5 fr) (t30:Fr.get fr 30 = some (.int .i64 1)) (h:H):∃ fr',F46 t w ar x i3 i5 fr' ∧ exec cf m sw46 fr h = exec cf m br46_31 fr' h := by
  obtain ⟨t0,t3,t5,t6,t7,t8,t9⟩ := F
  simp [sw46,t30]
  exact ⟨_,⟨by simp [t0],by simp [t3],by simp [t5],by simp [t6],by simp [t7],by simp [t8],by simp [t9]⟩,rfl⟩
theorem sw46_2 (cf:CallF) (m:Nat) {t:Int} {w:Nat} {ar:List Stmt} {x:Stmt} {i3 i5:Nat} {fr:Fr} (F:F46 t w ar x i3 i5 fr) (t30:Fr.get fr 30 = some (.int .i64 2)) (h:H):∃ fr',F46 t w ar x i3 i5 fr' ∧ exec cf m sw46 fr h = exec cf m br46_67 fr' h := by
  obtain ⟨t0,t3,t5,t6,t7,t8,t9⟩ := F
  simp [sw46,t30]
  exact ⟨_,⟨by simp [t0],by simp [t3],by simp [t5],by simp [t6],by simp [t7],by simp [t8],by simp [t9]⟩,rfl⟩
theorem sw46_3 (cf:CallF) (m:Nat) {t:Int} {w:Nat} {ar:List Stmt} {x:Stmt} {i3 i5:Nat} {fr:Fr} (F:F46 t w ar x i3 i5 fr) (t30:Fr.get fr 30 = some (.int .i64 3)) (h:H):∃ fr',F46 t w ar x i3 i5 fr' ∧ exec cf m sw46 fr h = exec cf m br46_67 fr' h := by
  obtain ⟨t0,t3,t5,t6,t7,t8,t9⟩ := F
  simp [sw46,t30]
  exact ⟨_,⟨by simp [t0],by simp [t3],by simp [t5],by simp [t6],by simp [t7],by simp [t8],by simp [t9]⟩,rfl⟩
theorem sw46_4 (cf:CallF) (m:Nat) {t:Int} {w:Nat} {ar:List Stmt} {x:Stmt} {i3 i5:Nat} {fr:Fr} (F:F46 t w ar x i3 i5 fr) (t30:Fr.get fr 30 = some (.int .i64 4)) (h:H):∃ fr',F46 t w ar x i3 i5 fr' ∧ exec cf m sw46 fr h = exec cf m br46_75 fr' h := by
  obtain ⟨t0,t3,t5,t6,t7,t8,t9⟩ := F
  simp [sw46,t30]
  exact ⟨_,⟨by simp [t0],by simp [t3],by simp [t5],by simp [t6],by simp [t7],by simp [t8],by simp [t9]⟩,rfl⟩
theorem sw46_5 (cf:CallF) (m:Nat) {t:Int} {w:Nat} {ar:List Stmt} {x:Stmt} {i3 i5:Nat} {fr:Fr} (F:F46 t w ar x i3 i5 fr) (t30:Fr.get fr 30 = some (.int .i64 5)) (h:H):∃ fr',F46 t w ar x i3 i5 fr' ∧ exec cf m sw46 fr h = exec cf m br46_91 fr' h := by
  obtain ⟨t0,t3,t5,t6,t7,t8,t9⟩ := F
  simp [sw46,t30]
  exact ⟨_,⟨by simp [t0],by simp [t3],by simp [t5],by simp [t6],by simp [t7],by simp [t8],by simp [t9]⟩,rfl⟩
theorem sw46_6 (cf:CallF) (m:Nat) {t:Int} {w:Nat} {ar:List Stmt} {x:Stmt} {i3 i5:Nat} {fr:Fr} (F:F46 t w ar x i3 i5 fr) (t30:Fr.get fr 30 = some (.int .i64 6)) (h:H):∃ fr',F46 t w ar x i3 i5 fr' ∧ exec cf m sw46 fr h = exec cf m br46_91 fr' h := by
  obtain ⟨t0,t3,t5,t6,t7,t8,t9⟩ := F
  simp [sw46,t30]
  exact ⟨_,⟨by simp [t0],by simp [t3],by simp [t5],by simp [t6],by simp [t7],by simp [t8],by simp [t9]⟩,rfl⟩
theorem sw46_7 (cf:CallF) (m:Nat) {t:Int} {w:Nat} {ar:List Stmt} {x:Stmt} {i3 i5:Nat} {fr:Fr} (F:F46 t w ar x i3 i5 fr) (t30:Fr.get fr 30 = some (.int .i64 7)) (h:H):∃ fr',F46 t w ar x i3 i5 fr' ∧ exec cf m sw46 fr h = exec cf m br46_108 fr' h := by
  obtain ⟨t0,t3,t5,t6,t7,t8,t9⟩ := F
  simp [sw46,t30]
  exact ⟨_,⟨by simp [t0],by simp [t3],by simp [t5],by simp [t6],by simp [t7],by simp [t8],by simp [t9]⟩,rfl⟩
theorem sw46_8 (cf:CallF) (m:Nat) {t:Int} {w:Nat} {ar:List Stmt} {x:Stmt} {i3 i5:Nat} {fr:Fr} (F:F46 t w ar x i3 i5 fr) (t30:Fr.get fr 30 = some (.int .i64 8)) (h:H):∃ fr',F46 t w ar x i3 i5 fr' ∧ exec cf m sw46 fr h = exec cf m br46_112 fr' h := by
  obtain ⟨t0,t3,t5,t6,t7,t8,t9⟩ := F
  simp [sw46,t30]
  exact ⟨_,⟨by simp [t0],by simp [t3],by simp [t5],by simp [t6],by simp [t7],by simp [t8],by simp [t9]⟩,rfl⟩
theorem sw46_9 (cf:CallF) (m:Nat) {t:Int} {w:Nat} {ar:List Stmt} {x:Stmt} {i3 i5:Nat} {fr:Fr} (F:F46 t w ar x i3 i5 fr) (t30:Fr.get fr 30 = some (.int .i64 9)) (h:H):∃ fr',F46 t w ar x i3 i5 fr' ∧ exec cf m sw46 fr h = exec cf m br46_119 fr' h := by
  obtain ⟨t0,t3,t5,t6,t7,t8,t9⟩ := F
  simp [sw46,t30]
  exact ⟨_,⟨by simp [t0],by simp [t3],by simp [t5],by simp [t6],by simp [t7],by simp [t8],by simp [t9]⟩,rfl⟩
theorem sw46_10 (cf:CallF) (m:Nat) {t:Int} {w:Nat} {ar:List Stmt} {x:Stmt} {i3 i5:Nat} {fr:Fr} (F:F46 t w ar x i3 i5 fr) (t30:Fr.get fr 30 = some (.int .i64 10)) (h:H):∃ fr',F46 t w ar x i3 i5 fr' ∧ exec cf m sw46 fr h = exec cf m br46_119 fr' h := by
  obtain ⟨t0,t3,t5,t6,t7,t8,t9⟩ := F
  simp [sw46,t30]
  exact ⟨_,⟨by simp [t0],by simp [t3],by simp [t5],by simp [t6],by simp [t7],by simp [t8],by simp [t9]⟩,rfl⟩
theorem sw46_11 (cf:CallF) (m:Nat) {t:Int} {w:Nat} {ar:List Stmt} {x:Stmt} {i3 i5:Nat} {fr:Fr} (F:F46 t w ar x i3 i5 fr) (t30:Fr.get fr 30 = some (.int .i64 11)) (h:H):∃ fr',F46 t w ar x i3 i5 fr' ∧ exec cf m sw46 fr h = exec cf m br46_119 fr' h := by
  obtain ⟨t0,t3,t5,t6,t7,t8,t9⟩ := F
  simp [sw46,t30]
  exact ⟨_,⟨by simp [t0],by simp [t3],by simp [t5],by simp [t6],by simp [t7],by simp [t8],by simp [t9]⟩,rfl⟩
theorem sw46_12 (cf:CallF) (m:Nat) {t:Int} {w:Nat} {ar:List Stmt} {x:Stmt} {i3 i5:Nat} {fr:Fr} (F:F46 t w ar x i3 i5 fr) (t30:Fr.get fr 30 = some (.int .i64 12)) (h:H):∃ fr',F46 t w ar x i3 i5 fr' ∧ exec cf m sw46 fr h = exec cf m br46_157 fr' h := by
  obtain ⟨t0,t3,t5,t6,t7,t8,t9⟩ := F
  simp [sw46,t30]
  exact ⟨_,⟨by simp [t0],by simp [t3],by simp [t5],by simp [t6],by simp [t7],by simp [t8],by simp [t9]⟩,rfl⟩
theorem sw46_13 (cf:CallF) (m:Nat) {t:Int} {w:Nat} {ar:List Stmt} {x:Stmt} {i3 i5:Nat} {fr:Fr} (F:F46 t w ar x i3 i5 fr) (t30:Fr.get fr 30 = some (.int .i64 13)) (h:H):∃ fr',F46 t w ar x i3 i5 fr' ∧ exec cf m sw46 fr h = exec cf m br46_207 fr' h := by
  obtain ⟨t0,t3,t5,t6,t7,t8,t9⟩ := F
  simp [sw46,t30]
  exact ⟨_,⟨by simp [t0],by simp [t3],by simp [t5],by simp [t6],by simp [t7],by simp [t8],by simp [t9]⟩,rfl⟩
theorem sw46_14 (cf:CallF) (m:Nat) {t:Int} {w:Nat} {ar:List Stmt} {x:Stmt} {i3 i5:Nat} {fr:Fr} (F:F46 t w ar x i3 i5 fr) (t30:Fr.get fr 30 = some (.int .i64 14)) (h:H):∃ fr',F46 t w ar x i3 i5 fr' ∧ exec cf m sw46 fr h = exec cf m br46_229 fr' h := by
  obtain ⟨t0,t3,t5,t6,t7,t8,t9⟩ := F
  simp [sw46,t30]
  exact ⟨_,⟨by simp [t0],by simp [t3],by simp [t5],by simp [t6],by simp [t7],by simp [t8],by simp [t9]⟩,rfl⟩
theorem sw46_0 (cf:CallF) (m:Nat) {t:Int} {w:Nat} {ar:List Stmt} {x:Stmt} {i3 i5:Nat} {fr:Fr} (F:F46 t w ar x i3 i5 fr) (t30:Fr.get fr 30 = some (.int .i64 x.op)) (h:H)
    (o1:¬ x.op = 1) (o2:¬ x.op = 2) (o3:¬ x.op = 3) (o4:¬ x.op = 4) (o5:¬ x.op = 5) (o6:¬ x.op = 6) (o7:¬ x.op = 7) (o8:¬ x.op = 8) (o9:¬ x.op = 9) (o10:¬ x.op = 10) (o11:¬ x.op = 11) (o12:¬ x.op = 12) (o13:¬ x.op = 13) (o14:¬ x.op = 14):∃ fr',F46 t w ar x i3 i5 fr' ∧ exec cf m sw46 fr h = some (.norm,fr',h) := by
  obtain ⟨t0,t3,t5,t6,t7,t8,t9⟩ := F
  simp [sw46,t30,o1,o2,o3,o4,o5,o6,o7,o8,o9,o10,o11,o12,o13,o14]
  exact ⟨by simp [t0],by simp [t3],by simp [t5],by simp [t6],by simp [t7],by simp [t8],by simp [t9]⟩
theorem body46 {cf:CallF} {m:Nat} {fr fr1:Fr} {h h1:H} (e:exec cf m (.seq q46_0 (.seq q46_1 (.seq q46_2 (.seq q46_3 (.seq q46_4 q46_5))))) fr h = some (.norm,fr1,h1)) :
    (∀ fr2 h2,exec cf m sw46 fr1 h1 = some (.ret,fr2,h2) → exec cf m f46.body fr h = some (.ret,fr2,h2)) ∧
    (∀ fr2 h2 fr3 h3,exec cf m sw46 fr1 h1 = some (.norm,fr2,h2) → exec cf m q46_6 fr2 h2 = some (.norm,fr3,h3) → exec cf m f46.body fr h = some (.ret,fr3,h3)) := by
  obtain ⟨_,_,e0,e⟩ := exec_seq_norm e
  obtain ⟨_,_,e1,e⟩ := exec_seq_norm e
  obtain ⟨_,_,e2,e⟩ := exec_seq_norm e
  obtain ⟨_,_,e3,e⟩ := exec_seq_norm e
  obtain ⟨_,_,e4,e⟩ := exec_seq_norm e
  refine ⟨fun fr2 h2 q => ?_,fun fr2 h2 fr3 h3 q q2 => ?_⟩
  · rw [shape_46,exec_then e0,exec_then e1,exec_then e2,exec_then e3,exec_then e4,exec_assoc,exec_then e]
    exact exec_out (by simp) (exec_blk rfl q)
  · rw [shape_46,exec_then e0,exec_then e1,exec_then e2,exec_then e3,exec_then e4,exec_assoc,exec_then e,exec_then (exec_blk rfl q),exec_then q2]
    rfl
theorem ok_46 (n:Nat) (hn:4294967410 ≤ n) {p:Prog} (hp:p.Small) (hu:p.Uniq) {t:Int} {w:Nat} {va vs vt:V} {ar:List Stmt} {sp st:List (List Nat)} {h:H} (hw:WS p t w va vs vt ar sp st h) (hal:ar.length < 2 ^ 31) (hsl:sp.length + 1 < 2 ^ 31) (htl:st.length + 1 < 2 ^ 31) (x:Stmt) (hx:x.Fit) (hnm:x.op = 4 ∨ x.op = 5 ∨ x.op = 6 → x.name ≠ []) :
    ∃ vs' vt' sp' st' h',call fns n 46 [.ptr w 0 0,x.v] h = some (.int .i64 (oneE p t ar sp st x),h') ∧ WS p t w va vs' vt' ar sp' st' h' ∧ (oneE p t ar sp st x = 0 → sp' = nextSp x sp ∧ st' = nextSt x st) ∧ Step (wS w va vs vt) (wS w va vs' vt') h h' := by
  obtain ⟨m,rfl⟩:∃ m,n = m + 1 := ⟨n - 1,by omega⟩
  obtain ⟨fr1,h1,i3,i5,e1,F,t30,C,g1⟩ := pre46 m (by omega) hp hw hal x
  obtain ⟨B1,B2⟩ := body46 e1
  rw [call_succ]
  show ∃ vs' vt' sp' st' h',call1 (call fns m) m f46 _ _ = _ ∧ _
  have gr:∀ E:Int,(∃ fr' h',exec (call fns m) m f46.body (enter 0 [.ptr w 0 0,x.v]) h = some (.ret,fr',h') ∧ Fr.get fr' 4 = some (.int .i64 E) ∧ Grow h1 h') → oneE p t ar sp st x = E → ¬ x.op = 12 → ¬ x.op = 14 →
      ∃ vs' vt' sp' st' h',call1 (call fns m) m f46 [.ptr w 0 0,x.v] h = some (.int .i64 (oneE p t ar sp st x),h') ∧ WS p t w va vs' vt' ar sp' st' h' ∧ (oneE p t ar sp st x = 0 → sp' = nextSp x sp ∧ st' = nextSt x st) ∧ Step (wS w va vs vt) (wS w va vs' vt') h h' := by
    rintro E ⟨fr',h',q1,q2,q3⟩ rfl n12 n14
    refine ⟨vs,vt,sp,st,h',?_,hw.grow (g1.trans q3),fun _ => by simp [nextSp,nextSt,n12,n14],Step.grow _ (g1.trans q3)⟩
    unfold call1
    rw [q1]
    simp [res_46,fz_46,q2]
  by_cases o1:x.op = 1
  · rw [o1] at t30
    obtain ⟨fr2,F1,q⟩ := sw46_1 (call fns m) m F t30 h1
    obtain ⟨fr',h',q1,q2,q3⟩ := one_assign m (by omega) hp C F1 hx.ix (hx.ex (.inl o1))
    exact gr (assignE p t x) ⟨fr',h',B1 _ _ (by rw [q]; exact q1),q2,q3⟩ (by simp [oneE,o1]) (by omega) (by omega)
  by_cases o2:x.op = 2
  · rw [o2] at t30
    obtain ⟨fr2,F1,q⟩ := sw46_2 (call fns m) m F t30 h1
    obtain ⟨fr',h',q1,q2,q3⟩ := one_expr m (by omega) hp C F1 (hx.ex (.inr (.inl o2)))
    exact gr (exprErr p t x.expr) ⟨fr',h',B1 _ _ (by rw [q]; exact q1),q2,q3⟩ (by simp [oneE,o2]) (by omega) (by omega)
  by_cases o3:x.op = 3
  · rw [o3] at t30
    obtain ⟨fr2,F1,q⟩ := sw46_3 (call fns m) m F t30 h1
    obtain ⟨fr',h',q1,q2,q3⟩ := one_expr m (by omega) hp C F1 (hx.ex (.inr (.inr (.inl o3))))
    exact gr (exprErr p t x.expr) ⟨fr',h',B1 _ _ (by rw [q]; exact q1),q2,q3⟩ (by simp [oneE,o3]) (by omega) (by omega)
  by_cases o4:x.op = 4
  · rw [o4] at t30
    obtain ⟨fr2,F1,q⟩ := sw46_4 (call fns m) m F t30 h1
    obtain ⟨fr',h',q1,q2,q3⟩ := one_lock m (by omega) hp C F1 (hnm (.inl o4))
    exact gr (lockE p t ar x 4 [4]) ⟨fr',h',B1 _ _ (by rw [q]; exact q1),q2,q3⟩ (by simp [oneE,o4]) (by omega) (by omega)
  by_cases o5:x.op = 5
  · rw [o5] at t30
    obtain ⟨fr2,F1,q⟩ := sw46_5 (call fns m) m F t30 h1
    obtain ⟨fr',h',q1,q2,q3⟩ := one_rw m (by omega) hp C F1 (hnm (.inr (.inl o5)))
    exact gr (lockE p t ar x 5 [5,6]) ⟨fr',h',B1 _ _ (by rw [q]; exact q1),q2,q3⟩ (by simp [oneE,o5]) (by omega) (by omega)
  by_cases o6:x.op = 6
  · rw [o6] at t30
    obtain ⟨fr2,F1,q⟩ := sw46_6 (call fns m) m F t30 h1
    obtain ⟨fr',h',q1,q2,q3⟩ := one_rw m (by omega) hp C F1 (hnm (.inr (.inr o6)))
    exact gr (lockE p t ar x 5 [5,6]) ⟨fr',h',B1 _ _ (by rw [q]; exact q1),q2,q3⟩ (by simp [oneE,o6]) (by omega) (by omega)
  by_cases o7:x.op = 7
  · rw [o7] at t30
    obtain ⟨fr2,F1,q⟩ := sw46_7 (call fns m) m F t30 h1
    obtain ⟨fr',h',q1,q2,q3⟩ := one_tx m (by omega) hp C F1
    exact gr (nst (insideOps ar [7])) ⟨fr',h',B1 _ _ (by rw [q]; exact q1),q2,q3⟩ (by simp [oneE,o7]) (by omega) (by omega)
  by_cases o8:x.op = 8
  · rw [o8] at t30
    obtain ⟨fr2,F1,q⟩ := sw46_8 (call fns m) m F t30 h1
    obtain ⟨fr',h',q1,q2,q3⟩ := one_at m (by omega) hp C F1
    exact gr (nst (insideOps ar [7,8])) ⟨fr',h',B1 _ _ (by rw [q]; exact q1),q2,q3⟩ (by simp [oneE,o8]) (by omega) (by omega)
  by_cases o9:x.op = 9
  · rw [o9] at t30
    obtain ⟨fr2,F1,q⟩ := sw46_9 (call fns m) m F t30 h1
    obtain ⟨fr',h',q1,q2,q3⟩ := one_cond m (by omega) hp C F1 hu
    exact gr (conditionE p t ar x) ⟨fr',h',B1 _ _ (by rw [q]; exact q1),q2,q3⟩ (by simp [oneE,o9]) (by omega) (by omega)
  by_cases o10:x.op = 10
  · rw [o10] at t30
    obtain ⟨fr2,F1,q⟩ := sw46_10 (call fns m) m F t30 h1
    obtain ⟨fr',h',q1,q2,q3⟩ := one_cond m (by omega) hp C F1 hu
    exact gr (conditionE p t ar x) ⟨fr',h',B1 _ _ (by rw [q]; exact q1),q2,q3⟩ (by simp [oneE,o10]) (by omega) (by omega)
  by_cases o11:x.op = 11
  · rw [o11] at t30
    obtain ⟨fr2,F1,q⟩ := sw46_11 (call fns m) m F t30 h1
    obtain ⟨fr',h',q1,q2,q3⟩ := one_cond m (by omega) hp C F1 hu
    exact gr (conditionE p t ar x) ⟨fr',h',B1 _ _ (by rw [q]; exact q1),q2,q3⟩ (by simp [oneE,o11]) (by omega) (by omega)
  by_cases o12:x.op = 12
  · rw [o12] at t30
    obtain ⟨fr2,F1,q⟩ := sw46_12 (call fns m) m F t30 h1
    obtain ⟨fr',h',vs',vt',sp',st',q1,q2,q3,q4,q5⟩ := one_spawn m (by omega) hp C F1 hsl
    refine ⟨vs',vt',sp',st',h',?_,q3,fun hz => ?_,(Step.grow _ g1).trans q5⟩
    · unfold call1
      rw [B1 _ _ (by rw [q]; exact q1)]
      simp [res_46,fz_46,q2,oneE,otherE,o12]
    · have hz' := q4 (Eq.trans (by simp [oneE,otherE,o12]) hz)
      simpa [nextSp,nextSt,o12] using hz'
  by_cases o13:x.op = 13
  · rw [o13] at t30
    obtain ⟨fr2,F1,q⟩ := sw46_13 (call fns m) m F t30 h1
    obtain ⟨fr',h',q1,q2,q3⟩ := one_join m (by omega) hp C F1
    exact gr (orE (K p t x.name [8]) (nst (insideOps ar [7,8] || decide (thAt p x.name = t)))) ⟨fr',h',B1 _ _ (by rw [q]; exact q1),q2,q3⟩ (by simp [oneE,otherE,o13]) (by omega) (by omega)
  by_cases o14:x.op = 14
  · rw [o14] at t30
    obtain ⟨fr2,F1,q⟩ := sw46_14 (call fns m) m F t30 h1
    obtain ⟨fr',h',vs',vt',sp',st',q1,q2,q3,q4,q5⟩ := one_set m (by omega) hp C F1 htl (hx.ex (.inr (.inr (.inr o14))))
    refine ⟨vs',vt',sp',st',h',?_,q3,fun hz => ?_,(Step.grow _ g1).trans q5⟩
    · unfold call1
      rw [B1 _ _ (by rw [q]; exact q1)]
      simp [res_46,fz_46,q2,oneE,o14]
    · have hz' := q4 (Eq.trans (by simp [oneE,o14]) hz)
      simpa [nextSp,nextSt,o14] using hz'
  obtain ⟨fr2,F1,q⟩ := sw46_0 (call fns m) m F t30 h1 o1 o2 o3 o4 o5 o6 o7 o8 o9 o10 o11 o12 o13 o14
  obtain ⟨fr',h',q1,q2,q3⟩ := one_get m (by omega) hp C F1
  exact gr (getE p t ar x) ⟨fr',h',B2 _ _ _ _ q q1,q2,q3⟩ (by simp [oneE,o1,o2,o3,o4,o5,o6,o7,o8,o9,o10,o11,o12,o13,o14]) (by omega) (by omega)
def q23_4:IC := (rT 4 [mq 0 16 1,mq 1 17 6,oq 2 18 (.iad 11 (.t 16) (.t 17)),lq 3 19 11 true 18,oq 4 7 (.alloc (.agg [.int .i64 0,.int .i64 0,.str [],.str [],.sl true [],.int .i64 0,.int .i64 0,.str [],.sl true [],.sl true [],.sl true []])),sq 5 11 7 (.t 19)] ma18)
def q23_5:IC := (rF 5 [mq 0 20 0,lq 1 21 11 true 7,cq 2 22 46 [.t 20,.t 21],mq 3 8 22] ma18)
def q23_6:IC := (.seq (rF 6 [mq 0 23 0,nq 1 24 23,fq 2 25 24 3,lq 3 26 1 false 25,zq 4 27 false 26,bq 5 28 .add (.t 27) (ic 1),bq 6 29 .gtr (.t 28) (ic 6)] ma18) (.cond (.t 29) (rF 7 [oq 0 8 (.mv (ic 2))] ma18) .skip))
def q23_8:IC := (.seq (rF 8 [mq 0 30 8,bq 1 31 .neq (.t 30) (ic 0)] ma18) (.cond (.t 31) (.seq (rF 9 [mq 0 32 8,fq 1 33 7 1,lq 2 34 1 false 33,mq 3 4 32,mq 4 5 34] ma18) .ret) .skip))
def q23_10:IC := (.reg 10 true [mq 0 35 0,nq 1 36 35,fq 2 37 36 3,lq 3 38 1 false 37,lq 4 39 11 true 7,zq 5 40 false 38,oq 6 41 (.bslF 11 (.agg [.int .i64 0,.int .i64 0,.str [],.str [],.sl true [],.int .i64 0,.int .i64 0,.str [],.sl true [],.sl true [],.sl true []]) 1 [(0,.c (.agg [.int .i64 0,.int .i64 0,.str [],.str [],.sl true [],.int .i64 0,.int .i64 0,.str [],.sl true [],.sl true [],.sl true []]))]),oq 7 42 (.app 11 (.t 38) (.t 41)),oq 8 43 (.iad 11 (.t 42) (.t 40)),sq 9 11 43 (.t 39),nq 10 44 35,fq 11 45 44 3,sq 12 1 45 (.t 42)] [(true,9,12)] ma18)
def q23_11:IC := (rF 11 [mq 0 47 0,fq 1 48 7 9,lq 2 49 1 false 48,cq 3 50 23 [.t 47,.t 49],mq 4 46 50,xq 5 51 46 0,xq 6 52 46 1,mq 7 8 51,mq 8 9 52] ma18)
def q23_12:IC := (.seq (rF 12 [mq 0 53 8,bq 1 54 .eql (.t 53) (ic 0)] ma18) (.cond (.t 54) (rF 13 [mq 0 56 0,fq 1 57 7 10,lq 2 58 1 false 57,cq 3 59 23 [.t 56,.t 58],mq 4 55 59,xq 5 60 55 0,xq 6 61 55 1,mq 7 8 60,mq 8 9 61] ma18) .skip))
def q23_14:IC := (rF 14 [mq 0 62 0,mq 1 63 0,nq 2 64 63,fq 3 65 64 3,lq 4 66 1 false 65,mq 5 67 0,nq 6 68 67,fq 7 69 68 3,lq 8 70 1 false 69,zq 9 71 false 70,bq 10 72 .sub (.t 71) (ic 1),oq 11 73 (.slc 11 (.t 66) none (some (.t 72))),nq 12 74 62,fq 13 75 74 3,sq 14 1 75 (.t 73)] ma18)
def q23_15:IC := (.seq (rF 15 [mq 0 76 8,bq 1 77 .neq (.t 76) (ic 0)] ma18) (.cond (.t 77) (.seq (rF 16 [mq 0 78 8,mq 1 79 9,mq 2 4 78,mq 3 5 79] ma18) .ret) .skip))
def q23_A:IC := (.seq (rF 2 [mq 0 10 6,mq 1 11 1,zq 2 12 false 11,bq 3 13 .lss (.t 10) (.t 12)] ma18) (.cond (.t 13) .skip (.exit 0)))
def q23_D:IC := (rF 3 [mq 0 14 6,bq 1 15 .add (.t 14) (ic 1),mq 2 6 15] ma18)
theorem shape_23:b23_0 = .seq q23_A (.seq (.block 1 (.seq q23_4 (.seq q23_5 (.seq q23_6 (.seq q23_8 (.seq q23_10 (.seq q23_11 (.seq q23_12 (.seq q23_14 q23_15))))))))) q23_D) := rfl
structure F23 (w:Nat) (lv:V) (i:Nat) (fr:Fr):Prop where
  t0:Fr.get fr 0 = some (.ptr w 0 0)
  t1:Fr.get fr 1 = some lv
  t6:Fr.get fr 6 = some (.int .i64 i)
theorem headA23 (cf:CallF) (m w:Nat) (f:Bool) (l:List Stmt) (i:Nat) (hi:i < l.length) (fr:Fr) (k:H) (F:F23 w (.sl f (l.map Stmt.v)) i fr):∃ fr',exec cf m q23_A fr k = some (.norm,fr',k) ∧ F23 w (.sl f (l.map Stmt.v)) i fr' := by
  obtain ⟨t0,t1,t6⟩ := F
  have hi':(i:Int) < (l.length:Int) := by omega
  simp [q23_A,t0,t1,t6,hi']
  exact ⟨by simp [t0],by simp [t1],by simp [t6]⟩
theorem endD23 (cf:CallF) (m w:Nat) (lv:V) (i:Nat) (hi:i < 2 ^ 31) (fr:Fr) (k:H) (F:F23 w lv i fr):∃ fr',exec cf m q23_D fr k = some (.norm,fr',k) ∧ F23 w lv (i + 1) fr' := by
  obtain ⟨t0,t1,t6⟩ := F
  have hw:wrp .i64 ((i:Int) + 1) = (i:Int) + 1 := wrp_i64 (by omega) (by omega)
  simp [q23_D,t0,t1,t6,hw]
  exact ⟨by simp [t0],by simp [t1],by simp⟩
theorem first23 (m:Nat) (hm:4294967412 ≤ m) {p:Prog} (hp:p.Small) (hu:p.Uniq) {t:Int} {w:Nat} {va vs vt:V} {ar:List Stmt} {sp st:List (List Nat)} {k:H} (hw:WS p t w va vs vt ar sp st k) (har:ar.length ≤ 6) (hsl:sp.length + 1 < 2 ^ 31) (htl:st.length + 1 < 2 ^ 31)
    (f:Bool) (l:List Stmt) (hl:l.length < 2 ^ 31) (i:Nat) (x:Stmt) (hx:l[i]? = some x) (hfit:x.Fit) (hnm:x.op = 4 ∨ x.op = 5 ∨ x.op = 6 → x.name ≠ []) (fr:Fr) (F:F23 w (.sl f (l.map Stmt.v)) i fr) :
    (ar.length < 6 ∧ oneE p t ar sp st x = 0 ∧ ∃ fr' k' vs' vt',exec (call fns m) m (.seq q23_4 (.seq q23_5 (.seq q23_6 q23_8))) fr k = some (.norm,fr',k') ∧ F23 w (.sl f (l.map Stmt.v)) i fr' ∧ Fr.get fr' 7 = some (.ptr (k.nx * 256 + 4) 0 0) ∧
      k'.get (k.nx * 256 + 4) = some (.row [x.v] 11 .rw) ∧ k.nx * 256 + 4 < k'.nx * 256 ∧ WS p t w va vs' vt' ar (nextSp x sp) (nextSt x st) k' ∧ Step (wS w va vs vt) (wS w va vs' vt') k k' ∧ k.nx * 256 + 4 ∉ wS w va vs' vt') ∨
    ((¬ ar.length < 6 ∨ oneE p t ar sp st x ≠ 0) ∧ ∃ fr' k' vs' vt' sp' st',exec (call fns m) m (.seq q23_4 (.seq q23_5 (.seq q23_6 q23_8))) fr k = some (.ret,fr',k') ∧ Fr.get fr' 4 = some (.int .i64 (if ar.length < 6 then oneE p t ar sp st x else 2)) ∧ Fr.get fr' 5 = some (.int .i64 x.line) ∧
      WS p t w va vs' vt' ar sp' st' k' ∧ Step (wS w va vs vt) (wS w va vs' vt') k k') := by
  obtain ⟨t0,t1,t6⟩ := F
  let k0:H := (({ k with nx := k.nx + 1 }:H).set (k.nx * 256 + 4) (.row [zeroS] 11 .rw))
  let k1:H := k0.set (k.nx * 256 + 4) (.row [x.v] 11 .rw)
  have g1:Grow k k1 := (((Grow.refl k).up (k.nx + 1) (by omega)).set (by omega) _).set (by omega) _
  have es:stv k0 11 (.ptr (k.nx * 256 + 4) 0 0) x.v = some k1 := stvS0 (by simp [k0,H.get_set])
  have b1:k1.get (k.nx * 256 + 4) = some (.row [x.v] 11 .rw) := by simp [k1,H.get_set]
  have l1:k.nx * 256 + 4 < k1.nx * 256 := by show _ < (k.nx + 1) * 256; omega
  have w1 := hw.grow g1
  have ed := ld_106 x
  have el := len_106 x
  have ka := ldSa b1
  simp only [k0,zeroS] at es
  obtain ⟨vs',vt',sp',st',k2,e2,w2,q2,s2⟩ := ok_46 m (by omega) hp hu w1 (by omega) hsl htl x hfit hnm
  have b2:k2.get (k.nx * 256 + 4) = some (.row [x.v] 11 .rw) := by
    rw [s2.keep _ l1 (fun hh => by have := hw.ltS _ hh; omega)]; exact b1
  have kl := ldS1 b2
  have l2:k.nx * 256 + 4 < k2.nx * 256 := by have := s2.nx; omega
  have kw := ldW3 w2.r
  have hfresh:k.nx * 256 + 4 ∉ wS w va vs' vt' := fun hh => (s2.ids _ hh).elim (fun h => by have := hw.ltS _ h; omega) (fun h => by have:k1.nx = k.nx + 1 := rfl; omega)
  have har2:(va = .sl true [] ∧ ar = []) ∨ ∃ id,va = .ref id 0 ar.length 11 none := by
    rcases w1.a.form with ⟨h1,h2⟩ | ⟨id,h1⟩
    · exact .inl ⟨h1,by simpa using h2⟩
    · exact .inr ⟨id,by simpa using h1⟩
  have S := (Step.grow _ g1).trans s2
  have hwr:wrp .i64 ((ar.length:Int) + 1) = (ar.length:Int) + 1 := wrp_i64 (by omega) (by omega)
  have hw1:wrp .i64 1 = 1 := by decide
  by_cases h6:ar.length < 6
  · have h6':¬ (6:Int) < (ar.length:Int) + 1 := by omega
    by_cases h0:oneE p t ar sp st x = 0
    · obtain ⟨rfl,rfl⟩ := q2 h0
      rw [h0] at e2
      refine .inl ⟨h6,h0,?_⟩
      rcases har2 with ⟨rfl,rfl⟩ | ⟨ia,rfl⟩
      · simp [q23_4,q23_5,q23_6,q23_8,iadv,stepE,cells_agg,nilv,t0,t1,t6,hx,es,ed,el,ka,kw,e2,hw1]
        exact ⟨_,_,⟨rfl,rfl⟩,⟨by simp [t0],by simp [t1],by simp [t6]⟩,by simp,b2,l2,_,_,w2,S,hfresh⟩
      · simp [q23_4,q23_5,q23_6,q23_8,iadv,stepE,cells_agg,nilv,t0,t1,t6,hx,es,ed,el,ka,kw,e2,h6',hwr]
        exact ⟨_,_,⟨rfl,rfl⟩,⟨by simp [t0],by simp [t1],by simp [t6]⟩,by simp,b2,l2,_,_,w2,S,hfresh⟩
    · refine .inr ⟨.inr h0,?_⟩
      rw [if_pos h6]
      rcases har2 with ⟨rfl,rfl⟩ | ⟨ia,rfl⟩
      · simp [q23_4,q23_5,q23_6,q23_8,iadv,stepE,cells_agg,nilv,t0,t1,t6,hx,es,ed,el,ka,kw,kl,e2,hw1,h0]
        exact ⟨_,_,⟨rfl,rfl⟩,by simp,by simp,_,_,⟨_,_,w2⟩,S⟩
      · simp [q23_4,q23_5,q23_6,q23_8,iadv,stepE,cells_agg,nilv,t0,t1,t6,hx,es,ed,el,ka,kw,kl,e2,h6',hwr,h0]
        exact ⟨_,_,⟨rfl,rfl⟩,by simp,by simp,_,_,⟨_,_,w2⟩,S⟩
  · have h6':(6:Int) < (ar.length:Int) + 1 := by omega
    refine .inr ⟨.inl h6,?_⟩
    rw [if_neg h6]
    rcases har2 with ⟨rfl,rfl⟩ | ⟨ia,rfl⟩
    · simp at h6
    · simp [q23_4,q23_5,q23_6,q23_8,iadv,stepE,cells_agg,nilv,t0,t1,t6,hx,es,ed,el,ka,kw,kl,e2,h6',hwr]
      exact ⟨_,_,⟨rfl,rfl⟩,by simp,by simp,_,_,⟨_,_,w2⟩,S⟩
theorem second23 (m:Nat) {p:Prog} {t:Int} {w:Nat} {va vs vt:V} {ar:List Stmt} {sp st:List (List Nat)} {k:H} (hw:WS p t w va vs vt ar sp st k) (har:ar.length ≤ 6) (lv:V) (i:Nat) (x:Stmt) (fr:Fr) (F:F23 w lv i fr)
    (ix:Nat) (t7:Fr.get fr 7 = some (.ptr ix 0 0)) (hix:k.get ix = some (.row [x.v] 11 .rw)) (lix:ix < k.nx * 256) (hne:ix ∉ wS w va vs vt) :
    ∃ fr' k' va',exec (call fns m) m q23_10 fr k = some (.norm,fr',k') ∧ F23 w lv i fr' ∧ Fr.get fr' 7 = some (.ptr ix 0 0) ∧ k'.get ix = some (.row [x.v] 11 .rw) ∧ ix < k'.nx * 256 ∧ ix ∉ wS w va' vs vt ∧
      WS p t w va' vs vt (ar ++ [x]) sp st k' ∧ Step (wS w va vs vt) (wS w va' vs vt) k k' := by
  obtain ⟨t0,t1,t6⟩ := F
  let h1:H := { k with nx := k.nx + 1 }
  have o1:Own 11 h1 va (ar.map Stmt.v) := hw.a.keep (fun _ _ => rfl) (by show k.nx ≤ k.nx + 1; omega)
  have hf:k.nx * 256 + 7 ∉ ids va := fun hh => by have := hw.a.lt _ hh; omega
  obtain ⟨h3,ea,o2,hnx,keep,hrow⟩ := o1.app zeroS rfl (by omega) (by simp [bound]; omega) (k.nx * 256 + 7) (by show _ < (k.nx + 1) * 256; omega) hf (.sl true [zeroS]) rfl
  have hlt := hw.lt
  have nd := hw.nd
  simp only [wS,List.nodup_cons,List.mem_append,not_or] at nd
  simp only [wS,List.mem_cons,List.mem_append,not_or] at hne
  have hnw:k.nx * 256 + 7 ≠ w := by omega
  let h4:H := h3.set (k.nx * 256 + 7) (.row ((ar.map Stmt.v ++ [zeroS]).set ar.length x.v) 11 .slk)
  have es4:stv h3 11 (.ptr (k.nx * 256 + 7) ar.length 0) x.v = some h4 := stvAt (by decide) hrow (by simp)
  have hset:(ar.map Stmt.v ++ [zeroS]).set ar.length x.v = (ar ++ [x]).map Stmt.v := by
    rw [List.set_append_right _ _ (by simp)]
    simp
  have hgw:h4.get w = some (.row [wrow p t va vs vt] 6 .rw) := by
    simp only [h4]; rw [H.get_set,if_neg (Ne.symm hnw),keep w (Ne.symm hnw) nd.1.1]; exact hw.r
  have es5 := stW3 hgw (k.nx * 256 + 7) 0 (ar.map Stmt.v ++ [zeroS]).length 11 none
  have o4:Own 11 h4 (.ref (k.nx * 256 + 7) 0 (ar ++ [x]).length 11 none) ((ar ++ [x]).map Stmt.v) := by
    refine .inr ⟨k.nx * 256 + 7,(ar ++ [x]).map Stmt.v,by simp,?_,by rw [List.take_length],Nat.le_refl _,?_⟩
    · simp only [h4]; rw [H.get_set,if_pos rfl,hset]
    · show _ < h3.nx * 256; rw [hnx]; show _ < (k.nx + 1) * 256; omega
  have P := hw.put_a h4 (k.nx * 256 + 7) (ar ++ [x]).length (ar ++ [x]) (by omega) (by show _ < h3.nx * 256; rw [hnx]; show _ < (k.nx + 1) * 256; omega) (by show k.nx ≤ h3.nx; rw [hnx]; show k.nx ≤ k.nx + 1; omega) o4 (fun j hj hja => by
    simp only [h4]; rw [H.get_set,if_neg (by omega),keep j (by omega) hja]; rfl)
  have kw:ldv h1 1 false (.ptr w 0 3) = some va := ldW3 (h := h1) hw.r
  have kx:ldv h1 11 true (.ptr ix 0 0) = some x.v := ldSa (h := h1) hix
  let h5:H := h4.set w (.row [wrow p t (.ref (k.nx * 256 + 7) 0 (ar.length + 1) 11 none) vs vt] 6 .rw)
  have h5ix:h5.get ix = some (.row [x.v] 11 .rw) := by
    simp only [h5,h4]
    rw [H.get_set,if_neg hne.1,H.get_set,if_neg (by omega),keep ix (by omega) hne.2.1]; exact hix
  simp only [List.length_append,List.length_map,List.length_cons,List.length_nil,Nat.zero_add] at ea es5
  have es5':stv h4 1 (.ptr w 0 3) (.ref (k.nx * 256 + 7) 0 (ar.length + 1) 11 none) = some h5 := es5
  have h5nx:ix < h5.nx * 256 := by show ix < h3.nx * 256; rw [hnx]; show ix < (k.nx + 1) * 256; omega
  have hfr:ix ∉ wS w (.ref (k.nx * 256 + 7) 0 (ar ++ [x]).length 11 none) vs vt := by
    simp only [wS,ids,List.mem_cons,List.mem_append,List.not_mem_nil,or_false,not_or]
    exact ⟨hne.1,by omega,hne.2.2.1,hne.2.2.2⟩
  obtain ⟨fr',e,f0,f1,f6,f7⟩:∃ fr',exec (call fns m) m q23_10 fr k = some (.norm,fr',h5) ∧ Fr.get fr' 0 = some (.ptr w 0 0) ∧ Fr.get fr' 1 = some lv ∧ Fr.get fr' 6 = some (.int .i64 i) ∧ Fr.get fr' 7 = some (.ptr ix 0 0) := by
    have hn7:¬ (k.nx * 256 + 7 = w) := hnw
    have hll:(ar.length:Int) < (ar.length:Int) + 1 := by omega
    simp only [h1,zeroS] at ea kw kx
    rcases hw.a.form with ⟨rfl,h2⟩ | ⟨id,rfl⟩
    · have har0:ar = [] := by simpa using h2
      subst har0
      simp at ea es4 es5'
      simp [q23_10,iadv,stepE,pairs,fillE,cells_int,cells_str,cells_sl,cells_bool,cells_agg,nilv,t0,t1,t6,t7,kw,kx,ea,es4,es5',Log.push,addrOf,findL,obeq_refl,hn7]
    · simp only [List.length_map] at ea kw
      simp [q23_10,iadv,stepE,pairs,fillE,cells_int,cells_str,cells_sl,cells_bool,cells_agg,nilv,t0,t1,t6,t7,kw,kx,ea,es4,es5',Log.push,addrOf,findL,obeq_refl,hn7,hll]
  exact ⟨fr',h5,.ref (k.nx * 256 + 7) 0 (ar ++ [x]).length 11 none,e,⟨f0,f1,f6⟩,f7,h5ix,h5nx,hfr,by simpa [h5] using P.1,by simpa [h5] using P.2⟩
theorem call23a (cf:CallF) (m:Nat) (w:Nat) (lv:V) (i:Nat) (x:Stmt) (fr:Fr) (k k':H) (F:F23 w lv i fr) (ix:Nat) (t7:Fr.get fr 7 = some (.ptr ix 0 0)) (hix:k.get ix = some (.row [x.v] 11 .rw)) (e ln:Int)
    (hc:cf 23 [.ptr w 0 0,.sl x.fb (x.body.map Stmt.v)] k = some (.tup [.int .i64 e,.int .i64 ln],k')) :
    ∃ fr',exec cf m q23_11 fr k = some (.norm,fr',k') ∧ F23 w lv i fr' ∧ Fr.get fr' 7 = some (.ptr ix 0 0) ∧ Fr.get fr' 8 = some (.int .i64 e) ∧ Fr.get fr' 9 = some (.int .i64 ln) := by
  obtain ⟨t0,t1,t6⟩ := F
  have k9 := ldS9 hix
  simp [q23_11,t0,t1,t6,t7,k9,hc]
  exact ⟨by simp [t0],by simp [t1],by simp [t6]⟩
theorem call23b (cf:CallF) (m:Nat) (w:Nat) (lv:V) (i:Nat) (x:Stmt) (fr:Fr) (k k':H) (F:F23 w lv i fr) (ix:Nat) (t7:Fr.get fr 7 = some (.ptr ix 0 0)) (t8:Fr.get fr 8 = some (.int .i64 0)) (hix:k.get ix = some (.row [x.v] 11 .rw)) (e ln:Int)
    (hc:cf 23 [.ptr w 0 0,.sl x.fe (x.els.map Stmt.v)] k = some (.tup [.int .i64 e,.int .i64 ln],k')) :
    ∃ fr',exec cf m q23_12 fr k = some (.norm,fr',k') ∧ F23 w lv i fr' ∧ Fr.get fr' 8 = some (.int .i64 e) ∧ Fr.get fr' 9 = some (.int .i64 ln) := by
  obtain ⟨t0,t1,t6⟩ := F
  have k10 := ldS10 hix
  simp [q23_12,t0,t1,t6,t7,t8,k10,hc]
  exact ⟨by simp [t0],by simp [t1],by simp [t6]⟩
theorem call23c (cf:CallF) (m:Nat) (w:Nat) (lv:V) (i:Nat) (fr:Fr) (k:H) (F:F23 w lv i fr) (e ln:Int) (he:¬ e = 0) (t8:Fr.get fr 8 = some (.int .i64 e)) (t9:Fr.get fr 9 = some (.int .i64 ln)) :
    ∃ fr',exec cf m q23_12 fr k = some (.norm,fr',k) ∧ F23 w lv i fr' ∧ Fr.get fr' 8 = some (.int .i64 e) ∧ Fr.get fr' 9 = some (.int .i64 ln) := by
  obtain ⟨t0,t1,t6⟩ := F
  simp [q23_12,t0,t1,t6,t8,t9,he]
  exact ⟨by simp [t0],by simp [t1],by simp [t6]⟩
theorem third23 (m:Nat) {p:Prog} {t:Int} {w:Nat} {va vs vt:V} {ar:List Stmt} {x:Stmt} {sp st:List (List Nat)} {k:H} (hw:WS p t w va vs vt (ar ++ [x]) sp st k) (har:ar.length ≤ 6) (lv:V) (i:Nat) (fr:Fr) (F:F23 w lv i fr) (e ln:Int) (t8:Fr.get fr 8 = some (.int .i64 e)) (t9:Fr.get fr 9 = some (.int .i64 ln)) :
    ∃ fr' k' va',exec (call fns m) m q23_14 fr k = some (.norm,fr',k') ∧ F23 w lv i fr' ∧ Fr.get fr' 8 = some (.int .i64 e) ∧ Fr.get fr' 9 = some (.int .i64 ln) ∧ WS p t w va' vs vt ar sp st k' ∧ Step (wS w va vs vt) (wS w va' vs vt) k k' := by
  obtain ⟨t0,t1,t6⟩ := F
  obtain ⟨id,rfl,w',s'⟩ := hw.pop
  have kw := ldW3 hw.r
  have es := stW3 hw.r id 0 ar.length 11 none
  have hw1:wrp .i64 (ar.length:Int) = (ar.length:Int) := wrp_i64 (by omega) (by omega)
  have hle:(ar.length:Int) ≤ (ar.length:Int) + 1 := by omega
  have hle0:0 ≤ (ar.length:Int) := by omega
  obtain ⟨fr',e',f0,f1,f6,f8,f9⟩:∃ fr',exec (call fns m) m q23_14 fr k = some (.norm,fr',k.set w (.row [wrow p t (.ref id 0 ar.length 11 none) vs vt] 6 .rw)) ∧ Fr.get fr' 0 = some (.ptr w 0 0) ∧ Fr.get fr' 1 = some lv ∧ Fr.get fr' 6 = some (.int .i64 i) ∧ Fr.get fr' 8 = some (.int .i64 e) ∧ Fr.get fr' 9 = some (.int .i64 ln) := by
    simp [q23_14,oint,slcv,nilv,t0,t1,t6,t8,t9,kw,es,hw1,hle,hle0]
  exact ⟨fr',_,_,e',⟨f0,f1,f6⟩,f8,f9,w',s'⟩
theorem last23 (cf:CallF) (m:Nat) (w:Nat) (lv:V) (i:Nat) (fr:Fr) (k:H) (F:F23 w lv i fr) (e ln:Int) (t8:Fr.get fr 8 = some (.int .i64 e)) (t9:Fr.get fr 9 = some (.int .i64 ln)) :
    (e = 0 → ∃ fr',exec cf m q23_15 fr k = some (.norm,fr',k) ∧ F23 w lv i fr') ∧
    (e ≠ 0 → ∃ fr',exec cf m q23_15 fr k = some (.ret,fr',k) ∧ Fr.get fr' 4 = some (.int .i64 e) ∧ Fr.get fr' 5 = some (.int .i64 ln)) := by
  obtain ⟨t0,t1,t6⟩ := F
  refine ⟨fun he => ?_,fun he => ?_⟩
  · subst he
    simp [q23_15,t0,t1,t6,t8,t9]
    exact ⟨by simp [t0],by simp [t1],by simp [t6]⟩
  · simp [q23_15,t0,t1,t6,t8,t9,he]

def Says23 (p:Prog) (t:Int) (w n:Nat) (fl:Bool) (l ar:List Stmt) (sp st:List (List Nat)) (va vs vt:V) (h:H):Prop :=
  ∃ va' vs' vt' sp' st' h',call fns n 23 [.ptr w 0 0,.sl fl (l.map Stmt.v)] h = some (.tup [.int .i64 (walkL p t l ar sp st).1,.int .i64 (walkL p t l ar sp st).2.1],h') ∧ WS p t w va' vs' vt' ar sp' st' h' ∧
    ((walkL p t l ar sp st).1 = 0 → sp' = (walkL p t l ar sp st).2.2.1 ∧ st' = (walkL p t l ar sp st).2.2.2) ∧ Step (wS w va vs vt) (wS w va' vs' vt') h h'
structure R23 (p:Prog) (t:Int) (w:Nat) (f:Bool) (l ar:List Stmt) (sp st:List (List Nat)) (S0:List Nat) (h0:H) (i:Nat) (fr:Fr) (k:H):Prop where
  F:F23 w (.sl f (l.map Stmt.v)) i fr
  ex:∃ va vs vt sp' st',WS p t w va vs vt ar sp' st' k ∧ walkL p t l ar sp st = walkL p t (l.drop i) ar sp' st' ∧ sp'.length + Stmt.cntL (l.drop i) ≤ sp.length + Stmt.cntL l ∧ st'.length + Stmt.cntL (l.drop i) ≤ st.length + Stmt.cntL l ∧ Step S0 (wS w va vs vt) h0 k
def Q23 (p:Prog) (t:Int) (w:Nat) (l ar:List Stmt) (sp st:List (List Nat)) (S0:List Nat) (h0:H) (y:X) (fr:Fr) (k:H):Prop :=
  (y = .ret ∧ (walkL p t l ar sp st).1 ≠ 0 ∧ Fr.get fr 4 = some (.int .i64 (walkL p t l ar sp st).1) ∧ Fr.get fr 5 = some (.int .i64 (walkL p t l ar sp st).2.1) ∧ ∃ va vs vt sp' st',WS p t w va vs vt ar sp' st' k ∧ Step S0 (wS w va vs vt) h0 k) ∨
  (y = .brk 0 ∧ (walkL p t l ar sp st).1 = 0 ∧ (walkL p t l ar sp st).2.1 = 0 ∧ ∃ va vs vt,WS p t w va vs vt ar (walkL p t l ar sp st).2.2.1 (walkL p t l ar sp st).2.2.2 k ∧ Step S0 (wS w va vs vt) h0 k)
theorem round23 (m:Nat) (hm:4294967412 ≤ m) {p:Prog} (hp:p.Small) (hu:p.Uniq) {t:Int} {w:Nat} (f:Bool) (l ar:List Stmt) (har:ar.length ≤ 6) (sp st:List (List Nat)) (hsp:sp.length + Stmt.cntL l < 2 ^ 31) (hst:st.length + Stmt.cntL l < 2 ^ 31) (S0:List Nat) (h0:H) (hl:l.length < 2 ^ 31)
    (i:Nat) (x:Stmt) (hx:l[i]? = some x) (hfit:x.Fit)
    (ihb:∀ va vs vt ar sp st h,WS p t w va vs vt ar sp st h → ar.length ≤ 6 → sp.length + Stmt.cntL x.body < 2 ^ 31 → st.length + Stmt.cntL x.body < 2 ^ 31 → Says23 p t w m x.fb x.body ar sp st va vs vt h)
    (ihe:∀ va vs vt ar sp st h,WS p t w va vs vt ar sp st h → ar.length ≤ 6 → sp.length + Stmt.cntL x.els < 2 ^ 31 → st.length + Stmt.cntL x.els < 2 ^ 31 → Says23 p t w m x.fe x.els ar sp st va vs vt h)
    (fr:Fr) (k:H) (hI:R23 p t w f l ar sp st S0 h0 i fr k) :
    (∃ fr' k',exec (call fns m) m b23_0 fr k = some (.norm,fr',k') ∧ R23 p t w f l ar sp st S0 h0 (i + 1) fr' k') ∨ (∃ y fr' k',y ≠ .norm ∧ exec (call fns m) m b23_0 fr k = some (y,fr',k') ∧ Q23 p t w l ar sp st S0 h0 y fr' k') := by
  obtain ⟨F,va,vs,vt,sp',st',hw,hwalk,hl1,hl2,hS⟩ := hI
  have hdr := drop_cons hx
  have hcd := cntL_drop l i x hx
  have hcx := Stmt.cnt_eq x
  rw [hdr,walkL] at hwalk
  have hws := walkS_eq p t x ar sp' st'
  obtain ⟨hil,_⟩ := List.getElem?_eq_some_iff.1 hx
  obtain ⟨frA,eA,FA⟩ := headA23 (call fns m) m w f l i hil fr k F
  rcases first23 m hm hp hu hw har (by omega) (by omega) f l hl i x hx hfit hfit.nm frA FA with h1 | h1
  · obtain ⟨h6,hone,fr1,k1,vs1,vt1,e1,F1,t7,b1,l1,w1,s1,hfr⟩ := h1
    rw [if_pos h6,if_pos hone] at hws
    obtain ⟨fr2,k2,va2,e2,F2,t7,b2,l2,n2',w2,s2⟩ := second23 m w1 har (.sl f (l.map Stmt.v)) i x fr1 F1 (k.nx * 256 + 4) t7 b1 l1 hfr
    have har2:(ar ++ [x]).length ≤ 6 := by simp; omega
    have n1 := nextSp_len x sp'
    have n2 := nextSt_len x st'
    obtain ⟨va3,vs3,vt3,sp3,st3,k3,c3,w3,q3,s3⟩ := ihb va2 vs1 vt1 (ar ++ [x]) (nextSp x sp') (nextSt x st') k2 w2 har2 (by omega) (by omega)
    obtain ⟨fr3,e3,F3,t73,t83,t93⟩ := call23a (call fns m) m w (.sl f (l.map Stmt.v)) i x fr2 k2 k3 F2 (k.nx * 256 + 4) t7 b2 _ _ c3
    have b3:k3.get (k.nx * 256 + 4) = some (.row [x.v] 11 .rw) := by rw [s3.keep _ l2 n2']; exact b2
    -- the run up to q23_12,then the rest
    have pre:∀ y fr' k',y.isBrk = false → (∃ fr12 k12 fr14 k14,exec (call fns m) m q23_12 fr3 k3 = some (.norm,fr12,k12) ∧ exec (call fns m) m q23_14 fr12 k12 = some (.norm,fr14,k14) ∧ exec (call fns m) m q23_15 fr14 k14 = some (y,fr',k')) →
        exec (call fns m) m (.block 1 (.seq q23_4 (.seq q23_5 (.seq q23_6 (.seq q23_8 (.seq q23_10 (.seq q23_11 (.seq q23_12 (.seq q23_14 q23_15))))))))) frA k = some (y,fr',k') := by
      rintro y fr' k' hb ⟨fr12,k12,fr14,k14,r1,r2,r3⟩
      refine exec_blk hb ?_
      rw [seq4_assoc,exec_then e1,exec_then e2,exec_then e3,exec_then r1,exec_then r2]
      exact r3
    by_cases hb0:(walkL p t x.body (ar ++ [x]) (nextSp x sp') (nextSt x st')).1 = 0
    · obtain ⟨rfl,rfl⟩ := q3 hb0
      rw [if_pos hb0] at hws
      rw [hb0] at t83
      have wl := walk_len p t _ x.body (Nat.le_refl _) (ar ++ [x]) (nextSp x sp') (nextSt x st')
      obtain ⟨va4,vs4,vt4,sp4,st4,k4,c4,w4,q4,s4⟩ := ihe va3 vs3 vt3 (ar ++ [x]) _ _ k3 w3 har2 (by omega) (by omega)
      obtain ⟨fr4,e4,F4,t84,t94⟩ := call23b (call fns m) m w (.sl f (l.map Stmt.v)) i x fr3 k3 k4 F3 (k.nx * 256 + 4) t73 t83 b3 _ _ c4
      obtain ⟨fr5,k5,va5,e5,F5,t85,t95,w5,s5⟩ := third23 m w4 har (.sl f (l.map Stmt.v)) i fr4 F4 _ _ t84 t94
      have S5 := ((((hS.trans s1).trans s2).trans s3).trans s4).trans s5
      have L := last23 (call fns m) m w (.sl f (l.map Stmt.v)) i fr5 k5 F5 _ _ t85 t95
      by_cases he0:(walkS p t x ar sp' st').1 = 0
      · rw [if_pos he0] at hwalk
        have he0' := he0
        rw [hws] at he0'
        obtain ⟨rfl,rfl⟩ := q4 he0'
        obtain ⟨fr6,e6,F6⟩ := L.1 he0'
        obtain ⟨fr7,e7,F7⟩ := endD23 (call fns m) m w (.sl f (l.map Stmt.v)) i (by omega) fr6 k5 F6
        refine .inl ⟨fr7,k5,?_,F7,va5,vs4,vt4,_,_,w5,?_,?_,?_,S5⟩
        · rw [shape_23,exec_then eA,exec_then (pre _ _ _ rfl ⟨_,_,_,_,e4,e5,e6⟩)]; exact e7
        · rw [hwalk,hws]
        · have := (walkS_len p t x ar sp' st' he0).1
          rw [hws] at this; omega
        · have := (walkS_len p t x ar sp' st' he0).2
          rw [hws] at this; omega
      · rw [if_neg he0] at hwalk
        have he0' := he0
        rw [hws] at he0'
        obtain ⟨fr6,e6,r1,r2⟩ := L.2 he0'
        refine .inr ⟨.ret,fr6,k5,by simp,?_,.inl ⟨rfl,?_,?_,?_,va5,vs4,vt4,sp4,st4,w5,S5⟩⟩
        · rw [shape_23,exec_then eA]
          exact exec_out (by simp) (pre _ _ _ rfl ⟨_,_,_,_,e4,e5,e6⟩)
        · rw [hwalk]; exact he0
        · rw [hwalk,hws]; exact r1
        · rw [hwalk,hws]; exact r2
    · rw [if_neg hb0] at hws
      have he0:¬ (walkS p t x ar sp' st').1 = 0 := by rw [hws]; exact hb0
      rw [if_neg he0] at hwalk
      obtain ⟨fr4,e4,F4,t84,t94⟩ := call23c (call fns m) m w (.sl f (l.map Stmt.v)) i fr3 k3 F3 _ _ hb0 t83 t93
      obtain ⟨fr5,k5,va5,e5,F5,t85,t95,w5,s5⟩ := third23 m w3 har (.sl f (l.map Stmt.v)) i fr4 F4 _ _ t84 t94
      obtain ⟨fr6,e6,r1,r2⟩ := (last23 (call fns m) m w (.sl f (l.map Stmt.v)) i fr5 k5 F5 _ _ t85 t95).2 hb0
      refine .inr ⟨.ret,fr6,k5,by simp,?_,.inl ⟨rfl,?_,?_,?_,va5,vs3,vt3,sp3,st3,w5,(((hS.trans s1).trans s2).trans s3).trans s5⟩⟩
      · rw [shape_23,exec_then eA]
        exact exec_out (by simp) (pre _ _ _ rfl ⟨_,_,_,_,e4,e5,e6⟩)
      · rw [hwalk]; exact he0
      · rw [hwalk,hws]; exact r1
      · rw [hwalk,hws]; exact r2
  · obtain ⟨hcase,fr1,k1,vs1,vt1,sp1,st1,e1,r1,r2,w1,s1⟩ := h1
    have hws':(walkS p t x ar sp' st').1 = (if ar.length < 6 then oneE p t ar sp' st' x else 2) ∧ (walkS p t x ar sp' st').2.1 = x.line ∧ (walkS p t x ar sp' st').1 ≠ 0 := by
      rw [hws]
      by_cases h6:ar.length < 6
      · have hne:oneE p t ar sp' st' x ≠ 0 := hcase.resolve_left (by omega)
        simp [h6,hne]
      · simp [h6]
    have he0:¬ (walkS p t x ar sp' st').1 = 0 := hws'.2.2
    rw [if_neg he0] at hwalk
    refine .inr ⟨.ret,fr1,k1,by simp,?_,.inl ⟨rfl,?_,?_,?_,va,vs1,vt1,sp1,st1,w1,hS.trans s1⟩⟩
    · rw [shape_23,exec_then eA]
      refine exec_out (by simp) (exec_blk rfl ?_)
      rw [seq4_assoc]
      exact exec_out (by simp) e1
    · rw [hwalk]; exact he0
    · rw [hwalk,hws'.1]; exact r1
    · rw [hwalk,hws'.2.1]; exact r2
theorem ok_23' (p:Prog) (hp:p.Small) (hu:p.Uniq) (t:Int) (w:Nat) (d:Nat):∀ (f:Bool) (l:List Stmt) (_:Stmt.cntL l ≤ d) (_:allL Stmt.Fit l) (n:Nat) (_:4294967420 + d ≤ n) (_:Stmt.cntL l < 2 ^ 31) (va vs vt:V) (ar:List Stmt) (sp st:List (List Nat)) (h:H)
    (_:WS p t w va vs vt ar sp st h) (_:ar.length ≤ 6) (_:sp.length + Stmt.cntL l < 2 ^ 31) (_:st.length + Stmt.cntL l < 2 ^ 31),Says23 p t w n f l ar sp st va vs vt h := by
  induction d with
  | zero =>
    intro f l hd hfit n hn hcl va vs vt ar sp st h hw har hsp hst
    have:l = [] := by have := len_cntL l; cases l <;> simp_all
    subst this
    obtain ⟨m,rfl⟩:∃ m,n = m + 1 := ⟨n - 1,by omega⟩
    obtain ⟨m,rfl⟩:∃ k,m = k + 1 := ⟨m - 1,by omega⟩
    refine ⟨va,vs,vt,sp,st,h,?_,hw,fun _ => ⟨rfl,rfl⟩,Step.refl _ _⟩
    rw [call_succ]
    show call1 (call fns (m + 1)) (m + 1) f23 _ _ = _
    simp [f23,Fr.keep_cons',Fr.keep_nil,b23_0,loopN,walkL]
  | succ d ih =>
    intro f l hd hfit n hn hcl va vs vt ar sp st h hw har hsp hst
    obtain ⟨m,rfl⟩:∃ m,n = m + 1 := ⟨n - 1,by omega⟩
    have hlen := len_cntL l
    have L := loopN_ind (b := exec (call fns m) m b23_0) (n := l.length) (I := R23 p t w f l ar sp st (wS w va vs vt) h) (Q := Q23 p t w l ar sp st (wS w va vs vt) h)
      (fun i fr k hi hI => by
        obtain ⟨x,hx⟩:∃ x,l[i]? = some x := ⟨_,List.getElem?_eq_getElem hi⟩
        have hxf := (allS_eq _ x).1 (allL_at hfit hx)
        have hcm := cnt_mem l i x hx
        have hce := Stmt.cnt_eq x
        exact round23 m (by omega) hp hu f l ar har sp st hsp hst _ h (by omega) i x hx hxf.1
          (fun va vs vt ar sp st h hw har hsp hst => ih x.fb x.body (by omega) hxf.2.1 m (by omega) (by omega) va vs vt ar sp st h hw har hsp hst)
          (fun va vs vt ar sp st h hw har hsp hst => ih x.fe x.els (by omega) hxf.2.2 m (by omega) (by omega) va vs vt ar sp st h hw har hsp hst) fr k hI)
      (fun fr k hI => by
        obtain ⟨⟨t0,t1,t6⟩,va',vs',vt',sp',st',w',hwalk,_,_,s'⟩ := hI
        rw [List.drop_length,walkL] at hwalk
        obtain ⟨fr',e⟩:∃ fr',exec (call fns m) m b23_0 fr k = some (.brk 0,fr',k) := by
          simp [b23_0,t0,t1,t6]
        exact ⟨.brk 0,fr',k,by simp,e,.inr ⟨rfl,by rw [hwalk],by rw [hwalk],va',vs',vt',by rw [hwalk]; exact w',s'⟩⟩)
      l.length 0 (by omega) (by omega) m (by omega)
    obtain ⟨fr3,e3,i3⟩:∃ fr3,exec (call fns m) m (.seq s23_0 p23_1) (enter 0 [.ptr w 0 0,.sl f (l.map Stmt.v)]) h = some (.norm,fr3,h) ∧ F23 w (.sl f (l.map Stmt.v)) 0 fr3 := by
      simp [s23_0,p23_1,Fr.keep_cons',Fr.keep_nil]
      exact ⟨by simp,by simp,by simp⟩
    obtain ⟨y,fr4,h4,e4,q⟩ := L fr3 h ⟨i3,va,vs,vt,sp,st,hw,by simp,by simp,by simp,Step.refl _ _⟩
    rcases q with ⟨rfl,q1,q2,q3,va',vs',vt',sp',st',w',s'⟩ | ⟨rfl,q1,q2,va',vs',vt',w',s'⟩
    · refine ⟨va',vs',vt',sp',st',h4,?_,w',fun h0 => absurd h0 q1,s'⟩
      rw [call_succ]
      show call1 (call fns m) m f23 _ _ = _
      obtain ⟨f1,k1,e31,e32⟩ := exec_seq_norm e3
      have q:exec (call fns m) m f23.body (enter 0 [.ptr w 0 0,.sl f (l.map Stmt.v)]) h = some (.ret,fr4,h4) := by
        rw [body_23,seg_23_1,exec_then e31,exec_assoc,exec_then e32]
        exact exec_out (by simp) (exec_bret e4)
      unfold call1
      rw [q]
      simp [res_23,fz_23,q2,q3]
    · refine ⟨va',vs',vt',_,_,h4,?_,w',fun _ => ⟨rfl,rfl⟩,s'⟩
      rw [call_succ]
      show call1 (call fns m) m f23 _ _ = _
      have q:exec (call fns m) m f23.body (enter 0 [.ptr w 0 0,.sl f (l.map Stmt.v)]) h = exec (call fns m) m (.seq s23_2 s23_3) fr4 h4 := by
        rw [body_23,seg_23_1]
        exact glue2 e3 (exec_brk e4)
      unfold call1
      rw [q]
      simp [s23_2,s23_3,iadv,ldv,cut,mk,V.cells,q1,q2,res_23,fz_23]
end Go.Proofs.Ytakahhnlbciicaa.Cl
