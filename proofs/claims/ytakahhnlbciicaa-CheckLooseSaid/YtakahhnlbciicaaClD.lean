/-
  What the functions answer, in the evaluator's form. By an AI agent; no person has read it.
-/
import Derived.Test.YtakahhnlbciicaaClC
set_option linter.unusedSimpArgs false
set_option linter.unusedVariables false
set_option linter.unusedSectionVars false
namespace Go.Proofs.Ytakahhnlbciicaa.Cl
open Go Go.Proofs.Ytakahhnlbciicaa.Ai
set_option maxRecDepth 100000
set_option maxHeartbeats 4000000
def q15_A0:IC := (rF 8 [bq 0 24 .lss (.t 23) (.t 22)] ma10)
def q15_A1:IC := (.cond (.t 24) .skip (.exit 2))
def q15_9:IC := (rT 9 [oq 0 25 (.iad 4 (.t 21) (.t 23)),lq 1 26 4 true 25,oq 2 6 (.alloc (.agg [.str [],.int .i64 0,.sl true [],.sl true []])),sq 3 4 6 (.t 26)] ma10)
def q15_10:IC := (.seq (rF 10 [fq 0 27 6 0,lq 1 28 1 false 27,cq 2 29 29 [.t 28],oq 3 30 (.un .not (.t 29)),mq 4 31 30,⟨5,some 32,.fad (.t 6) 3,(some (31,false))⟩,⟨6,some 33,.ld 1 false (.t 32),(some (31,false))⟩,⟨7,some 34,.call 30 [.t 33],(some (31,false))⟩,⟨8,some 35,.un .not (.t 34),(some (31,false))⟩,oq 9 36 (.pick (.t 31) (.c (.bool true)) (.t 35))] ma10) (.cond (.t 36) (.seq (rF 11 [oq 0 2 (.mv (.c (.bool false)))] ma10) .ret) .skip))
def q15_12:IC := (rF 12 [fq 0 37 6 2,lq 1 38 1 false 37,zq 2 39 false 38,oq 3 40 (.mv (ic 0))] ma10)
def q15_D:IC := (rF 18 [bq 0 48 .add (.t 23) (ic 1),mq 1 23 48] ma10)
theorem shape_15:b15_1 = .seq q15_A0 (.seq q15_A1 (.seq (.block 3 (.seq q15_9 (.seq q15_10 (.seq q15_12 (.block 4 (.loop b15_0)))))) q15_D)) := rfl
def q20_A:IC := (.seq (rF 7 [mq 0 21 4,fq 1 22 1 1,lq 2 23 1 false 22,zq 3 24 false 23,bq 4 25 .lss (.t 21) (.t 24)] ma15) (.cond (.t 25) .skip (.exit 2)))
def q20_9:IC := (rT 9 [fq 0 28 1 1,lq 1 29 1 false 28,mq 2 30 4,oq 3 31 (.iad 4 (.t 29) (.t 30)),lq 4 32 4 true 31,oq 5 5 (.alloc (.agg [.str [],.int .i64 0,.sl true [],.sl true []])),sq 6 4 5 (.t 32)] ma15)
def q20_10:IC := (rF 10 [oq 0 6 (.mv (ic 0))] ma15)
def q20_15:IC := (.seq (rF 15 [fq 0 47 5 0,lq 1 48 1 false 47,cq 2 49 41 [.t 48],oq 3 50 (.un .not (.t 49)),mq 4 51 50,⟨5,some 52,.fad (.t 5) 3,(some (51,false))⟩,⟨6,some 53,.ld 1 false (.t 52),(some (51,false))⟩,⟨7,some 54,.call 42 [.t 53],(some (51,false))⟩,⟨8,some 55,.un .not (.t 54),(some (51,false))⟩,oq 9 56 (.pick (.t 51) (.c (.bool true)) (.t 55))] ma15) (.cond (.t 56) (.seq (rF 16 [oq 0 2 (.mv (.c (.bool false)))] ma15) .ret) .skip))
def q20_D:IC := (rF 8 [mq 0 26 4,bq 1 27 .add (.t 26) (ic 1),mq 2 4 27] ma15)
theorem shape_20:b20_1 = .seq q20_A (.seq (.block 3 (.seq q20_9 (.seq (.seq q20_10 (.block 4 (.loop b20_0))) q20_15))) q20_D) := rfl
structure D15 (p:Prog) (i1:Nat) (h0:H) (i:Nat) (fr:Fr) (k:H):Prop where
  gr:Grow h0 k
  t1:Fr.get fr 1 = some (.ptr i1 0 0)
  t10:Fr.get fr 10 = some (.sl p.fd (p.decls.map Decl.v))
  t11:Fr.get fr 11 = some (.int .i64 p.decls.length)
  t12:Fr.get fr 12 = some (.int .i64 i)
theorem roundD15 (m:Nat) (p:Prog) (hm:2 ^ 31 + 40 ≤ m) (hp:p.Shaped) (i1:Nat) (h:H) (h1:h.get i1 = some (.row [p.v] 2 .rw)) (hl1:i1 < h.nx * 256) (i:Nat) (hi:i < p.decls.length) (fr:Fr) (k:H) (hI:D15 p i1 h i fr k) :
    ∃ fr' k',exec (call fns m) m b15_2 fr k = some (.norm,fr',k') ∧ D15 p i1 h (i + 1) fr' k' := by
  obtain ⟨gr,t1,t10,t11,t12⟩ := hI
  obtain ⟨d,hd⟩:∃ d,p.decls[i]? = some d := ⟨_,List.getElem?_eq_getElem hi⟩
  have hi':(i:Int) < (p.decls.length:Int) := by omega
  have hpd := hp.sm.d
  have hwi:wrp .i64 ((i:Int) + 1) = (i:Int) + 1 := wrp_i64 (by omega) (by omega)
  have ed := ld_33 d
  have el := len_33 d
  let k0:H := (({ k with nx := k.nx + 1 }:H).set (k.nx * 256 + 2) (.row [.agg [.int .i64 0,.int .i64 0,.str [],.int .i64 0,.int .i64 0,.str []]] 6 .rw))
  let k1:H := k0.set (k.nx * 256 + 2) (.row [d.v] 6 .rw)
  have g1:Grow k k1 := (((Grow.refl k).up (k.nx + 1) (by omega)).set (by omega) _).set (by omega) _
  have es:stv k0 6 (.ptr (k.nx * 256 + 2) 0 0) d.v = some k1 := stvD (by simp [k0,H.get_set])
  have hk1:k1.get (k.nx * 256 + 2) = some (.row [d.v] 6 .rw) := by simp [k1,H.get_set]
  have ka:ldv k1 6 true (.ptr (k.nx * 256 + 2) 0 0) = some d.v := by simp [ldv,hk1,Decl.v,V.cells,cut,mk]
  simp only [k0] at es
  obtain ⟨k2,e2,g2⟩ := ok_28 m (by omega) d (hp.ds d (List.mem_of_getElem? hd)) k1
  simp [b15_2,iadv,stepE,cells_agg,t1,t10,t11,t12,hi',hd,ed,el,es,ka,e2,hwi]
  exact ⟨_,_,⟨rfl,rfl⟩,gr.trans (g1.trans g2),by simp [t1],by simp [t10],by simp [t11],by simp⟩
structure D20 (p:Prog) (i1:Nat) (h0:H) (i:Nat) (fr:Fr) (k:H):Prop where
  gr:Grow h0 k
  t1:Fr.get fr 1 = some (.ptr i1 0 0)
  t3:Fr.get fr 3 = some (.int .i64 i)
theorem roundD20 (m:Nat) (p:Prog) (hm:2 ^ 31 + 40 ≤ m) (hp:p.Shaped) (i1:Nat) (h:H) (h1:h.get i1 = some (.row [p.v] 2 .rw)) (hl1:i1 < h.nx * 256) (i:Nat) (hi:i < p.decls.length) (fr:Fr) (k:H) (hI:D20 p i1 h i fr k) :
    ∃ fr' k',exec (call fns m) m b20_2 fr k = some (.norm,fr',k') ∧ D20 p i1 h (i + 1) fr' k' := by
  obtain ⟨gr,t1,t3⟩ := hI
  obtain ⟨d,hd⟩:∃ d,p.decls[i]? = some d := ⟨_,List.getElem?_eq_getElem hi⟩
  have hi':(i:Int) < (p.decls.length:Int) := by omega
  have hpd := hp.sm.d
  have hwi:wrp .i64 ((i:Int) + 1) = (i:Int) + 1 := wrp_i64 (by omega) (by omega)
  have ed := ld_33 d
  have el := len_33 d
  have kd := ldPd (gget gr hl1 h1)
  obtain ⟨k2,e2,g2⟩ := ok_40 m (by omega) d (hp.ds d (List.mem_of_getElem? hd)) k
  simp [b20_2,iadv,stepE,cells_agg,t1,t3,hi',hd,ed,el,kd,e2,hwi]
  exact ⟨_,_,⟨rfl,rfl⟩,gr.trans g2,by simp [t1],by simp⟩
structure O15 (p:Prog) (i1 i:Nat) (fr:Fr):Prop where
  t1:Fr.get fr 1 = some (.ptr i1 0 0)
  t21:Fr.get fr 21 = some (.sl p.ft (p.threads.map Thread.v))
  t22:Fr.get fr 22 = some (.int .i64 p.threads.length)
  t23:Fr.get fr 23 = some (.int .i64 i)
structure N15 (p:Prog) (i1 i:Nat) (x:Thread) (h:H) (j:Nat) (fr:Fr) (k:H):Prop where
  gr:Grow h k
  o:O15 p i1 i fr
  t38:Fr.get fr 38 = some (.sl x.fl (x.locals.map .str))
  t39:Fr.get fr 39 = some (.int .i64 x.locals.length)
  t40:Fr.get fr 40 = some (.int .i64 j)
theorem innerS15 (m:Nat) (p:Prog) (hm:2 ^ 31 + 40 ≤ m) (i1:Nat) (h:H) (i:Nat) (x:Thread) (hx:x.Shaped) (fr:Fr) (hI:N15 p i1 i x h 0 fr h) :
    ∃ fr' k',exec (call fns m) m (.block 4 (.loop b15_0)) fr h = some (.norm,fr',k') ∧ Grow h k' ∧ O15 p i1 i fr' := by
  have hll := hx.ll
  have L := loopN_ind (b := exec (call fns m) m b15_0) (n := x.locals.length) (I := N15 p i1 i x h) (Q := fun y fr' k' => y = .brk 4 ∧ Grow h k' ∧ O15 p i1 i fr')
    (fun j fr k hj hI => by
      obtain ⟨gr,⟨t1,t21,t22,t23⟩,t38,t39,t40⟩ := hI
      obtain ⟨s,hs⟩:∃ s,x.locals[j]? = some s := ⟨_,List.getElem?_eq_getElem hj⟩
      have hj':(j:Int) < (x.locals.length:Int) := by omega
      have hwj:wrp .i64 ((j:Int) + 1) = (j:Int) + 1 := wrp_i64 (by omega) (by omega)
      have lds:∀ h,ldv h 1 false (.vptr [V.str s]) = some (.str s) := fun h => by simp [ldv,V.cells,cut,mk]
      obtain ⟨k2,e2,g2⟩ := E29 m (by omega) s (hx.lc s (List.mem_of_getElem? hs)) k
      refine .inl ?_
      simp [b15_0,iadv,cells_str,t1,t21,t22,t23,t38,t39,t40,hj',hs,lds,e2,hwj]
      exact ⟨_,_,⟨rfl,rfl⟩,gr.trans g2,⟨by simp [t1],by simp [t21],by simp [t22],by simp [t23]⟩,by simp [t38],by simp [t39],by simp⟩)
    (fun fr k hI => by
      obtain ⟨gr,⟨t1,t21,t22,t23⟩,t38,t39,t40⟩ := hI
      refine ⟨.brk 4,?_⟩
      simp [b15_0,t1,t21,t22,t23,t38,t39,t40]
      exact ⟨_,_,⟨rfl,rfl⟩,gr,⟨by simp [t1],by simp [t21],by simp [t22],by simp [t23]⟩⟩)
    x.locals.length 0 (by omega) (by omega) m (by omega)
  obtain ⟨y,fr',k',e,rfl,q⟩ := L fr h hI
  exact ⟨fr',k',exec_brk e,q⟩
structure O20 (p:Prog) (i1 i:Nat) (fr:Fr):Prop where
  t1:Fr.get fr 1 = some (.ptr i1 0 0)
  t4:Fr.get fr 4 = some (.int .i64 i)
structure N20 (p:Prog) (i1 i:Nat) (x:Thread) (id:Nat) (h:H) (j:Nat) (fr:Fr) (k:H):Prop where
  gr:Grow h k
  o:O20 p i1 i fr
  t5:Fr.get fr 5 = some (.ptr id 0 0)
  t6:Fr.get fr 6 = some (.int .i64 j)
theorem innerS20 (m:Nat) (p:Prog) (hm:2 ^ 31 + 40 ≤ m) (i1:Nat) (h:H) (i:Nat) (x:Thread) (hx:x.Shaped) (id:Nat) (hb:h.get id = some (.row [x.v] 4 .rw)) (hid:id < h.nx * 256) (fr:Fr) (hI:N20 p i1 i x id h 0 fr h) :
    ∃ fr' k',exec (call fns m) m (.block 4 (.loop b20_0)) fr h = some (.norm,fr',k') ∧ Grow h k' ∧ O20 p i1 i fr' ∧ Fr.get fr' 5 = some (.ptr id 0 0) := by
  have hll := hx.ll
  have L := loopN_ind (b := exec (call fns m) m b20_0) (n := x.locals.length) (I := N20 p i1 i x id h) (Q := fun y fr' k' => y = .brk 4 ∧ Grow h k' ∧ O20 p i1 i fr' ∧ Fr.get fr' 5 = some (.ptr id 0 0))
    (fun j fr k hj hI => by
      obtain ⟨gr,⟨t1,t4⟩,t5,t6⟩ := hI
      obtain ⟨s,hs⟩:∃ s,x.locals[j]? = some s := ⟨_,List.getElem?_eq_getElem hj⟩
      have hj':(j:Int) < (x.locals.length:Int) := by omega
      have hwj:wrp .i64 ((j:Int) + 1) = (j:Int) + 1 := wrp_i64 (by omega) (by omega)
      have lds:∀ h,ldv h 1 false (.vptr [V.str s]) = some (.str s) := fun h => by simp [ldv,V.cells,cut,mk]
      have kl := ldT2 (gget gr hid hb)
      have e2 := E41 m (by omega) s (hx.lc s (List.mem_of_getElem? hs)) k
      refine .inl ?_
      simp [b20_0,iadv,cells_str,t1,t4,t5,t6,hj',hs,lds,kl,e2,hwj]
      exact ⟨_,_,⟨rfl,rfl⟩,gr,⟨by simp [t1],by simp [t4]⟩,by simp [t5],by simp⟩)
    (fun fr k hI => by
      obtain ⟨gr,⟨t1,t4⟩,t5,t6⟩ := hI
      have kl := ldT2 (gget gr hid hb)
      refine ⟨.brk 4,?_⟩
      simp [b20_0,t1,t4,t5,t6,kl]
      exact ⟨_,_,⟨rfl,rfl⟩,gr,⟨by simp [t1],by simp [t4]⟩,by simp [t5]⟩)
    x.locals.length 0 (by omega) (by omega) m (by omega)
  obtain ⟨y,fr',k',e,rfl,q⟩ := L fr h hI
  exact ⟨fr',k',exec_brk e,q⟩
structure T15 (p:Prog) (i1:Nat) (h:H) (i:Nat) (fr:Fr) (k:H):Prop where
  gr:Grow h k
  o:O15 p i1 i fr
structure T20 (p:Prog) (i1:Nat) (h:H) (i:Nat) (fr:Fr) (k:H):Prop where
  gr:Grow h k
  o:O20 p i1 i fr
theorem roundT15 (m:Nat) (p:Prog) (hm:8589934592 ≤ m) (hp:p.Shaped) (i1:Nat) (h:H) (i:Nat) (hi:i < p.threads.length) (fr:Fr) (k:H) (hI:T15 p i1 h i fr k) :
    ∃ fr' k',exec (call fns m) m b15_1 fr k = some (.norm,fr',k') ∧ T15 p i1 h (i + 1) fr' k' := by
  obtain ⟨gr,⟨t1,t21,t22,t23⟩⟩ := hI
  obtain ⟨x,hx⟩:∃ x,p.threads[i]? = some x := ⟨_,List.getElem?_eq_getElem hi⟩
  have hxs := hp.ts x (List.mem_of_getElem? hx)
  have hi':(i:Int) < (p.threads.length:Int) := by omega
  have hpt := hp.sm.t
  have hsz := hxs.sz
  have hwi:wrp .i64 ((i:Int) + 1) = (i:Int) + 1 := wrp_i64 (by omega) (by omega)
  let k0:H := (({ k with nx := k.nx + 1 }:H).set (k.nx * 256 + 2) (.row [.agg [.str [],.int .i64 0,.sl true [],.sl true []]] 4 .rw))
  let k1:H := k0.set (k.nx * 256 + 2) (.row [x.v] 4 .rw)
  have g1:Grow k k1 := (((Grow.refl k).up (k.nx + 1) (by omega)).set (by omega) _).set (by omega) _
  have es:stv k0 4 (.ptr (k.nx * 256 + 2) 0 0) x.v = some k1 := stvT (by simp [k0,H.get_set])
  have b1:k1.get (k.nx * 256 + 2) = some (.row [x.v] 4 .rw) := by simp [k1,H.get_set]
  have l1:k.nx * 256 + 2 < k1.nx * 256 := by show _ < (k.nx + 1) * 256; omega
  have ed := ld_55 x
  have el := len_55 x
  have n1 := ldT0 b1
  obtain ⟨k2,e2,g2⟩ := E29 m (by omega) x.name hxs.nm k1
  have b2 := gget g2 l1 b1
  have n2 := ldT3 b2
  obtain ⟨k3,e3,g3⟩ := ok_30' (Stmt.cntL x.body) x.fb x.body (Nat.le_refl _) hxs.bd m (by omega) (by omega) k2
  have b3 := gget g3 (by have := g2.1; omega) b2
  have n3 := ldT2 b3
  simp only [k0] at es
  obtain ⟨fr1,e10,N⟩:∃ fr1,exec (call fns m) m (.seq q15_A0 (.seq q15_A1 (.seq q15_9 (.seq q15_10 q15_12)))) fr k = some (.norm,fr1,k3) ∧ N15 p i1 i x k3 0 fr1 k3 := by
    simp [q15_A0,q15_A1,q15_9,q15_10,q15_12,iadv,stepE,cells_agg,t1,t21,t22,t23,hi',hx,es,ed,el,n1,n2,n3,e2,e3]
    exact ⟨Grow.refl _,⟨by simp [t1],by simp [t21],by simp [t22],by simp [t23]⟩,by simp,by simp,by simp⟩
  obtain ⟨fr2,k4,eI,g4,⟨t1,t21,t22,t23⟩⟩ := innerS15 m p (by omega) i1 k3 i x hxs fr1 N
  obtain ⟨fr3,eD,O3⟩:∃ fr3,exec (call fns m) m q15_D fr2 k4 = some (.norm,fr3,k4) ∧ O15 p i1 (i + 1) fr3 := by
    simp [q15_D,t1,t21,t22,t23,hwi]
    exact ⟨by simp [t1],by simp [t21],by simp [t22],by simp⟩
  obtain ⟨_,_,eA0,e10⟩ := exec_seq_norm e10
  obtain ⟨_,_,eA1,e10⟩ := exec_seq_norm e10
  obtain ⟨_,_,e9,e10⟩ := exec_seq_norm e10
  obtain ⟨_,_,e10,e12⟩ := exec_seq_norm e10
  refine ⟨fr3,k4,?_,gr.trans (((g1.trans g2).trans g3).trans g4),O3⟩
  rw [shape_15,exec_then eA0,exec_then eA1]
  rw [exec_then (exec_blk (x := .norm) rfl (by rw [exec_then e9,exec_then e10,exec_then e12]; exact eI))]
  exact eD
theorem roundT20 (m:Nat) (p:Prog) (hm:8589934592 ≤ m) (hp:p.Shaped) (i1:Nat) (h:H) (h1:h.get i1 = some (.row [p.v] 2 .rw)) (hl1:i1 < h.nx * 256) (i:Nat) (hi:i < p.threads.length) (fr:Fr) (k:H) (hI:T20 p i1 h i fr k) :
    ∃ fr' k',exec (call fns m) m b20_1 fr k = some (.norm,fr',k') ∧ T20 p i1 h (i + 1) fr' k' := by
  obtain ⟨gr,⟨t1,t4⟩⟩ := hI
  obtain ⟨x,hx⟩:∃ x,p.threads[i]? = some x := ⟨_,List.getElem?_eq_getElem hi⟩
  have hxs := hp.ts x (List.mem_of_getElem? hx)
  have hi':(i:Int) < (p.threads.length:Int) := by omega
  have hpt := hp.sm.t
  have hsz := hxs.sz
  have hwi:wrp .i64 ((i:Int) + 1) = (i:Int) + 1 := wrp_i64 (by omega) (by omega)
  have kt := ldPt (gget gr hl1 h1)
  let q1:H := { k with nx := k.nx + 1 }
  have gq:Grow k q1 := (Grow.refl k).up (k.nx + 1) (by omega)
  let k0:H := q1.set (k.nx * 256 + 5) (.row [.agg [.str [],.int .i64 0,.sl true [],.sl true []]] 4 .rw)
  let k1:H := k0.set (k.nx * 256 + 5) (.row [x.v] 4 .rw)
  have g1:Grow k k1 := (gq.set (by omega) _).set (by omega) _
  have kt0:ldv q1 1 false (.ptr i1 0 1) = some (.sl p.ft (p.threads.map Thread.v)) := ldPt (gget (gr.trans gq) hl1 h1)
  have es:stv k0 4 (.ptr (k.nx * 256 + 5) 0 0) x.v = some k1 := stvT (by simp [k0,H.get_set])
  have b1:k1.get (k.nx * 256 + 5) = some (.row [x.v] 4 .rw) := by simp [k1,H.get_set]
  have l1:k.nx * 256 + 5 < k1.nx * 256 := by show _ < (k.nx + 1) * 256; omega
  have ed := ld_55 x
  have el := len_55 x
  simp only [k0,q1] at es kt0
  obtain ⟨fr1,e9,N⟩:∃ fr1,exec (call fns m) m (.seq q20_A (.seq q20_9 q20_10)) fr k = some (.norm,fr1,k1) ∧ N20 p i1 i x (k.nx * 256 + 5) k1 0 fr1 k1 := by
    simp [q20_A,q20_9,q20_10,iadv,stepE,cells_agg,t1,t4,hi',hx,es,ed,el,kt,kt0]
    exact ⟨Grow.refl _,⟨by simp [t1],by simp [t4]⟩,by simp,by simp⟩
  obtain ⟨fr2,k2,eI,g2,⟨t1,t4⟩,t5⟩ := innerS20 m p (by omega) i1 k1 i x hxs _ b1 l1 fr1 N
  have b2 := gget g2 l1 b1
  have n2 := ldT0 b2
  have n3 := ldT3 b2
  have e41 := fun h => E41 m (by omega) x.name hxs.nm h
  obtain ⟨k3,e3,g3⟩ := ok_42' (Stmt.cntL x.body) x.fb x.body (Nat.le_refl _) hxs.bd m (by omega) (by omega) k2
  obtain ⟨fr3,eD,t1',t4'⟩:∃ fr3,exec (call fns m) m (.seq q20_15 q20_D) fr2 k2 = some (.norm,fr3,k3) ∧ Fr.get fr3 1 = some (.ptr i1 0 0) ∧ Fr.get fr3 4 = some (.int .i64 ((i + 1:Nat):Int)) := by
    simp [q20_15,q20_D,t1,t4,t5,n2,n3,e41,e3,hwi]
  obtain ⟨_,_,eA,e9⟩ := exec_seq_norm e9
  obtain ⟨_,_,e9,e10⟩ := exec_seq_norm e9
  obtain ⟨_,_,e15,eD⟩ := exec_seq_norm eD
  refine ⟨fr3,k3,?_,gr.trans ((g1.trans g2).trans g3),t1',t4'⟩
  rw [shape_20,exec_then eA]
  rw [exec_then (exec_blk (x := .norm) rfl (by rw [exec_then e9,exec_assoc,exec_then e10,exec_then eI]; exact e15))]
  exact eD
theorem ok_15 (n:Nat) (p:Prog) (hn:8589934600 ≤ n) (hp:p.Shaped) (h:H):∃ h',call fns n 15 [p.v] h = some (.bool true,h') ∧ Grow h h' := by
  obtain ⟨m,rfl⟩:∃ m,n = m + 1 := ⟨n - 1,by omega⟩
  have hpt := hp.sm.t
  have hpd := hp.sm.d
  let h1:H := ({ h with nx := h.nx + 1 }:H).set (h.nx * 256) (.row [p.v] 2 .rw)
  have g1:Grow h h1 := ((Grow.refl h).up (h.nx + 1) (by omega)).set (Nat.le_refl _) _
  have hb1:h1.get (h.nx * 256) = some (.row [p.v] 2 .rw) := by simp [h1,H.get_set]
  have hl1:h.nx * 256 < h1.nx * 256 := by show _ < (h.nx + 1) * 256; omega
  have kd := ldPd hb1
  have hc2:p.v.cells.length = 2 := rfl
  obtain ⟨fr3,e3,A3⟩:∃ fr3,exec (call fns m) m (.seq s15_0 p15_1) (enter 0 [p.v]) h = some (.norm,fr3,h1) ∧ D15 p (h.nx * 256) h1 0 fr3 h1 := by
    simp only [h1] at kd ⊢
    simp [s15_0,p15_1,Fr.keep_cons',Fr.keep_nil,stepE,hc2,kd]
    exact ⟨Grow.refl _,by simp,by simp,by simp,by simp⟩
  have L1 := loopN_ind (b := exec (call fns m) m b15_2) (n := p.decls.length) (I := D15 p (h.nx * 256) h1) (Q := fun y fr' k' => y = .brk 0 ∧ Fr.get fr' 1 = some (.ptr (h.nx * 256) 0 0) ∧ Grow h1 k')
    (fun i fr k hi hI => .inl (roundD15 m p (by omega) hp _ h1 hb1 hl1 i hi fr k hI))
    (fun fr k hI => by
      obtain ⟨gr,t1,t10,t11,t12⟩ := hI
      have kd' := ldPd (gget gr hl1 hb1)
      obtain ⟨fr',e,f1⟩:∃ fr',exec (call fns m) m b15_2 fr k = some (.brk 0,fr',k) ∧ Fr.get fr' 1 = some (.ptr (h.nx * 256) 0 0) := by
        simp [b15_2,t1,t10,t11,t12,kd']
      exact ⟨.brk 0,fr',k,by simp,e,rfl,f1,gr⟩)
    p.decls.length 0 (by omega) (by omega) m (by omega)
  obtain ⟨y,fr4,h4,e4,rfl,f1,g⟩ := L1 fr3 h1 A3
  have hb4 := gget g hl1 hb1
  have hl4:h.nx * 256 < h4.nx * 256 := by have := g.1; omega
  have kt4 := ldPt hb4
  obtain ⟨fr5,e5,O5⟩:∃ fr5,exec (call fns m) m p15_2 fr4 h4 = some (.norm,fr5,h4) ∧ O15 p (h.nx * 256) 0 fr5 := by
    simp [p15_2,f1,kt4]
    exact ⟨by simp [f1],by simp,by simp,by simp⟩
  have L2 := loopN_ind (b := exec (call fns m) m b15_1) (n := p.threads.length) (I := T15 p (h.nx * 256) h4) (Q := fun y fr' k' => y = .brk 2 ∧ Fr.get fr' 1 = some (.ptr (h.nx * 256) 0 0) ∧ Grow h4 k')
    (fun i fr k hi hI => .inl (roundT15 m p (by omega) hp _ h4 i hi fr k hI))
    (fun fr k hI => by
      obtain ⟨gr,⟨t1,t21,t22,t23⟩⟩ := hI
      have kt' := ldPt (gget gr hl4 hb4)
      obtain ⟨fr',e,f1⟩:∃ fr',exec (call fns m) m b15_1 fr k = some (.brk 2,fr',k) ∧ Fr.get fr' 1 = some (.ptr (h.nx * 256) 0 0) := by
        simp [b15_1,t1,t21,t22,t23,kt']
      exact ⟨.brk 2,fr',k,by simp,e,rfl,f1,gr⟩)
    p.threads.length 0 (by omega) (by omega) m (by omega)
  obtain ⟨y,fr6,h6,e6,rfl,f6,g6⟩ := L2 fr5 h4 ⟨Grow.refl _,O5⟩
  obtain ⟨_,_,e31,e32⟩ := exec_seq_norm e3
  have q4:exec (call fns m) m f15.body (enter 0 [p.v]) h = exec (call fns m) m (.seq s15_3 s15_4) fr6 h6 := by
    rw [body_15,seg_15_1,exec_then e31,exec_assoc,exec_then e32,exec_then (exec_brk e4),seg_15_2,exec_assoc,exec_then e5,exec_then (exec_brk e6)]
  refine ⟨h6,?_,(g1.trans g).trans g6⟩
  rw [call_succ]
  show call1 (call fns m) m f15 _ _ = _
  unfold call1
  rw [q4]
  have kt6 := ldPt (gget g6 hl4 hb4)
  have hne:0 < p.threads.length := List.length_pos_iff.2 hp.ne
  simp [s15_3,s15_4,f6,kt6,hne,res_15,fz_15]
theorem ok_20 (n:Nat) (p:Prog) (hn:8589934600 ≤ n) (hp:p.Shaped) (h:H):∃ h',call fns n 20 [p.v] h = some (.bool true,h') ∧ Grow h h' := by
  obtain ⟨m,rfl⟩:∃ m,n = m + 1 := ⟨n - 1,by omega⟩
  have hpt := hp.sm.t
  have hpd := hp.sm.d
  let h1:H := ({ h with nx := h.nx + 1 }:H).set (h.nx * 256) (.row [p.v] 2 .rw)
  have g1:Grow h h1 := ((Grow.refl h).up (h.nx + 1) (by omega)).set (Nat.le_refl _) _
  have hb1:h1.get (h.nx * 256) = some (.row [p.v] 2 .rw) := by simp [h1,H.get_set]
  have hl1:h.nx * 256 < h1.nx * 256 := by show _ < (h.nx + 1) * 256; omega
  have kd := ldPd hb1
  have hc2:p.v.cells.length = 2 := rfl
  obtain ⟨fr3,e3,A3⟩:∃ fr3,exec (call fns m) m (.seq s20_0 p20_1) (enter 0 [p.v]) h = some (.norm,fr3,h1) ∧ D20 p (h.nx * 256) h1 0 fr3 h1 := by
    simp only [h1] at kd ⊢
    simp [s20_0,p20_1,Fr.keep_cons',Fr.keep_nil,stepE,hc2,kd]
    exact ⟨Grow.refl _,by simp,by simp⟩
  have L1 := loopN_ind (b := exec (call fns m) m b20_2) (n := p.decls.length) (I := D20 p (h.nx * 256) h1) (Q := fun y fr' k' => y = .brk 0 ∧ Fr.get fr' 1 = some (.ptr (h.nx * 256) 0 0) ∧ Grow h1 k')
    (fun i fr k hi hI => .inl (roundD20 m p (by omega) hp _ h1 hb1 hl1 i hi fr k hI))
    (fun fr k hI => by
      obtain ⟨gr,t1,t3⟩ := hI
      have kd' := ldPd (gget gr hl1 hb1)
      obtain ⟨fr',e,f1⟩:∃ fr',exec (call fns m) m b20_2 fr k = some (.brk 0,fr',k) ∧ Fr.get fr' 1 = some (.ptr (h.nx * 256) 0 0) := by
        simp [b20_2,t1,t3,kd']
      exact ⟨.brk 0,fr',k,by simp,e,rfl,f1,gr⟩)
    p.decls.length 0 (by omega) (by omega) m (by omega)
  obtain ⟨y,fr4,h4,e4,rfl,f1,g⟩ := L1 fr3 h1 A3
  have hb4 := gget g hl1 hb1
  have hl4:h.nx * 256 < h4.nx * 256 := by have := g.1; omega
  have kt4 := ldPt hb4
  obtain ⟨fr5,e5,O5⟩:∃ fr5,exec (call fns m) m p20_2 fr4 h4 = some (.norm,fr5,h4) ∧ O20 p (h.nx * 256) 0 fr5 := by
    simp [p20_2,f1,kt4]
    exact ⟨by simp [f1],by simp⟩
  have L2 := loopN_ind (b := exec (call fns m) m b20_1) (n := p.threads.length) (I := T20 p (h.nx * 256) h4) (Q := fun y fr' k' => y = .brk 2 ∧ Fr.get fr' 1 = some (.ptr (h.nx * 256) 0 0) ∧ Grow h4 k')
    (fun i fr k hi hI => .inl (roundT20 m p (by omega) hp _ h4 hb4 hl4 i hi fr k hI))
    (fun fr k hI => by
      obtain ⟨gr,⟨t1,t4⟩⟩ := hI
      have kt' := ldPt (gget gr hl4 hb4)
      obtain ⟨fr',e,f1⟩:∃ fr',exec (call fns m) m b20_1 fr k = some (.brk 2,fr',k) ∧ Fr.get fr' 1 = some (.ptr (h.nx * 256) 0 0) := by
        simp [b20_1,t1,t4,kt']
      exact ⟨.brk 2,fr',k,by simp,e,rfl,f1,gr⟩)
    p.threads.length 0 (by omega) (by omega) m (by omega)
  obtain ⟨y,fr6,h6,e6,rfl,f6,g6⟩ := L2 fr5 h4 ⟨Grow.refl _,O5⟩
  obtain ⟨_,_,e31,e32⟩ := exec_seq_norm e3
  have q4:exec (call fns m) m f20.body (enter 0 [p.v]) h = exec (call fns m) m (.seq s20_3 s20_4) fr6 h6 := by
    rw [body_20,seg_20_1,exec_then e31,exec_assoc,exec_then e32,exec_then (exec_brk e4),seg_20_2,exec_assoc,exec_then e5,exec_then (exec_brk e6)]
  refine ⟨h6,?_,(g1.trans g).trans g6⟩
  rw [call_succ]
  show call1 (call fns m) m f20 _ _ = _
  unfold call1
  rw [q4]
  have kt6 := ldPt (gget g6 hl4 hb4)
  have hne:0 < p.threads.length := List.length_pos_iff.2 hp.ne
  simp [s20_3,s20_4,f6,kt6,hne,res_20,fz_20]

/-! ### Programs -/
theorem declsE_free (all:List Decl):∀ (r:List Decl) (i:Nat) (c l o f:Int),all.drop i = r → (declsE all r i c l o f).1 = 0 → ∀ (j:Nat) (d:Decl),i ≤ j → all[j]? = some d → (all.take j).any (fun x => x.name == d.name) = false
  | [],i,c,l,o,f,hr,_,j,d,hij,hd => by
    have h1 := (List.getElem?_eq_some_iff.1 hd).1
    have h2 := congrArg List.length hr
    simp at h2
    omega
  | e :: r,i,c,l,o,f,hr,h0,j,d,hij,hd => by
    have he:all[i]? = some e := by
      have := congrArg (fun l => l[0]?) hr
      simpa using this
    have hr':all.drop (i + 1) = r := by
      have := congrArg (fun l => l.drop 1) hr
      simpa [List.drop_drop] using this
    rw [declsE] at h0
    split at h0
    · rename_i hz
      rcases Nat.eq_or_lt_of_le hij with rfl | hlt
      · rw [he] at hd
        cases hd
        unfold declE at hz
        split at hz
        · omega
        · rename_i hb; simpa using hb
      · exact declsE_free all r (i + 1) _ _ _ _ hr' h0 j d hlt hd
    · rename_i hz; exact absurd h0 hz
theorem nodup_of_free (all:List Decl) (h:∀ (j:Nat) (d:Decl),all[j]? = some d → (all.take j).any (fun x => x.name == d.name) = false):(all.map Decl.name).Nodup := by
  unfold List.Nodup
  rw [List.pairwise_iff_getElem]
  intro i j hi hj hij
  simp only [List.length_map] at hi hj
  have := h j all[j] (List.getElem?_eq_getElem hj)
  rw [List.any_eq_false] at this
  have hm:all[i] ∈ all.take j := by
    rw [List.mem_take_iff_getElem]
    exact ⟨i,by omega,rfl⟩
  have := this _ hm
  simpa using this
def declsR (p:Prog):Int × Int := declsE p.decls p.decls 0 0 0 0 0
def programE (p:Prog):Int × Int :=
  if (declsR p).1 = 0 then (if p.threads.length > 4 then (2,0) else if (threadsE p).1 = 0 then (if cntT p.threads > 60 then (2,0) else runT p p.threads 0 [] []) else threadsE p) else declsR p
theorem isName_nil:isName [] = false := by decide
theorem NameOk.ne {s:List Nat} (h:NameOk s):s ≠ [] := by
  rintro rfl
  have := h.nm
  rw [isName_nil] at this
  cases this
theorem Stmt.Own.fit {x:Stmt} (h:x.Own):x.Fit :=
  ⟨fun e he => by
    rcases h.ix with h1 | ⟨_,e',h1,h2⟩
    · rw [h1] at he; simp at he
    · rw [h1] at he; simp at he; subst he; exact h2,
   h.ex,fun ho => (h.nm (by omega) (by omega) (by omega) (by omega)).ne⟩
theorem allL_mono {P Q:Stmt → Prop} (hPQ:∀ x,P x → Q x) (d:Nat):∀ (l:List Stmt),Stmt.cntL l ≤ d → allL P l → allL Q l := by
  induction d with
  | zero =>
    intro l hd _
    have:l = [] := by have := len_cntL l; cases l <;> simp_all
    subst this
    simp [allL]
  | succ d ih =>
    intro l
    induction l with
    | nil => intro _ _; simp [allL]
    | cons s l ihl =>
      intro hd h
      have hc := Stmt.cnt_eq s
      simp only [Stmt.cntL] at hd
      rw [allL] at h ⊢
      obtain ⟨h1,h2,h3⟩ := (allS_eq P s).1 h.1
      exact ⟨(allS_eq Q s).2 ⟨hPQ s h1,ih s.body (by omega) h2,ih s.els (by omega) h3⟩,ihl (by omega) h.2⟩
theorem Prog.Shaped.uniq {p:Prog} (hp:p.Shaped) (h0:(declsR p).1 = 0):p.Uniq :=
  ⟨nodup_of_free _ fun j d hd => declsE_free p.decls p.decls 0 0 0 0 0 (by simp) h0 j d (by omega) hd,fun d hd hk => ((hp.ds d hd).on5 hk).ne⟩
theorem Decl.Shaped.kd {d:Decl} (h:d.Shaped):d.Kd := ⟨h.k1,h.k6,h.sz⟩
theorem Prog.Shaped.fit {p:Prog} (hp:p.Shaped):∀ x,x ∈ p.threads → allL Stmt.Fit x.body := fun x hx => allL_mono (fun _ h => h.fit) _ x.body (Nat.le_refl _) (hp.ts x hx).bd
structure S6 (p:Prog) (i1:Nat) (h:H) (i:Nat) (fr:Fr) (k:H):Prop where
  gr:Grow h k
  t1:Fr.get fr 1 = some (.ptr i1 0 0)
  t37:Fr.get fr 37 = some (.sl p.ft (p.threads.map Thread.v))
  t38:Fr.get fr 38 = some (.int .i64 p.threads.length)
  t39:Fr.get fr 39 = some (.int .i64 i)
  ex:∃ c:Nat,Fr.get fr 8 = some (.int .i64 c) ∧ c + cntT (p.threads.drop i) = cntT p.threads
theorem roundS6 (m:Nat) (p:Prog) (hm:8589934592 ≤ m) (hp:p.Small) (hc:cntT p.threads < 2 ^ 30) (i1:Nat) (h:H) (i:Nat) (hi:i < p.threads.length) (fr:Fr) (k:H) (hI:S6 p i1 h i fr k) :
    ∃ fr' k',exec (call fns m) m b6_0 fr k = some (.norm,fr',k') ∧ S6 p i1 h (i + 1) fr' k' := by
  obtain ⟨gr,t1,t37,t38,t39,c,t8,hsum⟩ := hI
  obtain ⟨x,hx⟩:∃ x,p.threads[i]? = some x := ⟨_,List.getElem?_eq_getElem hi⟩
  have hi':(i:Int) < (p.threads.length:Int) := by omega
  have hpt := hp.t
  have hwi:wrp .i64 ((i:Int) + 1) = (i:Int) + 1 := wrp_i64 (by omega) (by omega)
  have hcd := (cntT_drop p.threads i x hx).2
  let k0:H := (({ k with nx := k.nx + 1 }:H).set (k.nx * 256 + 2) (.row [.agg [.str [],.int .i64 0,.sl true [],.sl true []]] 4 .rw))
  let k1:H := k0.set (k.nx * 256 + 2) (.row [x.v] 4 .rw)
  have g1:Grow k k1 := (((Grow.refl k).up (k.nx + 1) (by omega)).set (by omega) _).set (by omega) _
  have es:stv k0 4 (.ptr (k.nx * 256 + 2) 0 0) x.v = some k1 := stvT (by simp [k0,H.get_set])
  have b1:k1.get (k.nx * 256 + 2) = some (.row [x.v] 4 .rw) := by simp [k1,H.get_set]
  have n3 := ldT3 b1
  have ed := ld_55 x
  have el := len_55 x
  obtain ⟨k2,e2,g2⟩ := ok_18' (Stmt.cntL x.body) x.fb x.body (Nat.le_refl _) m (by omega) (by omega) k1
  have hws:wrp .i64 ((c:Int) + (Stmt.cntL x.body:Int)) = (c:Int) + (Stmt.cntL x.body:Int) := wrp_i64 (by omega) (by omega)
  simp only [k0] at es
  obtain ⟨fr',e,f1,f37,f38,f39,f8⟩:∃ fr',exec (call fns m) m b6_0 fr k = some (.norm,fr',k2) ∧ Fr.get fr' 1 = some (.ptr i1 0 0) ∧ Fr.get fr' 37 = some (.sl p.ft (p.threads.map Thread.v)) ∧ Fr.get fr' 38 = some (.int .i64 p.threads.length) ∧ Fr.get fr' 39 = some (.int .i64 ((i + 1:Nat):Int)) ∧ Fr.get fr' 8 = some (.int .i64 ((c + Stmt.cntL x.body:Nat):Int)) := by
    simp [b6_0,iadv,stepE,cells_agg,t1,t37,t38,t39,t8,hi',hx,es,ed,el,n3,e2,hwi,hws]
  exact ⟨fr',k2,e,gr.trans (g1.trans g2),f1,f37,f38,f39,_,f8,by omega⟩
structure S7 (p:Prog) (i1:Nat) (h:H) (i:Nat) (fr:Fr) (k:H):Prop where
  gr:Grow h k
  t1:Fr.get fr 1 = some (.ptr i1 0 0)
  t9:Fr.get fr 9 = some (.int .i64 i)
  ex:∃ c:Nat,Fr.get fr 8 = some (.int .i64 c) ∧ c + cntT (p.threads.drop i) = cntT p.threads
theorem cellsT (x:Thread):x.v.cells = [.str x.name,.int .i64 x.line,.sl x.fl (x.locals.map .str),.sl x.fb (x.body.map Stmt.v)] := rfl
theorem roundS7 (m:Nat) (p:Prog) (hm:8589934592 ≤ m) (hp:p.Small) (hc:cntT p.threads < 2 ^ 30) (i1:Nat) (h:H) (h1:h.get i1 = some (.row [p.v] 2 .rw)) (hl1:i1 < h.nx * 256) (i:Nat) (hi:i < p.threads.length) (fr:Fr) (k:H) (hI:S7 p i1 h i fr k) :
    ∃ fr' k',exec (call fns m) m b7_1 fr k = some (.norm,fr',k') ∧ S7 p i1 h (i + 1) fr' k' := by
  obtain ⟨gr,t1,t9,c,t8,hsum⟩ := hI
  obtain ⟨x,hx⟩:∃ x,p.threads[i]? = some x := ⟨_,List.getElem?_eq_getElem hi⟩
  have hi':(i:Int) < (p.threads.length:Int) := by omega
  have hpt := hp.t
  have hwi:wrp .i64 ((i:Int) + 1) = (i:Int) + 1 := wrp_i64 (by omega) (by omega)
  have hcd := (cntT_drop p.threads i x hx).2
  have kt := ldPt (gget gr hl1 h1)
  have hcl := cellsT x
  have lds:∀ h,ldv h 1 false (.vptr [V.sl x.fb (x.body.map Stmt.v)]) = some (.sl x.fb (x.body.map Stmt.v)) := fun h => by simp [ldv,V.cells,cut,mk]
  obtain ⟨k2,e2,g2⟩ := ok_10' (Stmt.cntL x.body) x.fb x.body (Nat.le_refl _) m (by omega) (by omega) k
  have hws:wrp .i64 ((c:Int) + (Stmt.cntL x.body:Int)) = (c:Int) + (Stmt.cntL x.body:Int) := wrp_i64 (by omega) (by omega)
  obtain ⟨fr',e,f1,f9,f8⟩:∃ fr',exec (call fns m) m b7_1 fr k = some (.norm,fr',k2) ∧ Fr.get fr' 1 = some (.ptr i1 0 0) ∧ Fr.get fr' 9 = some (.int .i64 ((i + 1:Nat):Int)) ∧ Fr.get fr' 8 = some (.int .i64 ((c + Stmt.cntL x.body:Nat):Int)) := by
    simp [b7_1,iadv,t1,t9,t8,hi',hx,hcl,kt,lds,e2,hwi,hws]
  exact ⟨fr',k2,e,gr.trans g2,f1,f9,_,f8,by omega⟩
structure R7 (p:Prog) (i1 w:Nat) (h:H) (i:Nat) (fr:Fr) (k:H):Prop where
  t1:Fr.get fr 1 = some (.ptr i1 0 0)
  t10:Fr.get fr 10 = some (.ptr w 0 0)
  t11:Fr.get fr 11 = some (.int .i64 i)
  ex:∃ t va vs vt sp st,WS p t w va vs vt [] sp st k ∧ runT p p.threads 0 [] [] = runT p (p.threads.drop i) i sp st ∧ sp.length + cntT (p.threads.drop i) ≤ cntT p.threads ∧ st.length + cntT (p.threads.drop i) ≤ cntT p.threads ∧ Grow h k ∧ (∀ id,id ∈ wS w va vs vt → h.nx * 256 ≤ id)
def Q7 (p:Prog) (h:H) (y:X) (fr:Fr) (k:H):Prop :=
  (y = .ret ∧ Fr.get fr 2 = some (.int .i64 (runT p p.threads 0 [] []).1) ∧ Fr.get fr 3 = some (.int .i64 (runT p p.threads 0 [] []).2) ∧ Grow h k) ∨ (y = .brk 2 ∧ runT p p.threads 0 [] [] = (0,0) ∧ Grow h k)
theorem round7 (m:Nat) (p:Prog) (hp:p.Small) (hu:p.Uniq) (hm:8589934592 ≤ m) (hc:cntT p.threads < 2 ^ 30) (hfit:∀ x,x ∈ p.threads → allL Stmt.Fit x.body) (i1 w:Nat) (h:H) (h1:h.get i1 = some (.row [p.v] 2 .rw)) (hl1:i1 < h.nx * 256) (i:Nat) (hi:i < p.threads.length) (fr:Fr) (k:H) (hI:R7 p i1 w h i fr k) :
    (∃ fr' k',exec (call fns m) m b7_0 fr k = some (.norm,fr',k') ∧ R7 p i1 w h (i + 1) fr' k') ∨ (∃ y fr' k',y ≠ .norm ∧ exec (call fns m) m b7_0 fr k = some (y,fr',k') ∧ Q7 p h y fr' k') := by
  obtain ⟨t1,t10,t11,t,va,vs,vt,sp,st,hw,hrun,hl1',hl2,hg,hids⟩ := hI
  obtain ⟨x,hx⟩:∃ x,p.threads[i]? = some x := ⟨_,List.getElem?_eq_getElem hi⟩
  obtain ⟨hdr,hcd⟩ := cntT_drop p.threads i x hx
  rw [hdr,runT] at hrun
  have hi':(i:Int) < (p.threads.length:Int) := by omega
  have hpt := hp.t
  have hwi:wrp .i64 ((i:Int) + 1) = (i:Int) + 1 := wrp_i64 (by omega) (by omega)
  obtain ⟨es2,w2,s2⟩ := hw.thread (i:Int)
  have kt := ldPt (gget hg hl1 h1)
  obtain ⟨gs2,ids2⟩ := s2.toGrow hg hids
  have kt2 := ldPt (gget gs2 hl1 h1)
  have hcl := cellsT x
  have lds:∀ h,ldv h 1 false (.vptr [V.sl x.fb (x.body.map Stmt.v)]) = some (.sl x.fb (x.body.map Stmt.v)) := fun h => by simp [ldv,V.cells,cut,mk]
  obtain ⟨va',vs',vt',sp',st',h',e23,w3,q3,s3⟩ := ok_23' p hp hu (i:Int) w (Stmt.cntL x.body) x.fb x.body (Nat.le_refl _) (hfit x (List.mem_of_getElem? hx)) m (by omega) (by omega) va vs vt [] sp st _ w2 (by simp) (by omega) (by omega)
  obtain ⟨g',ids'⟩ := s3.toGrow gs2 ids2
  by_cases h0:(walkL p i x.body [] sp st).1 = 0
  · rw [if_pos h0] at hrun
    obtain ⟨rfl,rfl⟩ := q3 h0
    rw [h0] at e23
    have wl := walk_len p i _ x.body (Nat.le_refl _) [] sp st
    refine .inl ?_
    obtain ⟨fr',e,f1,f10,f11⟩:∃ fr',exec (call fns m) m b7_0 fr k = some (.norm,fr',h') ∧ Fr.get fr' 1 = some (.ptr i1 0 0) ∧ Fr.get fr' 10 = some (.ptr w 0 0) ∧ Fr.get fr' 11 = some (.int .i64 ((i + 1:Nat):Int)) := by
      simp [b7_0,iadv,nilv,t1,t10,t11,hi',hx,hcl,es2,kt,kt2,lds,e23,hwi]
    exact ⟨fr',h',e,f1,f10,f11,_,va',vs',vt',_,_,w3,hrun,by omega,by omega,g',ids'⟩
  · rw [if_neg h0] at hrun
    refine .inr ⟨.ret,?_⟩
    obtain ⟨fr',e,f2,f3⟩:∃ fr',exec (call fns m) m b7_0 fr k = some (.ret,fr',h') ∧ Fr.get fr' 2 = some (.int .i64 (walkL p i x.body [] sp st).1) ∧ Fr.get fr' 3 = some (.int .i64 (walkL p i x.body [] sp st).2.1) := by
      simp [b7_0,iadv,nilv,t1,t10,t11,hi',hx,hcl,es2,kt,kt2,lds,e23,hwi,h0]
    exact ⟨fr',h',by simp,e,.inl ⟨rfl,by rw [hrun]; exact f2,by rw [hrun]; exact f3,g'⟩⟩
theorem glue6 {cf:CallF} {k:Nat} {a b c d e f R:IC} {fr fr1:Fr} {h h1:H} (q:exec cf k (.seq a (.seq b (.seq c (.seq d (.seq e f))))) fr h = some (.norm,fr1,h1)):exec cf k (.seq a (.seq b (.seq c (.seq d (.seq e (.seq f R)))))) fr h = exec cf k R fr1 h1 := by
  obtain ⟨_,_,q1,q⟩ := exec_seq_norm q
  obtain ⟨_,_,q2,q⟩ := exec_seq_norm q
  obtain ⟨_,_,q3,q⟩ := exec_seq_norm q
  obtain ⟨_,_,q4,q⟩ := exec_seq_norm q
  obtain ⟨_,_,q5,q⟩ := exec_seq_norm q
  rw [exec_then q1,exec_then q2,exec_then q3,exec_then q4,exec_then q5,exec_then q]
theorem ok_6 (n:Nat) (p:Prog) (hn:8589934700 ≤ n) (hp:p.Shaped) (hc:cntT p.threads < 2 ^ 30) (h:H) :
    ∃ h',call fns n 6 [p.v] h = some (.tup [.int .i64 (programE p).1,.int .i64 (programE p).2],h') ∧ Grow h h' := by
  obtain ⟨m,rfl⟩:∃ m,n = m + 1 := ⟨n - 1,by omega⟩
  have hpt := hp.sm.t
  have hpd := hp.sm.d
  let h1:H := ({ h with nx := h.nx + 1 }:H).set (h.nx * 256) (.row [p.v] 2 .rw)
  have g1:Grow h h1 := ((Grow.refl h).up (h.nx + 1) (by omega)).set (Nat.le_refl _) _
  have b1:h1.get (h.nx * 256) = some (.row [p.v] 2 .rw) := by simp [h1,H.get_set]
  have l1:h.nx * 256 < h1.nx * 256 := by show _ < (h.nx + 1) * 256; omega
  have kp1 := ldPv b1
  have hc2:p.v.cells.length = 2 := rfl
  obtain ⟨h2,e2,g2⟩ := ok_15 m p (by omega) hp h1
  have b2 := gget g2 l1 b1
  have l2:h.nx * 256 < h2.nx * 256 := by have := g2.1; omega
  have kp2 := ldPv b2
  have kd2 := ldPd b2
  obtain ⟨h3,e3,g3⟩ := ok_16 m p (by omega) hp.sm (fun d hd => (hp.ds d hd).kd) h2
  have b3 := gget g3 l2 b2
  have l3:h.nx * 256 < h3.nx * 256 := by have := g3.1; omega
  have kp3 := ldPv b3
  have kt3 := ldPt b3
  obtain ⟨h4,e4,g4⟩ := ok_17 m p (by omega) hp.sm h3
  have b4 := gget g4 l3 b3
  have l4:h.nx * 256 < h4.nx * 256 := by have := g4.1; omega
  have kt4 := ldPt b4
  have G3 := (g1.trans g2).trans g3
  change call fns m 16 _ h2 = some (.tup [.int .i64 (declsR p).1,.int .i64 (declsR p).2],h3) at e3
  rw [call_succ]
  show ∃ h',call1 (call fns m) m f6 _ _ = _ ∧ _
  simp only [h1] at kp1 e2
  by_cases hD:(declsR p).1 = 0
  · by_cases hT:p.threads.length > 4
    · have hE:programE p = (2,0) := by unfold programE; rw [if_pos hD,if_pos hT]
      have hT':(4:Int) < (p.threads.length:Int) := by omega
      refine ⟨h3,?_,G3⟩
      rw [hE]
      simp [f6,Fr.keep_cons',Fr.keep_nil,stepE,hc2,kp1,kp2,kd2,kp3,kt3,e2,e3,hD,hT']
    · have hT':¬ (4:Int) < (p.threads.length:Int) := by omega
      by_cases hR:(threadsE p).1 = 0
      · have hu := hp.uniq hD
        obtain ⟨fr4,e5,f1,f8⟩:∃ fr4,exec (call fns m) m (.seq s6_0 (.seq s6_1 (.seq s6_2 (.seq s6_3 (.seq s6_4 s6_5))))) (enter 0 [p.v]) h = some (.norm,fr4,h4) ∧ Fr.get fr4 1 = some (.ptr (h.nx * 256) 0 0) ∧ Fr.get fr4 8 = some (.int .i64 0) := by
          simp [s6_0,s6_1,s6_2,s6_3,s6_4,s6_5,Fr.keep_cons',Fr.keep_nil,stepE,hc2,kp1,kp2,kd2,kp3,kt3,e2,e3,e4,hD,hT',hR]
        have B:∀ X,exec (call fns m) m (.seq s6_6 X) fr4 h4 = exec (call fns m) m (.seq p6_6 (.seq (.block 0 (.loop b6_0)) X)) fr4 h4 := fun X => by rw [seg_6_6,exec_assoc]
        obtain ⟨fr5,e6,S5⟩:∃ fr5,exec (call fns m) m p6_6 fr4 h4 = some (.norm,fr5,h4) ∧ S6 p (h.nx * 256) h4 0 fr5 h4 := by
          simp [p6_6,f1,f8,kt4]
          exact ⟨Grow.refl _,by simp [f1],by simp,by simp,by simp,0,by simp [f8],by simp⟩
        have L := loopN_ind (b := exec (call fns m) m b6_0) (n := p.threads.length) (I := S6 p (h.nx * 256) h4) (Q := fun y fr' k' => y = .brk 0 ∧ Grow h4 k' ∧ Fr.get fr' 1 = some (.ptr (h.nx * 256) 0 0) ∧ Fr.get fr' 8 = some (.int .i64 (cntT p.threads:Nat)))
          (fun i fr k hi hI => .inl (roundS6 m p (by omega) hp.sm hc _ h4 i hi fr k hI))
          (fun fr k hI => by
            obtain ⟨gr,t1,t37,t38,t39,c,t8,hsum⟩ := hI
            rw [List.drop_length,cntT] at hsum
            have hcc:c = cntT p.threads := by omega
            rw [hcc] at t8
            obtain ⟨fr',e,f1,f8⟩:∃ fr',exec (call fns m) m b6_0 fr k = some (.brk 0,fr',k) ∧ Fr.get fr' 1 = some (.ptr (h.nx * 256) 0 0) ∧ Fr.get fr' 8 = some (.int .i64 (cntT p.threads:Nat)) := by
              simp [b6_0,t1,t37,t38,t39,t8]
            exact ⟨.brk 0,fr',k,by simp,e,rfl,gr,f1,f8⟩)
          p.threads.length 0 (by omega) (by omega) m (by omega)
        obtain ⟨y,fr6,h6,e7,rfl,g6,f1,f8⟩ := L fr5 h4 S5
        have b6 := gget g6 l4 b4
        have kp6 := ldPv b6
        have q4:exec (call fns m) m f6.body (enter 0 [p.v]) h = exec (call fns m) m (.seq s6_7 (.seq s6_8 s6_9)) fr6 h6 := by
          rw [body_6,glue6 e5,B,exec_then e6,exec_then (exec_brk e7)]
        by_cases hN:cntT p.threads > 60
        · have hE:programE p = (2,0) := by unfold programE; rw [if_pos hD,if_neg hT,if_pos hR,if_pos hN]
          have hN':(60:Int) < (cntT p.threads:Int) := by omega
          refine ⟨h6,?_,(G3.trans g4).trans g6⟩
          unfold call1
          rw [q4,hE]
          simp [s6_7,s6_8,s6_9,f1,f8,hN',res_6,fz_6]
        · have hE:programE p = runT p p.threads 0 [] [] := by unfold programE; rw [if_pos hD,if_neg hT,if_pos hR,if_neg hN]
          have hN':¬ (60:Int) < (cntT p.threads:Int) := by omega
          obtain ⟨h7,e8,g7⟩ := ok_19 m p hp.sm (by omega) (by omega) hp.fit h6
          refine ⟨h7,?_,((G3.trans g4).trans g6).trans g7⟩
          unfold call1
          rw [q4,hE]
          simp [s6_7,s6_8,s6_9,f1,f8,hN',kp6,e8,res_6,fz_6]
      · have hE:programE p = threadsE p := by unfold programE; rw [if_pos hD,if_neg hT,if_neg hR]
        refine ⟨h4,?_,G3.trans g4⟩
        rw [hE]
        simp [f6,Fr.keep_cons',Fr.keep_nil,stepE,hc2,kp1,kp2,kd2,kp3,kt3,e2,e3,e4,hD,hT',hR]
  · have hE:programE p = declsR p := by unfold programE; rw [if_neg hD]
    refine ⟨h3,?_,G3⟩
    rw [hE]
    simp [f6,Fr.keep_cons',Fr.keep_nil,stepE,hc2,kp1,kp2,kd2,kp3,kt3,e2,e3,hD]
theorem ok_7 (n:Nat) (p:Prog) (hn:8589934700 ≤ n) (hp:p.Shaped) (hc:cntT p.threads < 2 ^ 30) (h:H) :
    ∃ h',call fns n 7 [p.v] h = some (.tup [.int .i64 (programE p).1,.int .i64 (programE p).2],h') ∧ Grow h h' := by
  obtain ⟨m,rfl⟩:∃ m,n = m + 1 := ⟨n - 1,by omega⟩
  have hpt := hp.sm.t
  have hpd := hp.sm.d
  let h1:H := ({ h with nx := h.nx + 1 }:H).set (h.nx * 256) (.row [p.v] 2 .rw)
  have g1:Grow h h1 := ((Grow.refl h).up (h.nx + 1) (by omega)).set (Nat.le_refl _) _
  have b1:h1.get (h.nx * 256) = some (.row [p.v] 2 .rw) := by simp [h1,H.get_set]
  have l1:h.nx * 256 < h1.nx * 256 := by show _ < (h.nx + 1) * 256; omega
  have kp1 := ldPv b1
  have hc2:p.v.cells.length = 2 := rfl
  obtain ⟨h2,e2,g2⟩ := ok_20 m p (by omega) hp h1
  have b2 := gget g2 l1 b1
  have l2:h.nx * 256 < h2.nx * 256 := by have := g2.1; omega
  have kp2 := ldPv b2
  have kd2 := ldPd b2
  obtain ⟨h3,e3,g3⟩ := ok_21 m p (by omega) hp.sm (fun d hd => (hp.ds d hd).kd) h2
  have b3 := gget g3 l2 b2
  have l3:h.nx * 256 < h3.nx * 256 := by have := g3.1; omega
  have kp3 := ldPv b3
  have kt3 := ldPt b3
  obtain ⟨h4,e4,g4⟩ := ok_22 m p (by omega) hp.sm h3
  have b4 := gget g4 l3 b3
  have l4:h.nx * 256 < h4.nx * 256 := by have := g4.1; omega
  have kt4 := ldPt b4
  have G3 := (g1.trans g2).trans g3
  change call fns m 21 _ h2 = some (.tup [.int .i64 (declsR p).1,.int .i64 (declsR p).2],h3) at e3
  rw [call_succ]
  show ∃ h',call1 (call fns m) m f7 _ _ = _ ∧ _
  simp only [h1] at kp1 e2
  by_cases hD:(declsR p).1 = 0
  · by_cases hT:p.threads.length > 4
    · have hE:programE p = (2,0) := by unfold programE; rw [if_pos hD,if_pos hT]
      have hT':(4:Int) < (p.threads.length:Int) := by omega
      refine ⟨h3,?_,G3⟩
      rw [hE]
      simp [f7,Fr.keep_cons',Fr.keep_nil,stepE,hc2,kp1,kp2,kd2,kp3,kt3,e2,e3,hD,hT']
    · have hT':¬ (4:Int) < (p.threads.length:Int) := by omega
      by_cases hR:(threadsE p).1 = 0
      · have hu := hp.uniq hD
        obtain ⟨fr4,e5,f1,f8⟩:∃ fr4,exec (call fns m) m (.seq s7_0 (.seq s7_1 (.seq s7_2 (.seq s7_3 (.seq s7_4 s7_5))))) (enter 0 [p.v]) h = some (.norm,fr4,h4) ∧ Fr.get fr4 1 = some (.ptr (h.nx * 256) 0 0) ∧ Fr.get fr4 8 = some (.int .i64 0) := by
          simp [s7_0,s7_1,s7_2,s7_3,s7_4,s7_5,Fr.keep_cons',Fr.keep_nil,stepE,hc2,kp1,kp2,kd2,kp3,kt3,e2,e3,e4,hD,hT',hR]
        have B:∀ X,exec (call fns m) m (.seq s7_6 X) fr4 h4 = exec (call fns m) m (.seq p7_6 (.seq (.block 0 (.loop b7_1)) X)) fr4 h4 := fun X => by rw [seg_7_6,exec_assoc]
        obtain ⟨fr5,e6,S5⟩:∃ fr5,exec (call fns m) m p7_6 fr4 h4 = some (.norm,fr5,h4) ∧ S7 p (h.nx * 256) h4 0 fr5 h4 := by
          simp [p7_6,f1,f8]
          exact ⟨Grow.refl _,by simp [f1],by simp,0,by simp [f8],by simp⟩
        have L := loopN_ind (b := exec (call fns m) m b7_1) (n := p.threads.length) (I := S7 p (h.nx * 256) h4) (Q := fun y fr' k' => y = .brk 0 ∧ Grow h4 k' ∧ Fr.get fr' 1 = some (.ptr (h.nx * 256) 0 0) ∧ Fr.get fr' 8 = some (.int .i64 (cntT p.threads:Nat)))
          (fun i fr k hi hI => .inl (roundS7 m p (by omega) hp.sm hc _ h4 b4 l4 i hi fr k hI))
          (fun fr k hI => by
            obtain ⟨gr,t1,t9,c,t8,hsum⟩ := hI
            rw [List.drop_length,cntT] at hsum
            have hcc:c = cntT p.threads := by omega
            rw [hcc] at t8
            have kt' := ldPt (gget gr l4 b4)
            obtain ⟨fr',e,f1,f8⟩:∃ fr',exec (call fns m) m b7_1 fr k = some (.brk 0,fr',k) ∧ Fr.get fr' 1 = some (.ptr (h.nx * 256) 0 0) ∧ Fr.get fr' 8 = some (.int .i64 (cntT p.threads:Nat)) := by
              simp [b7_1,t1,t9,t8,kt']
            exact ⟨.brk 0,fr',k,by simp,e,rfl,gr,f1,f8⟩)
          p.threads.length 0 (by omega) (by omega) m (by omega)
        obtain ⟨y,fr6,h6,e7,rfl,g6,f1,f8⟩ := L fr5 h4 S5
        have b6 := gget g6 l4 b4
        have l6:h.nx * 256 < h6.nx * 256 := by have := g6.1; omega
        have q4:exec (call fns m) m f7.body (enter 0 [p.v]) h = exec (call fns m) m (.seq s7_7 (.seq s7_8 (.seq s7_9 (.seq s7_10 s7_11)))) fr6 h6 := by
          rw [body_7,glue6 e5,B,exec_then e6,exec_then (exec_brk e7)]
        by_cases hN:cntT p.threads > 60
        · have hE:programE p = (2,0) := by unfold programE; rw [if_pos hD,if_neg hT,if_pos hR,if_pos hN]
          have hN':(60:Int) < (cntT p.threads:Int) := by omega
          refine ⟨h6,?_,(G3.trans g4).trans g6⟩
          unfold call1
          rw [q4,hE]
          simp [s7_7,f1,f8,hN',res_7,fz_7]
        · have hE:programE p = runT p p.threads 0 [] [] := by unfold programE; rw [if_pos hD,if_neg hT,if_pos hR,if_neg hN]
          have hN':¬ (60:Int) < (cntT p.threads:Int) := by omega
          let h7:H := ({ h6 with nx := h6.nx + 1 }:H).set (h6.nx * 256 + 2) (.row [wrow p 0 (.sl true []) (.sl true []) (.sl true [])] 6 .rw)
          have g7:Grow h6 h7 := ((Grow.refl h6).up (h6.nx + 1) (by omega)).set (by omega) _
          have w7:WS p 0 (h6.nx * 256 + 2) (.sl true []) (.sl true []) (.sl true []) [] [] [] h7 :=
            ⟨by simp [h7,H.get_set],by show h6.nx * 256 + 2 < (h6.nx + 1) * 256; omega,Own.nil _ _,Own.nil _ _,Own.nil _ _,by simp [wS,ids]⟩
          have kp6:ldv ({ h6 with nx := h6.nx + 1 }:H) 2 true (.ptr (h.nx * 256) 0 0) = some p.v := ldPv (h := ({ h6 with nx := h6.nx + 1 }:H)) b6
          have b7 := gget g7 l6 b6
          have l7:h.nx * 256 < h7.nx * 256 := by have := g7.1; omega
          obtain ⟨fr7,e8,t1,t10,t11⟩:∃ fr7,exec (call fns m) m (.seq s7_7 (.seq s7_8 p7_9)) fr6 h6 = some (.norm,fr7,h7) ∧ Fr.get fr7 1 = some (.ptr (h.nx * 256) 0 0) ∧ Fr.get fr7 10 = some (.ptr (h6.nx * 256 + 2) 0 0) ∧ Fr.get fr7 11 = some (.int .i64 ((0:Nat):Int)) := by
            simp only [h7,wrow,Prog.v] at kp6 ⊢
            simp [s7_7,s7_8,p7_9,stepE,cells_agg,fill,trips,f1,f8,hN',kp6]
          have L2 := loopN_ind (b := exec (call fns m) m b7_0) (n := p.threads.length) (I := R7 p (h.nx * 256) (h6.nx * 256 + 2) h6) (Q := Q7 p h6)
            (fun i fr k hi hI => round7 m p hp.sm hu (by omega) hc hp.fit _ _ h6 b6 l6 i hi fr k hI)
            (fun fr k hI => by
              obtain ⟨t1,t10,t11,t,va,vs,vt,sp,st,hw,hrun,_,_,hg,_⟩ := hI
              rw [List.drop_length,runT] at hrun
              have kt' := ldPt (gget hg l6 b6)
              obtain ⟨fr',e⟩:∃ fr',exec (call fns m) m b7_0 fr k = some (.brk 2,fr',k) := by
                simp [b7_0,t1,t10,t11,kt']
              exact ⟨.brk 2,fr',k,by simp,e,.inr ⟨rfl,hrun,hg⟩⟩)
            p.threads.length 0 (by omega) (by omega) m (by omega)
          obtain ⟨y,fr8,h8,e9,q⟩ := L2 fr7 h7 ⟨t1,t10,t11,0,_,_,_,[],[],w7,by simp,by simp,by simp,g7,fun id hid => by
            simp [wS,ids] at hid
            omega⟩
          obtain ⟨_,_,e81,e82⟩ := exec_seq_norm e8
          obtain ⟨_,_,e83,e84⟩ := exec_seq_norm e82
          rcases q with ⟨rfl,q1,q2,g⟩ | ⟨rfl,q1,g⟩
          · refine ⟨h8,?_,((G3.trans g4).trans g6).trans g⟩
            have q5:exec (call fns m) m (.seq s7_7 (.seq s7_8 (.seq s7_9 (.seq s7_10 s7_11)))) fr6 h6 = some (.ret,fr8,h8) := by
              rw [exec_then e81,exec_then e83,seg_7_9,exec_assoc,exec_then e84]
              exact exec_out (by simp) (exec_bret e9)
            unfold call1
            rw [q4,q5,hE]
            simp [res_7,fz_7,q1,q2]
          · refine ⟨h8,?_,((G3.trans g4).trans g6).trans g⟩
            have q5:exec (call fns m) m (.seq s7_7 (.seq s7_8 (.seq s7_9 (.seq s7_10 s7_11)))) fr6 h6 = exec (call fns m) m (.seq s7_10 s7_11) fr8 h8 := by
              rw [exec_then e81,exec_then e83,seg_7_9,exec_assoc,exec_then e84,exec_then (exec_brk e9)]
            unfold call1
            rw [q4,q5,hE]
            simp [s7_10,s7_11,iadv,ldv,cut,mk,V.cells,q1,res_7,fz_7]
      · have hE:programE p = threadsE p := by unfold programE; rw [if_pos hD,if_neg hT,if_neg hR]
        refine ⟨h4,?_,G3.trans g4⟩
        rw [hE]
        simp [f7,Fr.keep_cons',Fr.keep_nil,stepE,hc2,kp1,kp2,kd2,kp3,kt3,e2,e3,e4,hD,hT',hR]
  · have hE:programE p = declsR p := by unfold programE; rw [if_neg hD]
    refine ⟨h3,?_,G3⟩
    rw [hE]
    simp [f7,Fr.keep_cons',Fr.keep_nil,stepE,hc2,kp1,kp2,kd2,kp3,kt3,e2,e3,hD]

/-! ### Loose programs: the tape,names,expressions -/
structure LS (fl:Bool) (bs:List Int) (M T:Nat) (line left:Int) (h:H):Prop where
  m:h.get M = some (.row [.agg [.ptr T 0 0,.int .i64 line,.int .i64 left]] 3 .rw)
  t:∃ a:Nat,a ≤ bs.length ∧ h.get T = some (.row [.agg [.sl fl (bs.map (V.int .u8)),.int .i64 (a:Int)]] 2 .rw)
  ne:M ≠ T
  lm:M < h.nx * 256
  lt:T < h.nx * 256
  bl:bs.length ≤ 300
  bb:∀ b,b ∈ bs → 0 ≤ b ∧ b < 256
theorem LS.grow {fl:Bool} {bs:List Int} {M T:Nat} {line left:Int} {h k:H} (s:LS fl bs M T line left h) (g:Grow h k):LS fl bs M T line left k := by
  obtain ⟨m,⟨a,ha,t⟩,ne,lm,lt,bl,bb⟩ := s
  have := g.1
  exact ⟨gget g lm m,⟨a,ha,gget g lt t⟩,ne,by omega,by omega,bl,bb⟩
/-- A private row is written. -/
theorem LS.priv {fl:Bool} {bs:List Int} {M T:Nat} {line left:Int} {h:H} (s:LS fl bs M T line left h) (id:Nat) (b:Blk) (h1:id ≠ M) (h2:id ≠ T):LS fl bs M T line left (h.set id b) := by
  obtain ⟨m,⟨a,ha,t⟩,ne,lm,lt,bl,bb⟩ := s
  exact ⟨by rw [H.get_set,if_neg (Ne.symm h1)]; exact m,⟨a,ha,by rw [H.get_set,if_neg (Ne.symm h2)]; exact t⟩,ne,lm,lt,bl,bb⟩
theorem LS.ldT {fl:Bool} {bs:List Int} {M T:Nat} {line left:Int} {h:H} (s:LS fl bs M T line left h):ldv h 1 false (.ptr M 0 0) = some (.ptr T 0 0) := by
  simp [ldv,s.m,V.cells,cut,Ai.mk]
theorem LS.ldL {fl:Bool} {bs:List Int} {M T:Nat} {line left:Int} {h:H} (s:LS fl bs M T line left h):ldv h 1 false (.ptr M 0 1) = some (.int .i64 line) := by
  simp [ldv,s.m,V.cells,cut,Ai.mk]
theorem LS.ldR {fl:Bool} {bs:List Int} {M T:Nat} {line left:Int} {h:H} (s:LS fl bs M T line left h):ldv h 1 false (.ptr M 0 2) = some (.int .i64 left) := by
  simp [ldv,s.m,V.cells,cut,Ai.mk]
theorem LS.stL {fl:Bool} {bs:List Int} {M T:Nat} {line left:Int} {h:H} (s:LS fl bs M T line left h) (n:Int):∃ h',stv h 1 (.ptr M 0 1) (.int .i64 n) = some h' ∧ LS fl bs M T n left h' ∧ Step [M,T] [M,T] h h' ∧ (∀ id,id ≠ M → h'.get id = h.get id) ∧ h'.nx = h.nx := by
  refine ⟨h.set M (.row [.agg [.ptr T 0 0,.int .i64 n,.int .i64 left]] 3 .rw),by simp [stv,s.m,V.cells,one,splice],?_,⟨Nat.le_refl _,fun id h1 h2 => ?_,fun id h1 => .inl h1⟩,fun id h1 => by rw [H.get_set,if_neg h1],rfl⟩
  · obtain ⟨m,⟨a,ha,t⟩,ne,lm,lt,bl,bb⟩ := s
    exact ⟨by rw [H.get_set,if_pos rfl],⟨a,ha,by rw [H.get_set,if_neg (Ne.symm ne)]; exact t⟩,ne,lm,lt,bl,bb⟩
  · simp at h2
    rw [H.get_set,if_neg h2.1]
theorem LS.stR {fl:Bool} {bs:List Int} {M T:Nat} {line left:Int} {h:H} (s:LS fl bs M T line left h) (n:Int):∃ h',stv h 1 (.ptr M 0 2) (.int .i64 n) = some h' ∧ LS fl bs M T line n h' ∧ Step [M,T] [M,T] h h' ∧ (∀ id,id ≠ M → h'.get id = h.get id) ∧ h'.nx = h.nx := by
  refine ⟨h.set M (.row [.agg [.ptr T 0 0,.int .i64 line,.int .i64 n]] 3 .rw),by simp [stv,s.m,V.cells,one,splice],?_,⟨Nat.le_refl _,fun id h1 h2 => ?_,fun id h1 => .inl h1⟩,fun id h1 => by rw [H.get_set,if_neg h1],rfl⟩
  · obtain ⟨m,⟨a,ha,t⟩,ne,lm,lt,bl,bb⟩ := s
    exact ⟨by rw [H.get_set,if_pos rfl],⟨a,ha,by rw [H.get_set,if_neg (Ne.symm ne)]; exact t⟩,ne,lm,lt,bl,bb⟩
  · simp at h2
    rw [H.get_set,if_neg h2.1]
theorem tmod_range {b q:Int} (hb:0 ≤ b) (hq:1 ≤ q):0 ≤ b.tmod q ∧ b.tmod q < q ∧ b.tmod q ≤ b := by
  rw [Int.tmod_eq_emod_of_nonneg hb]
  have h1 := Int.mul_ediv_add_emod b q
  have h2 := Int.mul_nonneg (show 0 ≤ q by omega) (Int.ediv_nonneg hb (show 0 ≤ q by omega))
  exact ⟨Int.emod_nonneg _ (by omega),Int.emod_lt_of_pos _ (by omega),by omega⟩
/-- The next number of the tape. -/
theorem ok_11 (n:Nat) (hn:1 ≤ n) {fl:Bool} {bs:List Int} {M T:Nat} {line left:Int} {h:H} (s:LS fl bs M T line left h) (q:Int) (hq:1 ≤ q) (hq2:q < 2 ^ 31) :
    ∃ (k:Int) (h':H),call fns n 11 [.ptr T 0 0,.int .i64 q] h = some (.int .i64 k,h') ∧ 0 ≤ k ∧ k < q ∧ LS fl bs M T line left h' ∧ Step [M,T] [M,T] h h' ∧ (∀ id,id ≠ T → h'.get id = h.get id) ∧ h'.nx = h.nx := by
  obtain ⟨m,rfl⟩:∃ m,n = m + 1 := ⟨n - 1,by omega⟩
  obtain ⟨hm,⟨a,ha,ht⟩,ne,lm,lt,bl,bb⟩ := s
  have l0:ldv h 1 false (.ptr T 0 0) = some (.sl fl (bs.map (V.int .u8))) := by simp [ldv,ht,V.cells,cut,mk]
  have l1:ldv h 1 false (.ptr T 0 1) = some (.int .i64 (a:Int)) := by simp [ldv,ht,V.cells,cut,mk]
  rw [call_succ]
  show ∃ k h',call1 (call fns m) m f11 _ _ = _ ∧ _
  by_cases hz:bs.length ≤ a
  · have hz':(bs.length:Int) ≤ (a:Int) := by omega
    refine ⟨0,h,?_,by omega,by omega,⟨hm,⟨a,ha,ht⟩,ne,lm,lt,bl,bb⟩,Step.refl _ _,fun _ _ => rfl,rfl⟩
    simp [f11,Fr.keep_cons',Fr.keep_nil,nilv,l0,l1,hz']
  · have hz':¬ (bs.length:Int) ≤ (a:Int) := by omega
    have hq':¬ q < 1 := by omega
    have hq0:¬ q = 0 := by omega
    obtain ⟨b,hb⟩:∃ b,bs[a]? = some b := ⟨_,List.getElem?_eq_getElem (by omega)⟩
    obtain ⟨b0,b1⟩ := bb b (List.mem_of_getElem? hb)
    obtain ⟨r0,r1,r2⟩ := tmod_range b0 hq
    let h':H := h.set T (.row [.agg [.sl fl (bs.map (V.int .u8)),.int .i64 ((a + 1:Nat):Int)]] 2 .rw)
    have hw:wrp .i64 ((a:Int) + 1) = ((a + 1:Nat):Int) := by rw [wrp_i64 (by omega) (by omega)]; rfl
    have hw2:wrp .i64 (a:Int) = (a:Int) := wrp_i64 (by omega) (by omega)
    have hw3:wrp .i64 b = b := wrp_i64 (by omega) (by omega)
    have es:stv h 1 (.ptr T 0 1) (.int .i64 ((a + 1:Nat):Int)) = some h' := by simp [stv,ht,V.cells,one,splice,h']
    have ht':h'.get T = some (.row [.agg [.sl fl (bs.map (V.int .u8)),.int .i64 ((a + 1:Nat):Int)]] 2 .rw) := by simp [h',H.get_set]
    have l0':ldv h' 1 false (.ptr T 0 0) = some (.sl fl (bs.map (V.int .u8))) := by simp [ldv,ht',V.cells,cut,mk]
    have l1':ldv h' 1 false (.ptr T 0 1) = some (.int .i64 ((a + 1:Nat):Int)) := by simp [ldv,ht',V.cells,cut,mk]
    have e1:iadv 1 (.sl fl (bs.map (V.int .u8))) (a:Int) = some (.vptr [.int .u8 b]) := by simp [iadv,hb,V.cells]
    have e2:∀ h,ldv h 1 false (.vptr [V.int .u8 b]) = some (.int .u8 b) := fun h => by simp [ldv,V.cells,cut,mk]
    refine ⟨b.tmod q,h',?_,r0,r1,⟨by rw [H.get_set,if_neg ne]; exact hm,⟨a + 1,by omega,ht'⟩,ne,lm,lt,bl,bb⟩,⟨Nat.le_refl _,fun id h1 h2 => ?_,fun id h1 => .inl h1⟩,fun id h1 => by simp only [h']; rw [H.get_set,if_neg h1],rfl⟩
    · simp only [Int.natCast_add,Int.natCast_one] at es hw l1'
      simp [f11,Fr.keep_cons',Fr.keep_nil,nilv,l0,l1,hz',hq',hq0,hw,es,l0',l1',hw2,e1,e2,hw3]
    · simp at h2
      simp only [h']
      rw [H.get_set,if_neg h2.2]
theorem nameOk_of (s:List Nat) (h:(isName s && (s.all (fun c => decide (c < 128)) && decide (s.length < 1000))) = true):NameOk s := by
  simp only [Bool.and_eq_true,List.all_eq_true,decide_eq_true_eq] at h
  exact ⟨h.1,fun c hc => h.2.1 c hc,h.2.2⟩
def okNames (l:List (List Nat)):Bool := l.all fun s => isName s && (s.all (fun c => decide (c < 128)) && decide (s.length < 1000))
theorem okNames_mem {l:List (List Nat)} (h:okNames l = true):∀ s,s ∈ l → NameOk s := fun s hs => nameOk_of s (List.all_eq_true.1 h s hs)
theorem pick_str (l:List (List Nat)) (k:Int) (h0:0 ≤ k) (h1:k < (l.length:Int)):∃ s,s ∈ l ∧ iadv 1 (.sl true (l.map V.str)) k = some (.vptr [.str s]) ∧ ∀ h,ldv h 1 false (.vptr [V.str s]) = some (.str s) := by
  obtain ⟨s,hs⟩:∃ s,l[k.toNat]? = some s := ⟨_,List.getElem?_eq_getElem (by omega)⟩
  exact ⟨s,List.mem_of_getElem? hs,by simp [iadv,h0,hs,V.cells],fun h => by simp [ldv,V.cells,cut,mk]⟩
theorem pick_int (l:List Int) (k:Int) (h0:0 ≤ k) (h1:k < (l.length:Int)):∃ s,s ∈ l ∧ iadv 1 (.sl true (l.map (V.int .i64))) k = some (.vptr [.int .i64 s]) ∧ ∀ h,ldv h 1 false (.vptr [V.int .i64 s]) = some (.int .i64 s) := by
  obtain ⟨s,hs⟩:∃ s,l[k.toNat]? = some s := ⟨_,List.getElem?_eq_getElem (by omega)⟩
  exact ⟨s,List.mem_of_getElem? hs,by simp [iadv,h0,hs,V.cells],fun h => by simp [ldv,V.cells,cut,mk]⟩
def names9:List (List Nat) := [[120],[113],[97],[109],[114],[99],[102],[116],[122,122]]
def names10:List (List Nat) := [[120],[121],[97],[98],[118],[113],[109],[116],[122,122],[102]]
def names5:List (List Nat) := [[113],[113],[113],[120],[109]]
def nums8:List Int := [0,1,2,3,7,10,100,9223372036854775807]
/-- A name for a statement. -/
theorem ok_48 (n:Nat) (hn:2 ≤ n) {fl:Bool} {bs:List Int} {M T:Nat} {line left:Int} {h:H} (s:LS fl bs M T line left h) (right:List (List Nat)) (hr:okNames right = true) (h1:1 ≤ right.length) (h5:right.length ≤ 5) :
    ∃ (nm:List Nat) (h':H),call fns n 48 [.ptr M 0 0,.sl true (right.map V.str)] h = some (.str nm,h') ∧ NameOk nm ∧ LS fl bs M T line left h' ∧ Step [M,T] [M,T] h h' := by
  obtain ⟨m,rfl⟩:∃ m,n = m + 1 := ⟨n - 1,by omega⟩
  have kt := s.ldT
  obtain ⟨k1,g1,e1,a0,a1,s1,t1,_⟩ := ok_11 m (by omega) s 8 (by omega) (by omega)
  have kt1 := s1.ldT
  rw [call_succ]
  show ∃ nm h',call1 (call fns m) m f48 _ _ = _ ∧ _
  by_cases hk:k1 = 7
  · obtain ⟨k2,g2,e2,b0,b1,s2,t2,_⟩ := ok_11 m (by omega) s1 9 (by omega) (by omega)
    obtain ⟨nm,hnm,e3,e4⟩ := pick_str names9 k2 b0 (by simpa [names9] using b1)
    refine ⟨nm,g2,?_,okNames_mem (l := names9) (by decide) nm hnm,s2,t1.trans t2⟩
    simp only [names9,List.map] at e3
    simp [f48,Fr.keep_cons',Fr.keep_nil,nilv,pairs,fillE,cells_int,cells_str,cells_sl,cells_bool,kt,kt1,e1,hk,e2,e3,e4]
  · obtain ⟨k2,g2,e2,b0,b1,s2,t2,_⟩ := ok_11 m (by omega) s1 (right.length:Int) (by omega) (by omega)
    obtain ⟨nm,hnm,e3,e4⟩ := pick_str right k2 b0 b1
    refine ⟨nm,g2,?_,okNames_mem hr nm hnm,s2,t1.trans t2⟩
    simp [f48,Fr.keep_cons',Fr.keep_nil,nilv,kt,kt1,e1,hk,e2,e3,e4]

def zeroE:V := .agg [.int .i64 0,.int .i64 0,.str [],.sl true []]
theorem mkv (op n:Int) (nm:List Nat) (f:Bool) (l:List Expr):(Expr.mk op n nm f l).v = .agg [.int .i64 op,.int .i64 n,.str nm,.sl f (l.map Expr.v)] := Expr.v_eq _
theorem stvE {h:H} {id:Nat} {e:Expr} (hg:h.get id = some (.row [zeroE] 4 .rw)):stv h 4 (.ptr id 0 0) e.v = some (h.set id (.row [e.v] 4 .rw)) := by
  simp [stv,hg,zeroE,Expr.v_eq,V.cells,one,splice]
theorem ldEv {h:H} {id:Nat} {e:Expr} {kd:Kind} (hg:h.get id = some (.row [e.v] 4 kd)):ldv h 4 true (.ptr id 0 0) = some e.v := by
  simp [ldv,hg,Expr.v_eq,V.cells,cut,mk]
theorem ecells (e:Expr):e.v.cells.length = 4 := by simp [Expr.v_eq,V.cells]
theorem ok_71 (n:Nat) (hn:1 ≤ n) (s:List Nat) (h:H):∃ h',call fns n 71 [.str s] h = some ((Expr.mk 2 0 s true []).v,h') ∧ Grow h h' := by
  obtain ⟨m,rfl⟩:∃ m,n = m + 1 := ⟨n - 1,by omega⟩
  refine ⟨_,?_,(((Grow.refl h).up (h.nx + 1) (by omega)).set (id := h.nx * 256) (Nat.le_refl _) (.row [zeroE] 4 .rw)).set (id := h.nx * 256) (Nat.le_refl _) (.row [(Expr.mk 2 0 s true []).v] 4 .rw)⟩
  rw [call_succ]
  show call1 (call fns m) m f71 _ _ = _
  simp [f71,Fr.keep_cons',Fr.keep_nil,stepE,mkv,zeroE,trips,fill,H.get_set,stv,ldv,cut,mk,V.cells,one,splice]
theorem ok_70 (n:Nat) (hn:1 ≤ n) (op:Int) (a b:Expr) (h:H):∃ h',call fns n 70 [.int .i64 op,a.v,b.v] h = some ((Expr.mk op 0 [] true [a,b]).v,h') ∧ Grow h h' := by
  obtain ⟨m,rfl⟩:∃ m,n = m + 1 := ⟨n - 1,by omega⟩
  let h0:H := { h with nx := h.nx + 1 }
  let h1:H := ((h0.set (h.nx * 256) (.row [a.v] 4 .rw)).set (h.nx * 256 + 1) (.row [b.v] 4 .rw)).set (h.nx * 256 + 2) (.row [zeroE] 4 .rw)
  let h2:H := h1.set (h.nx * 256 + 2) (.row [(Expr.mk op 0 [] true [a,b]).v] 4 .rw)
  have g2:Grow h h2 := (((((Grow.refl h).up (h.nx + 1) (by omega)).set (Nat.le_refl _) _).set (by omega) _).set (by omega) _).set (by omega) _
  have ea:ldv h1 4 true (.ptr (h.nx * 256) 0 0) = some a.v := ldEv (kd := .rw) (by simp [h1,H.get_set])
  have eb:ldv h1 4 true (.ptr (h.nx * 256 + 1) 0 0) = some b.v := ldEv (kd := .rw) (by simp [h1,H.get_set])
  have es:stv h1 4 (.ptr (h.nx * 256 + 2) 0 0) (Expr.mk op 0 [] true [a,b]).v = some h2 := stvE (by simp [h1,H.get_set])
  have er:ldv h2 4 true (.ptr (h.nx * 256 + 2) 0 0) = some (Expr.mk op 0 [] true [a,b]).v := ldEv (kd := .rw) (by simp [h2,H.get_set])
  have ca := ecells a
  have cb := ecells b
  rw [mkv] at es
  simp only [List.map] at es
  refine ⟨h2,?_,g2⟩
  rw [call_succ]
  show call1 (call fns m) m f70 _ _ = _
  simp only [h1,h0,zeroE] at ea eb es
  simp [f70,Fr.keep_cons',Fr.keep_nil,stepE,cells_agg,cells_int,cells_sl,trips,fill,pairs,fillE,ea,eb,es,er,ca,cb]
structure Nice (d:Nat) (e:Expr):Prop where
  sh:e.Shaped
  nd:e.nodes + 1 ≤ 2 ^ (d + 1)
theorem nice_num (d:Nat) (n:Int) (h:n ∈ nums8):Nice d (Expr.mk 1 n [] true []) := by
  have h0:0 ≤ n := by simp [nums8] at h; omega
  refine ⟨.mk _ ⟨rfl,fun q => by simp [Expr.op] at q,fun _ => rfl,h0,fun q => absurd rfl q,fun c hc => by simp [Expr.nm] at hc,by simp [Expr.nm]⟩ (fun x hx => by simp [Expr.l] at hx),?_⟩
  have:1 ≤ 2 ^ d := Nat.one_le_two_pow
  rw [Nat.pow_succ]
  simp only [Expr.nodes,Expr.nodesL]
  omega
theorem nice_name (d:Nat) (s:List Nat) (h:NameOk s):Nice d (Expr.mk 2 0 s true []) := by
  refine ⟨.mk _ ⟨rfl,fun _ => ⟨h.nm,h.ne⟩,fun q => absurd (Or.inl rfl) q,by simp [Expr.num],fun _ => rfl,h.asc,by have := h.short; simp only [Expr.nm]; omega⟩ (fun x hx => by simp [Expr.l] at hx),?_⟩
  have:1 ≤ 2 ^ d := Nat.one_le_two_pow
  rw [Nat.pow_succ]
  simp only [Expr.nodes,Expr.nodesL]
  omega
theorem nice_index (d:Nat) (s:List Nat) (h:NameOk s) (e:Expr) (he:Nice d e):Nice (d + 1) (Expr.mk 3 0 s true [e]) := by
  refine ⟨.mk _ ⟨rfl,fun _ => ⟨h.nm,h.ne⟩,fun q => absurd (Or.inr rfl) q,by simp [Expr.num],fun _ => rfl,h.asc,by have := h.short; simp only [Expr.nm]; omega⟩ (fun x hx => by simp [Expr.l] at hx; rw [hx]; exact he.sh),?_⟩
  have h1 := he.nd
  have:1 ≤ 2 ^ (d + 1) := Nat.one_le_two_pow
  rw [Nat.pow_succ]
  simp only [Expr.nodes,Expr.nodesL]
  omega
theorem nice_one (d:Nat) (k:Int) (h0:0 ≤ k) (h1:k < 2) (e:Expr) (he:Nice d e):Nice (d + 1) (Expr.mk (4 + k) 0 [] true [e]) := by
  refine ⟨.mk _ ⟨?_,fun q => ?_,fun _ => rfl,by simp [Expr.num],fun _ => rfl,fun c hc => by simp [Expr.nm] at hc,by simp [Expr.nm]⟩ (fun x hx => by simp [Expr.l] at hx; rw [hx]; exact he.sh),?_⟩
  · have:k = 0 ∨ k = 1 := by omega
    rcases this with rfl | rfl <;> rfl
  · simp only [Expr.op] at q; omega
  have h1 := he.nd
  have:1 ≤ 2 ^ (d + 1) := Nat.one_le_two_pow
  rw [Nat.pow_succ]
  simp only [Expr.nodes,Expr.nodesL]
  omega
theorem nice_two (d:Nat) (k:Int) (h0:0 ≤ k) (h1:k < 13) (e f:Expr) (he:Nice d e) (hf:Nice d f):Nice (d + 1) (Expr.mk (6 + k) 0 [] true [e,f]) := by
  refine ⟨.mk _ ⟨?_,fun q => ?_,fun _ => rfl,by simp [Expr.num],fun _ => rfl,fun c hc => by simp [Expr.nm] at hc,by simp [Expr.nm]⟩ (fun x hx => by
    simp [Expr.l] at hx
    rcases hx with rfl | rfl
    · exact he.sh
    · exact hf.sh),?_⟩
  · simp only [Expr.op,Expr.l]
    unfold operands
    rw [if_neg (by omega),if_neg (by omega),if_pos (by omega)]
    rfl
  · simp only [Expr.op] at q; omega
  have h1 := he.nd
  have h2 := hf.nd
  rw [Nat.pow_succ]
  simp only [Expr.nodes,Expr.nodesL]
  omega
theorem ok_49' (d:Nat):∀ (n:Nat) (_:10 + d ≤ n) (_:d < 100) {fl:Bool} {bs:List Int} {M T:Nat} {line left:Int} {h:H} (_:LS fl bs M T line left h),
    ∃ (e:Expr) (h':H),call fns n 49 [.ptr M 0 0,.int .i64 (d:Int)] h = some (e.v,h') ∧ Nice d e ∧ LS fl bs M T line left h' ∧ Step [M,T] [M,T] h h' := by
  induction d with
  | zero =>
    intro n hn hd fl bs M T line left h s
    obtain ⟨m,rfl⟩:∃ m,n = m + 1 := ⟨n - 1,by omega⟩
    have s1' := s
    have hlm := s.lm
    have hlt := s.lt
    have hM:h.nx * 256 ≠ M := by omega
    have hT:h.nx * 256 ≠ T := by omega
    have n4:h.nx * 256 ∉ [M,T] := by simp; exact ⟨hM,hT⟩
    let h1:H := ({ h with nx := h.nx + 1 }:H).set (h.nx * 256) (.row [zeroE] 4 .rw)
    have g1:Grow h h1 := ((Grow.refl h).up (h.nx + 1) (by omega)).set (Nat.le_refl _) _
    have b1':h1.get (h.nx * 256) = some (.row [zeroE] 4 .rw) := by simp [h1,H.get_set]
    have l1':h.nx * 256 < h1.nx * 256 := by show _ < (h.nx + 1) * 256; omega
    have s1 := s.grow g1
    obtain ⟨k1,g2,e1,a0,a1,s2,t2,q2,_⟩ := ok_11 m (by omega) s1 20 (by omega) (by omega)
    have k0 := s1.ldT
    have k2' := s2.ldT
    have keep4:∀ {k:H},Step [M,T] [M,T] h1 k → k.get (h.nx * 256) = some (.row [zeroE] 4 .rw) := fun st => by rw [st.keep _ l1' n4]; exact b1'
    have fin4:∀ {k:H} (_:Step [M,T] [M,T] h1 k) (b:Blk),Step [M,T] [M,T] h (k.set (h.nx * 256) b) := fun {k} st b => by
      have st' := (Step.grow [M,T] g1).trans st
      exact ⟨st'.nx,fun id i1 i2 => by rw [H.get_set,if_neg (by omega)]; exact st'.keep id i1 i2,fun id i1 => .inl i1⟩
    simp only [h1,zeroE] at e1 k0
    rw [call_succ]
    show ∃ e h',call1 (call fns m) m f49 _ _ = _ ∧ _
    by_cases c10:k1 < 10
    · obtain ⟨k2,g3,e3,b0,b1,s3,t3,q3,_⟩ := ok_11 m (by omega) s2 8 (by omega) (by omega)
      obtain ⟨v,hv,p1,p2⟩ := pick_int nums8 k2 b0 (by simpa [nums8] using b1)
      have hi4:g3.get (h.nx * 256) = some (.row [zeroE] 4 .rw) := keep4 (t2.trans t3)
      have es := stvE (e := Expr.mk 1 v [] true []) hi4
      have er:ldv (g3.set (h.nx * 256) (.row [(Expr.mk 1 v [] true []).v] 4 .rw)) 4 true (.ptr (h.nx * 256) 0 0) = some (Expr.mk 1 v [] true []).v := ldEv (kd := .rw) (by simp [H.get_set])
      have FL := s3.priv (h.nx * 256) (.row [(Expr.mk 1 v [] true []).v] 4 .rw) hM hT
      have FS := fin4 (t2.trans t3) (.row [(Expr.mk 1 v [] true []).v] 4 .rw)
      obtain ⟨gF,hgF⟩:∃ gF,gF = g3.set (h.nx * 256) (.row [(Expr.mk 1 v [] true []).v] 4 .rw) := ⟨_,rfl⟩
      rw [← hgF] at es er FL FS
      refine ⟨Expr.mk 1 v [] true [],gF,?_,nice_num _ v hv,FL,FS⟩
      rw [mkv] at es
      simp only [List.map] at es
      simp only [nums8,List.map] at p1
      by_cases c4:k1 < 4 <;> simp [f49,Fr.keep_cons',Fr.keep_nil,stepE,nilv,pairs,fillE,cells_int,cells_str,cells_sl,cells_bool,cells_agg,trips,fill,Log.push,addrOf,findL,obeq_refl,k0,k2',e1,c4,c10,e3,p1,p2,es,er]
    · have c4:¬ k1 < 4 := by omega
      have c8:¬ k1 < 8 := by omega
      obtain ⟨k2,g3,e3,b0,b1,s3,t3,q3,_⟩ := ok_11 m (by omega) s2 10 (by omega) (by omega)
      obtain ⟨k3,g4,e4,c0,c1,s4,t4,q4,_⟩ := ok_11 m (by omega) s3 8 (by omega) (by omega)
      have kt3 := s3.ldT
      have wk:wrp .i64 (3 + k3) = 3 + k3 := wrp_i64 (by omega) (by omega)
      obtain ⟨r0,r1,r2⟩ := tmod_range b0 (show 1 ≤ 3 + k3 by omega)
      have hz:¬ (3 + k3 = 0) := by omega
      obtain ⟨nm,hnm,p1,p2⟩ := pick_str names10 (k2.tmod (3 + k3)) r0 (by simp only [names10,List.length_cons,List.length_nil]; omega)
      obtain ⟨g5,e5,g45⟩ := ok_71 m (by omega) nm g4
      have hM3:g3.get M = g2.get M := q3 M s.ne
      have hi4:g5.get (h.nx * 256) = some (.row [zeroE] 4 .rw) := keep4 (t2.trans (t3.trans (t4.trans (Step.grow _ g45))))
      have es := stvE (e := Expr.mk 2 0 nm true []) hi4
      have er:ldv (g5.set (h.nx * 256) (.row [(Expr.mk 2 0 nm true []).v] 4 .rw)) 4 true (.ptr (h.nx * 256) 0 0) = some (Expr.mk 2 0 nm true []).v := ldEv (kd := .rw) (by simp [H.get_set])
      have FL := (s4.grow g45).priv (h.nx * 256) (.row [(Expr.mk 2 0 nm true []).v] 4 .rw) hM hT
      have FS := fin4 (t2.trans (t3.trans (t4.trans (Step.grow _ g45)))) (.row [(Expr.mk 2 0 nm true []).v] 4 .rw)
      obtain ⟨gF,hgF⟩:∃ gF,gF = g5.set (h.nx * 256) (.row [(Expr.mk 2 0 nm true []).v] 4 .rw) := ⟨_,rfl⟩
      rw [← hgF] at es er FL FS
      refine ⟨Expr.mk 2 0 nm true [],gF,?_,nice_name _ nm (okNames_mem (l := names10) (by decide) nm hnm),FL,FS⟩
      simp only [names10,List.map] at p1
      simp [f49,Fr.keep_cons',Fr.keep_nil,stepE,nilv,pairs,fillE,cells_int,cells_str,cells_sl,cells_bool,cells_agg,trips,fill,Log.push,addrOf,findL,obeq_refl,k0,k2',kt3,e1,c4,c8,c10,e3,e4,wk,hz,p1,p2,e5,hM3,es,er]
  | succ d ih =>
    intro n hn hd fl bs M T line left h s
    obtain ⟨m,rfl⟩:∃ m,n = m + 1 := ⟨n - 1,by omega⟩
    have s1' := s
    have hlm := s.lm
    have hlt := s.lt
    have hM:h.nx * 256 ≠ M := by omega
    have hT:h.nx * 256 ≠ T := by omega
    have n4:h.nx * 256 ∉ [M,T] := by simp; exact ⟨hM,hT⟩
    let h1:H := ({ h with nx := h.nx + 1 }:H).set (h.nx * 256) (.row [zeroE] 4 .rw)
    have g1:Grow h h1 := ((Grow.refl h).up (h.nx + 1) (by omega)).set (Nat.le_refl _) _
    have b1':h1.get (h.nx * 256) = some (.row [zeroE] 4 .rw) := by simp [h1,H.get_set]
    have l1':h.nx * 256 < h1.nx * 256 := by show _ < (h.nx + 1) * 256; omega
    have s1 := s.grow g1
    obtain ⟨k1,g2,e1,a0,a1,s2,t2,q2,_⟩ := ok_11 m (by omega) s1 20 (by omega) (by omega)
    have k0 := s1.ldT
    have k2' := s2.ldT
    have keep4:∀ {k:H},Step [M,T] [M,T] h1 k → k.get (h.nx * 256) = some (.row [zeroE] 4 .rw) := fun st => by rw [st.keep _ l1' n4]; exact b1'
    have fin4:∀ {k:H} (_:Step [M,T] [M,T] h1 k) (b:Blk),Step [M,T] [M,T] h (k.set (h.nx * 256) b) := fun {k} st b => by
      have st' := (Step.grow [M,T] g1).trans st
      exact ⟨st'.nx,fun id i1 i2 => by rw [H.get_set,if_neg (by omega)]; exact st'.keep id i1 i2,fun id i1 => .inl i1⟩
    simp only [h1,zeroE] at e1 k0
    have d0:¬ ((d:Int) + 1 = 0) := by omega
    have dw:wrp .i64 ((d:Int) + 1 - 1) = (d:Int) := by rw [wrp_i64 (by omega) (by omega)]; omega
    have dw':wrp .i64 (d:Int) = (d:Int) := wrp_i64 (by omega) (by omega)
    rw [call_succ]
    show ∃ e h',call1 (call fns m) m f49 _ _ = _ ∧ _
    by_cases c4:k1 < 4
    · obtain ⟨k2,g3,e3,b0,b1,s3,t3,q3,_⟩ := ok_11 m (by omega) s2 8 (by omega) (by omega)
      obtain ⟨v,hv,p1,p2⟩ := pick_int nums8 k2 b0 (by simpa [nums8] using b1)
      have hi4:g3.get (h.nx * 256) = some (.row [zeroE] 4 .rw) := keep4 (t2.trans t3)
      have es := stvE (e := Expr.mk 1 v [] true []) hi4
      have er:ldv (g3.set (h.nx * 256) (.row [(Expr.mk 1 v [] true []).v] 4 .rw)) 4 true (.ptr (h.nx * 256) 0 0) = some (Expr.mk 1 v [] true []).v := ldEv (kd := .rw) (by simp [H.get_set])
      have FL := s3.priv (h.nx * 256) (.row [(Expr.mk 1 v [] true []).v] 4 .rw) hM hT
      have FS := fin4 (t2.trans t3) (.row [(Expr.mk 1 v [] true []).v] 4 .rw)
      obtain ⟨gF,hgF⟩:∃ gF,gF = g3.set (h.nx * 256) (.row [(Expr.mk 1 v [] true []).v] 4 .rw) := ⟨_,rfl⟩
      rw [← hgF] at es er FL FS
      refine ⟨Expr.mk 1 v [] true [],gF,?_,nice_num _ v hv,FL,FS⟩
      rw [mkv] at es
      simp only [List.map] at es
      simp only [nums8,List.map] at p1
      simp [f49,Fr.keep_cons',Fr.keep_nil,stepE,nilv,pairs,fillE,cells_int,cells_str,cells_sl,cells_bool,cells_agg,trips,fill,Log.push,addrOf,findL,obeq_refl,k0,k2',e1,c4,e3,p1,p2,es,er]
    by_cases c8:k1 < 8
    · obtain ⟨k2,g3,e3,b0,b1,s3,t3,q3,_⟩ := ok_11 m (by omega) s2 10 (by omega) (by omega)
      obtain ⟨k3,g4,e4,c0,c1,s4,t4,q4,_⟩ := ok_11 m (by omega) s3 8 (by omega) (by omega)
      have kt3 := s3.ldT
      have wk:wrp .i64 (3 + k3) = 3 + k3 := wrp_i64 (by omega) (by omega)
      obtain ⟨r0,r1,r2⟩ := tmod_range b0 (show 1 ≤ 3 + k3 by omega)
      have hz:¬ (3 + k3 = 0) := by omega
      obtain ⟨nm,hnm,p1,p2⟩ := pick_str names10 (k2.tmod (3 + k3)) r0 (by simp only [names10,List.length_cons,List.length_nil]; omega)
      obtain ⟨g5,e5,g45⟩ := ok_71 m (by omega) nm g4
      have hM3:g3.get M = g2.get M := q3 M s.ne
      have hi4:g5.get (h.nx * 256) = some (.row [zeroE] 4 .rw) := keep4 (t2.trans (t3.trans (t4.trans (Step.grow _ g45))))
      have es := stvE (e := Expr.mk 2 0 nm true []) hi4
      have er:ldv (g5.set (h.nx * 256) (.row [(Expr.mk 2 0 nm true []).v] 4 .rw)) 4 true (.ptr (h.nx * 256) 0 0) = some (Expr.mk 2 0 nm true []).v := ldEv (kd := .rw) (by simp [H.get_set])
      have FL := (s4.grow g45).priv (h.nx * 256) (.row [(Expr.mk 2 0 nm true []).v] 4 .rw) hM hT
      have FS := fin4 (t2.trans (t3.trans (t4.trans (Step.grow _ g45)))) (.row [(Expr.mk 2 0 nm true []).v] 4 .rw)
      obtain ⟨gF,hgF⟩:∃ gF,gF = g5.set (h.nx * 256) (.row [(Expr.mk 2 0 nm true []).v] 4 .rw) := ⟨_,rfl⟩
      rw [← hgF] at es er FL FS
      refine ⟨Expr.mk 2 0 nm true [],gF,?_,nice_name _ nm (okNames_mem (l := names10) (by decide) nm hnm),FL,FS⟩
      simp only [names10,List.map] at p1
      simp [f49,Fr.keep_cons',Fr.keep_nil,stepE,nilv,pairs,fillE,cells_int,cells_str,cells_sl,cells_bool,cells_agg,trips,fill,Log.push,addrOf,findL,obeq_refl,k0,k2',kt3,e1,c4,c8,d0,e3,e4,wk,hz,p1,p2,e5,hM3,es,er]
    by_cases e8:k1 = 8
    · obtain ⟨k2,g3,e3,b0,b1,s3,t3,q3,_⟩ := ok_11 m (by omega) s2 5 (by omega) (by omega)
      obtain ⟨nm,hnm,p1,p2⟩ := pick_str names5 k2 b0 (by simpa [names5] using b1)
      obtain ⟨x,g4,e4,hx,s4,t4⟩ := ih m (by omega) (by omega) s3
      have hi4:g4.get (h.nx * 256) = some (.row [zeroE] 4 .rw) := keep4 (t2.trans (t3.trans t4))
      have es := stvE (e := Expr.mk 3 0 nm true [x]) hi4
      have er:ldv (g4.set (h.nx * 256) (.row [(Expr.mk 3 0 nm true [x]).v] 4 .rw)) 4 true (.ptr (h.nx * 256) 0 0) = some (Expr.mk 3 0 nm true [x]).v := ldEv (kd := .rw) (by simp [H.get_set])
      have cx := ecells x
      have FL := s4.priv (h.nx * 256) (.row [(Expr.mk 3 0 nm true [x]).v] 4 .rw) hM hT
      have FS := fin4 (t2.trans (t3.trans t4)) (.row [(Expr.mk 3 0 nm true [x]).v] 4 .rw)
      obtain ⟨gF,hgF⟩:∃ gF,gF = g4.set (h.nx * 256) (.row [(Expr.mk 3 0 nm true [x]).v] 4 .rw) := ⟨_,rfl⟩
      rw [← hgF] at es er FL FS
      refine ⟨Expr.mk 3 0 nm true [x],gF,?_,nice_index d nm (okNames_mem (l := names5) (by decide) nm hnm) x hx,FL,FS⟩
      rw [mkv] at es
      simp only [List.map] at es
      simp only [names5,List.map] at p1
      simp [f49,Fr.keep_cons',Fr.keep_nil,stepE,nilv,pairs,fillE,cells_int,cells_str,cells_sl,cells_bool,cells_agg,trips,fill,Log.push,addrOf,findL,obeq_refl,k0,k2',e1,c4,c8,d0,dw,dw',e8,e3,p1,p2,e4,cx,es,er]
    by_cases c11:k1 < 11
    · obtain ⟨k2,g3,e3,b0,b1,s3,t3,q3,_⟩ := ok_11 m (by omega) s2 2 (by omega) (by omega)
      obtain ⟨x,g4,e4,hx,s4,t4⟩ := ih m (by omega) (by omega) s3
      have hi4:g4.get (h.nx * 256) = some (.row [zeroE] 4 .rw) := keep4 (t2.trans (t3.trans t4))
      have wk:wrp .i64 (4 + k2) = 4 + k2 := wrp_i64 (by omega) (by omega)
      have es := stvE (e := Expr.mk (4 + k2) 0 [] true [x]) hi4
      have er:ldv (g4.set (h.nx * 256) (.row [(Expr.mk (4 + k2) 0 [] true [x]).v] 4 .rw)) 4 true (.ptr (h.nx * 256) 0 0) = some (Expr.mk (4 + k2) 0 [] true [x]).v := ldEv (kd := .rw) (by simp [H.get_set])
      have cx := ecells x
      have FL := s4.priv (h.nx * 256) (.row [(Expr.mk (4 + k2) 0 [] true [x]).v] 4 .rw) hM hT
      have FS := fin4 (t2.trans (t3.trans t4)) (.row [(Expr.mk (4 + k2) 0 [] true [x]).v] 4 .rw)
      obtain ⟨gF,hgF⟩:∃ gF,gF = g4.set (h.nx * 256) (.row [(Expr.mk (4 + k2) 0 [] true [x]).v] 4 .rw) := ⟨_,rfl⟩
      rw [← hgF] at es er FL FS
      refine ⟨Expr.mk (4 + k2) 0 [] true [x],gF,?_,nice_one d k2 b0 b1 x hx,FL,FS⟩
      rw [mkv] at es
      simp only [List.map] at es
      simp [f49,Fr.keep_cons',Fr.keep_nil,stepE,nilv,pairs,fillE,cells_int,cells_str,cells_sl,cells_bool,cells_agg,trips,fill,Log.push,addrOf,findL,obeq_refl,k0,k2',e1,c4,c8,d0,dw,dw',e8,c11,e3,wk,e4,cx,es,er]
    · obtain ⟨k2,g3,e3,b0,b1,s3,t3,q3,n3⟩ := ok_11 m (by omega) s2 13 (by omega) (by omega)
      have wk:wrp .i64 (6 + k2) = 6 + k2 := wrp_i64 (by omega) (by omega)
      let g3':H := { g3 with nx := g3.nx + 1 }
      have gg3:Grow g3 g3' := (Grow.refl g3).up (g3.nx + 1) (by omega)
      obtain ⟨x,g4,e4,hx,s4,t4⟩ := ih m (by omega) (by omega) (s3.grow gg3)
      have hl9:g3.nx * 256 + 4 < g4.nx * 256 := by have := t4.nx; have:g3'.nx = g3.nx + 1 := rfl; omega
      have hn3 := t3.nx
      have hn2 := t2.nx
      have h9M:g3.nx * 256 + 4 ≠ M := by omega
      have h9T:g3.nx * 256 + 4 ≠ T := by omega
      have h94:g3.nx * 256 + 4 ≠ h.nx * 256 := by omega
      let g5:H := g4.set (g3.nx * 256 + 4) (.row [zeroE] 4 .rw)
      let g6:H := g5.set (g3.nx * 256 + 4) (.row [x.v] 4 .rw)
      have es9:stv g5 4 (.ptr (g3.nx * 256 + 4) 0 0) x.v = some g6 := stvE (by simp [g5,H.get_set])
      have s6:LS fl bs M T line left g6 := (s4.priv _ _ h9M h9T).priv _ _ h9M h9T
      obtain ⟨y,g7,e7,hy,s7,t7⟩ := ih m (by omega) (by omega) s6
      have b6:g6.get (g3.nx * 256 + 4) = some (.row [x.v] 4 .rw) := by simp [g6,H.get_set]
      have n9:g3.nx * 256 + 4 ∉ [M,T] := by simp; exact ⟨h9M,h9T⟩
      have b7:g7.get (g3.nx * 256 + 4) = some (.row [x.v] 4 .rw) := by rw [t7.keep _ hl9 n9]; exact b6
      have l9 := ldEv b7
      obtain ⟨g8,e8',g78⟩ := ok_70 m (by omega) (6 + k2) x y g7
      have i4a:g4.get (h.nx * 256) = some (.row [zeroE] 4 .rw) := keep4 ((t2.trans t3).trans ((Step.grow _ gg3).trans t4))
      have i4b:g6.get (h.nx * 256) = some (.row [zeroE] 4 .rw) := by simp only [g6,g5]; rw [H.get_set,if_neg (Ne.symm h94),H.get_set,if_neg (Ne.symm h94)]; exact i4a
      have l4:h.nx * 256 < g6.nx * 256 := by show h.nx * 256 < g4.nx * 256; omega
      have i4c:g7.get (h.nx * 256) = some (.row [zeroE] 4 .rw) := by rw [t7.keep _ l4 n4]; exact i4b
      have i4d:g8.get (h.nx * 256) = some (.row [zeroE] 4 .rw) := gget g78 (by have := t7.nx; omega) i4c
      have es := stvE (e := Expr.mk (6 + k2) 0 [] true [x,y]) i4d
      have er:ldv (g8.set (h.nx * 256) (.row [(Expr.mk (6 + k2) 0 [] true [x,y]).v] 4 .rw)) 4 true (.ptr (h.nx * 256) 0 0) = some (Expr.mk (6 + k2) 0 [] true [x,y]).v := ldEv (kd := .rw) (by simp [H.get_set])
      have cx := ecells x
      have p46:Step [M,T] [M,T] g3 g6 := by
        have hz := t4.nx
        have hz':g3'.nx = g3.nx + 1 := rfl
        refine ⟨by show g3.nx ≤ g4.nx; omega,fun id h1 h2 => ?_,fun id h1 => .inl h1⟩
        simp only [g6,g5]
        rw [H.get_set,if_neg (by omega),H.get_set,if_neg (by omega)]
        exact ((Step.grow _ gg3).trans t4).keep id h1 h2
      have tt := (t2.trans (t3.trans (p46.trans (t7.trans (Step.grow _ g78)))))
      refine ⟨Expr.mk (6 + k2) 0 [] true [x,y],_,?_,nice_two d k2 b0 b1 x y hx hy,(s7.grow g78).priv (h.nx * 256) (.row [(Expr.mk (6 + k2) 0 [] true [x,y]).v] 4 .rw) hM hT,fin4 tt _⟩
      have kt3 := s3.ldT
      simp only [g3'] at e4
      simp only [g5,zeroE] at es9
      simp [f49,Fr.keep_cons',Fr.keep_nil,stepE,nilv,pairs,fillE,cells_int,cells_str,cells_sl,cells_bool,cells_agg,trips,fill,Log.push,addrOf,findL,obeq_refl,k0,k2',kt3,e1,c4,c8,d0,dw,dw',e8,c11,e3,wk,e4,es9,e7,b6,b7,l9,e8',cx,es,er]

/-- Two private rows beside the tape: the result's and the record's. -/
structure PS (fl:Bool) (bs:List Int) (M T:Nat) (line left:Int) (h0:H) (i2 i5:Nat) (z x:V) (esz:Nat) (h:H):Prop where
  ls:LS fl bs M T line left h
  b2:h.get i2 = some (.row [z] esz .rw)
  b5:h.get i5 = some (.row [x] esz .rw)
  l2:i2 < h.nx * 256
  l5:i5 < h.nx * 256
  n2:h0.nx * 256 ≤ i2
  n5:h0.nx * 256 ≤ i5
  ne:i2 ≠ i5
  st:Step [M,T] [M,T] h0 h
  m0:M < h0.nx * 256
  t0:T < h0.nx * 256
theorem PS.step {fl:Bool} {bs:List Int} {M T:Nat} {line left line' left':Int} {h0:H} {i2 i5:Nat} {z x:V} {esz:Nat} {h h':H} (p:PS fl bs M T line left h0 i2 i5 z x esz h) (l:LS fl bs M T line' left' h') (s:Step [M,T] [M,T] h h') :
    PS fl bs M T line' left' h0 i2 i5 z x esz h' := by
  have n2:i2 ∉ [M,T] := by have := p.n2; have := p.m0; have := p.t0; simp; omega
  have n5:i5 ∉ [M,T] := by have := p.n5; have := p.m0; have := p.t0; simp; omega
  exact ⟨l,by rw [s.keep _ p.l2 n2]; exact p.b2,by rw [s.keep _ p.l5 n5]; exact p.b5,by have := p.l2; have := s.nx; omega,by have := p.l5; have := s.nx; omega,p.n2,p.n5,p.ne,p.st.trans s,p.m0,p.t0⟩
theorem PS.put {fl:Bool} {bs:List Int} {M T:Nat} {line left:Int} {h0:H} {i2 i5:Nat} {z x:V} {esz:Nat} {h:H} (p:PS fl bs M T line left h0 i2 i5 z x esz h) (y:V):PS fl bs M T line left h0 i2 i5 z y esz (h.set i5 (.row [y] esz .rw)) := by
  have hn := p.n5
  have hm := p.m0
  have ht := p.t0
  have hl := p.l2
  refine ⟨p.ls.priv _ _ (by omega) (by omega),by rw [H.get_set,if_neg p.ne]; exact p.b2,by rw [H.get_set,if_pos rfl],p.l2,p.l5,p.n2,p.n5,p.ne,⟨p.st.nx,fun id h1 h2 => ?_,fun id h1 => .inl h1⟩,p.m0,p.t0⟩
  rw [H.get_set,if_neg (by omega)]
  exact p.st.keep id h1 h2
theorem PS.done {fl:Bool} {bs:List Int} {M T:Nat} {line left:Int} {h0:H} {i2 i5:Nat} {z x:V} {esz:Nat} {h:H} (p:PS fl bs M T line left h0 i2 i5 z x esz h) (b:Blk):LS fl bs M T line left (h.set i2 b) ∧ Step [M,T] [M,T] h0 (h.set i2 b) := by
  have hn := p.n2
  have hm := p.m0
  have ht := p.t0
  refine ⟨p.ls.priv _ _ (by omega) (by omega),⟨p.st.nx,fun id h1 h2 => ?_,fun id h1 => .inl h1⟩⟩
  rw [H.get_set,if_neg (by omega)]
  exact p.st.keep id h1 h2
def zeroD:V := .agg [.int .i64 0,.int .i64 0,.str [],.int .i64 0,.int .i64 0,.str []]
theorem stvD3 {h:H} {id:Nat} {d:Decl} (hg:h.get id = some (.row [d.v] 6 .rw)) (z:Int):stv h 1 (.ptr id 0 3) (.int .i64 z) = some (h.set id (.row [({ d with size := z }:Decl).v] 6 .rw)) := by
  simp [stv,hg,Decl.v,V.cells,one,splice]
theorem stvD4 {h:H} {id:Nat} {d:Decl} (hg:h.get id = some (.row [d.v] 6 .rw)) (z:Int):stv h 1 (.ptr id 0 4) (.int .i64 z) = some (h.set id (.row [({ d with init := z }:Decl).v] 6 .rw)) := by
  simp [stv,hg,Decl.v,V.cells,one,splice]
theorem stvD5 {h:H} {id:Nat} {d:Decl} (hg:h.get id = some (.row [d.v] 6 .rw)) (s:List Nat):stv h 1 (.ptr id 0 5) (.str s) = some (h.set id (.row [({ d with on := s }:Decl).v] 6 .rw)) := by
  simp [stv,hg,Decl.v,V.cells,one,splice]
theorem ldDa {h:H} {id:Nat} {d:Decl} {kd:Kind} (hg:h.get id = some (.row [d.v] 6 kd)):ldv h 6 true (.ptr id 0 0) = some d.v := by
  simp [ldv,hg,Decl.v,V.cells,cut,mk]
theorem dcells (d:Decl):d.v.cells.length = 6 := rfl
def names12:List (List Nat) := [[120],[121],[118],[113],[109],[110],[114],[99],[100],[102],[103],[116]]
def sizes6:List Int := [0,0,1,2,4,5]
def inits6:List Int := [0,0,1,-1,9223372036854775807,-9223372036854775807]
def q13_0:IC := (rT 0 [oq 0 2 (.alloc (.agg [.int .i64 0,.int .i64 0,.str [],.int .i64 0,.int .i64 0,.str []]))] ma8)
def q13_1:IC := (rF 1 [mq 0 5 0,nq 1 6 5,fq 2 7 6 1,lq 3 8 1 false 7,bq 4 9 .add (.t 8) (ic 1),nq 5 10 5,fq 6 11 10 1,sq 7 1 11 (.t 9)] ma8)
def q13_2:IC := (rF 2 [oq 0 12 (.bslF 1 (.str []) 12 [(0,.c (.str [120])),(1,.c (.str [121])),(2,.c (.str [118])),(3,.c (.str [113])),(4,.c (.str [109])),(5,.c (.str [110])),(6,.c (.str [114])),(7,.c (.str [99])),(8,.c (.str [100])),(9,.c (.str [102])),(10,.c (.str [103])),(11,.c (.str [116]))]),mq 1 3 12] ma8)
def q13_3:IC := (.reg 3 true [mq 0 13 0,nq 1 14 13,fq 2 15 14 0,lq 3 16 1 false 15,cq 4 17 11 [.t 16,ic 6],mq 11 24 0,nq 12 25 24,fq 13 26 25 0,lq 14 27 1 false 26,mq 15 28 3,zq 16 29 false 28,cq 17 30 11 [.t 27,.t 29],bq 5 18 .add (ic 1) (.t 17),mq 6 19 0,nq 7 20 19,fq 8 21 20 1,lq 9 22 1 false 21,mq 10 23 3,oq 18 31 (.iad 1 (.t 23) (.t 30)),lq 19 32 1 false 31,oq 20 33 (.build [.int .i64 0,.int .i64 0,.str [],.int .i64 0,.int .i64 0,.str []] [(0,1,.t 18),(1,1,.t 22),(2,1,.t 32)]),oq 21 4 (.alloc (.agg [.int .i64 0,.int .i64 0,.str [],.int .i64 0,.int .i64 0,.str []])),sq 22 6 4 (.t 33)] [(false,4,9),(false,4,14),(false,17,9)] ma8)
def q13_4:IC := (.seq (rF 4 [fq 0 34 4 0,lq 1 35 1 false 34,bq 2 36 .eql (.t 35) (ic 1)] ma8) (.cond (.t 36) (rF 5 [oq 0 37 (.bslF 1 (.int .i64 0) 6 [(0,ic 0),(1,ic 0),(2,ic 1),(3,ic 2),(4,ic 4),(5,ic 5)]),mq 1 38 0,nq 2 39 38,fq 3 40 39 0,lq 4 41 1 false 40,cq 5 42 11 [.t 41,ic 6],oq 6 43 (.iad 1 (.t 37) (.t 42)),lq 7 44 1 false 43,fq 8 45 4 3,sq 9 1 45 (.t 44)] ma8) .skip))
def q13_6:IC := (.seq (rF 6 [fq 0 46 4 0,lq 1 47 1 false 46,bq 2 48 .eql (.t 47) (ic 1),mq 3 49 48,⟨4,some 50,.fad (.t 4) 0,(some (49,false))⟩,⟨5,some 51,.ld 1 false (.t 50),(some (49,false))⟩,⟨6,some 52,.bin .eql (.t 51) (ic 2),(some (49,false))⟩,oq 7 53 (.pick (.t 49) (.c (.bool true)) (.t 52))] ma8) (.cond (.t 53) (rF 7 [oq 0 54 (.bslF 1 (.int .i64 0) 6 [(0,ic 0),(1,ic 0),(2,ic 1),(3,.c (.int .i64 (-1))),(4,ic 9223372036854775807),(5,.c (.int .i64 (-9223372036854775807)))]),mq 1 55 0,nq 2 56 55,fq 3 57 56 0,lq 4 58 1 false 57,cq 5 59 11 [.t 58,ic 6],oq 6 60 (.iad 1 (.t 54) (.t 59)),lq 7 61 1 false 60,fq 8 62 4 4,sq 9 1 62 (.t 61)] ma8) .skip))
def q13_8:IC := (.seq (rF 8 [fq 0 63 4 0,lq 1 64 1 false 63,bq 2 65 .eql (.t 64) (ic 5)] ma8) (.cond (.t 65) (rF 9 [mq 0 66 3,mq 1 67 0,nq 2 68 67,fq 3 69 68 0,lq 4 70 1 false 69,mq 5 71 3,zq 6 72 false 71,cq 7 73 11 [.t 70,.t 72],oq 8 74 (.iad 1 (.t 66) (.t 73)),lq 9 75 1 false 74,fq 10 76 4 5,sq 11 1 76 (.t 75)] ma8) .skip))
def q13_10:IC := (rF 10 [lq 0 77 6 true 4,sq 1 6 2 (.t 77)] ma8)
theorem shape_13:f13.body = .seq q13_0 (.seq q13_1 (.seq q13_2 (.seq q13_3 (.seq q13_4 (.seq q13_6 (.seq q13_8 (.seq q13_10 .ret))))))) := rfl
theorem res_13:f13.res = [.cell 2 6 true] := rfl
theorem fz_13:f13.fz = false := rfl
theorem ok_13 (n:Nat) (hn:3 ≤ n) {fl:Bool} {bs:List Int} {M T:Nat} {line left:Int} {h:H} (s:LS fl bs M T line left h) :
    ∃ (d:Decl) (line':Int) (h':H),call fns n 13 [.ptr M 0 0] h = some (d.v,h') ∧ d.Shaped ∧ LS fl bs M T line' left h' ∧ Step [M,T] [M,T] h h' := by
  obtain ⟨m,rfl⟩:∃ m,n = m + 1 := ⟨n - 1,by omega⟩
  have hlm := s.lm
  have hlt := s.lt
  let h1:H := ({ h with nx := h.nx + 1 }:H).set (h.nx * 256) (.row [zeroD] 6 .rw)
  have g1:Grow h h1 := ((Grow.refl h).up (h.nx + 1) (by omega)).set (Nat.le_refl _) _
  have s1 := s.grow g1
  have kL := s1.ldL
  obtain ⟨h2,e2,s2,t2,q2,n2⟩ := s1.stL (wrp .i64 (line + 1))
  have hn2:h2.nx = h.nx + 1 := n2
  let h2':H := { h2 with nx := h2.nx + 1 }
  have g2:Grow h2 h2' := (Grow.refl h2).up (h2.nx + 1) (by omega)
  have s2' := s2.grow g2
  have kT := s2'.ldT
  obtain ⟨k1,h3,e3,a0,a1,s3,t3,q3,n3⟩ := ok_11 m (by omega) s2' 6 (by omega) (by omega)
  have kT3 := s3.ldT
  obtain ⟨k2,h4,e4,b0,b1,s4,t4,q4,n4⟩ := ok_11 m (by omega) s3 12 (by omega) (by omega)
  have kL4 := s4.ldL
  obtain ⟨nm,hnm,p1,p2⟩ := pick_str names12 k2 b0 (by simpa [names12] using b1)
  have hname := okNames_mem (l := names12) (by decide) nm hnm
  have w1:wrp .i64 (1 + k1) = 1 + k1 := wrp_i64 (by omega) (by omega)
  let d0:Decl := ⟨1 + k1,wrp .i64 (line + 1),nm,0,0,[]⟩
  let h5:H := h4.set (h2.nx * 256 + 21) (.row [zeroD] 6 .rw)
  let h6:H := h5.set (h2.nx * 256 + 21) (.row [d0.v] 6 .rw)
  have es6:stv h5 6 (.ptr (h2.nx * 256 + 21) 0 0) d0.v = some h6 := stvD (by simp [h5,H.get_set,zeroD])
  have hn4:h4.nx = h2.nx + 1 := by rw [n4,n3]
  have i2k:h4.get (h.nx * 256) = some (.row [zeroD] 6 .rw) := by
    rw [q4 _ (by omega),q3 _ (by omega)]
    show h2.get _ = _
    rw [q2 _ (by omega)]
    simp [h1,H.get_set]
  have st4:Step [M,T] [M,T] h h4 := (Step.grow _ g1).trans (t2.trans ((Step.grow _ g2).trans (t3.trans t4)))
  have P:PS fl bs M T (wrp .i64 (line + 1)) left h (h.nx * 256) (h2.nx * 256 + 21) zeroD d0.v 6 h6 := by
    refine ⟨(s4.priv _ _ (by omega) (by omega)).priv _ _ (by omega) (by omega),?_,by simp [h6,H.get_set],by show h.nx * 256 < h4.nx * 256; omega,by show _ < h4.nx * 256; omega,by omega,by omega,by omega,⟨by show h.nx ≤ h4.nx; omega,fun id i1 i3 => ?_,fun id i1 => .inl i1⟩,by omega,by omega⟩
    · simp only [h6,h5]; rw [H.get_set,if_neg (by omega),H.get_set,if_neg (by omega)]; exact i2k
    · simp only [h6,h5]; rw [H.get_set,if_neg (by omega),H.get_set,if_neg (by omega)]; exact st4.keep id i1 i3
  -- the head
  obtain ⟨fr1,eH,f0,f2,f3,f4⟩:∃ fr1,exec (call fns m) m (.seq q13_0 (.seq q13_1 (.seq q13_2 q13_3))) (enter 0 [.ptr M 0 0]) h = some (.norm,fr1,h6) ∧ Fr.get fr1 0 = some (.ptr M 0 0) ∧ Fr.get fr1 2 = some (.ptr (h.nx * 256) 0 0) ∧ Fr.get fr1 3 = some (.sl true (names12.map .str)) ∧ Fr.get fr1 4 = some (.ptr (h2.nx * 256 + 21) 0 0) := by
    have hq3:h3.get M = h2'.get M := q3 M s.ne
    have hq4:h4.get M = h3.get M := q4 M s.ne
    have hd0:d0.v = .agg [.int .i64 (1 + k1),.int .i64 (wrp .i64 (line + 1)),.str nm,.int .i64 0,.int .i64 0,.str []] := rfl
    rw [hd0] at es6
    simp only [h1,zeroD] at kL e2
    simp only [h2'] at kT e3 hq3
    simp only [names12,List.map] at p1 ⊢
    simp only [h5,zeroD] at es6
    have hq4' := hq4.trans hq3
    simp [q13_0,q13_1,q13_2,q13_3,stepE,nilv,pairs,fillE,cells_int,cells_str,cells_sl,cells_bool,cells_agg,trips,fill,Log.push,addrOf,findL,obeq_refl,kL,e2,kT,e3,kT3,e4,kL4,p1,p2,w1,es6,hq3,hq4,hq4']
  have fin:∀ (fr:Fr) (k:H) (d:Decl) (line':Int),exec (call fns m) m (.seq q13_4 (.seq q13_6 q13_8)) fr1 h6 = some (.norm,fr,k) → PS fl bs M T line' left h (h.nx * 256) (h2.nx * 256 + 21) zeroD d.v 6 k → Fr.get fr 2 = some (.ptr (h.nx * 256) 0 0) → Fr.get fr 4 = some (.ptr (h2.nx * 256 + 21) 0 0) → d.Shaped →
      ∃ (d:Decl) (line':Int) (h':H),call fns (m + 1) 13 [.ptr M 0 0] h = some (d.v,h') ∧ d.Shaped ∧ LS fl bs M T line' left h' ∧ Step [M,T] [M,T] h h' := by
    intro fr k d line' e P c2 c4 hd
    obtain ⟨L,S⟩ := P.done (.row [d.v] 6 .rw)
    refine ⟨d,line',k.set (h.nx * 256) (.row [d.v] 6 .rw),?_,hd,L,S⟩
    have la := ldDa P.b5
    have es:stv k 6 (.ptr (h.nx * 256) 0 0) d.v = some (k.set (h.nx * 256) (.row [d.v] 6 .rw)) := stvD P.b2
    have lr:ldv (k.set (h.nx * 256) (.row [d.v] 6 .rw)) 6 true (.ptr (h.nx * 256) 0 0) = some d.v := ldDa (kd := .rw) (by simp [H.get_set])
    rw [call_succ]
    show call1 (call fns m) m f13 _ _ = _
    obtain ⟨_,_,c1,e⟩ := exec_seq_norm e
    obtain ⟨_,_,c5,c6⟩ := exec_seq_norm e
    obtain ⟨_,_,a1,eH⟩ := exec_seq_norm eH
    obtain ⟨_,_,a2,eH⟩ := exec_seq_norm eH
    obtain ⟨_,_,a3,a4⟩ := exec_seq_norm eH
    unfold call1
    rw [shape_13,exec_then a1,exec_then a2,exec_then a3,exec_then a4,exec_then c1,exec_then c5,exec_then c6]
    simp [q13_10,c2,c4,la,es,lr,res_13,fz_13]
  have kT6 := P.ls.ldT
  have d0k := ldD0 P.b5
  have hkd:d0.kind = 1 + k1 := rfl
  by_cases c1:k1 = 0
  · -- a variable
    have hk1:d0.kind = 1 := by rw [hkd,c1]; rfl
    rw [hk1] at d0k
    obtain ⟨k3,h7,e7,x0,x1,s7,t7,_⟩ := ok_11 m (by omega) P.ls 6 (by omega) (by omega)
    obtain ⟨sz,hsz,r1,r2⟩ := pick_int sizes6 k3 x0 (by simpa [sizes6] using x1)
    have P7 := P.step s7 t7
    have e8 := stvD3 P7.b5 sz
    have P8 := P7.put ({ d0 with size := sz }:Decl).v
    obtain ⟨d1,hd1⟩:∃ d1:Decl,d1 = { d0 with size := sz } := ⟨_,rfl⟩
    have hk11:d1.kind = 1 := by rw [hd1]; exact hk1
    rw [← hd1] at P8 e8
    have d8k := ldD0 P8.b5
    rw [hk11] at d8k
    have kT8 := P8.ls.ldT
    obtain ⟨k4,h9,e9,y0,y1,s9,t9,_⟩ := ok_11 m (by omega) P8.ls 6 (by omega) (by omega)
    obtain ⟨it,hit,r3,r4⟩ := pick_int inits6 k4 y0 (by simpa [inits6] using y1)
    have P9 := P8.step s9 t9
    have e10 := stvD4 P9.b5 it
    have P10 := P9.put ({ d1 with init := it }:Decl).v
    obtain ⟨d2,hd2⟩:∃ d2:Decl,d2 = { d1 with init := it } := ⟨_,rfl⟩
    have hk12:d2.kind = 1 := by rw [hd2]; exact hk11
    rw [← hd2] at P10 e10
    have d10k := ldD0 P10.b5
    rw [hk12] at d10k
    simp only [sizes6,inits6,List.map] at r1 r3
    obtain ⟨fr2,e,c2,c4⟩:∃ fr2,exec (call fns m) m (.seq q13_4 (.seq q13_6 q13_8)) fr1 h6 = some (.norm,fr2,h9.set (h2.nx * 256 + 21) (.row [d2.v] 6 .rw)) ∧ Fr.get fr2 2 = some (.ptr (h.nx * 256) 0 0) ∧ Fr.get fr2 4 = some (.ptr (h2.nx * 256 + 21) 0 0) := by
      simp [q13_4,q13_6,q13_8,stepE,nilv,pairs,fillE,cells_int,cells_str,cells_sl,cells_bool,cells_agg,trips,fill,Log.push,addrOf,findL,obeq_refl,f0,f2,f3,f4,d0k,kT6,e7,r1,r2,e8,d8k,kT8,e9,r3,r4,e10,d10k]
    refine fin _ _ d2 _ e P10 c2 c4 ?_
    subst hd2
    subst hd1
    refine ⟨by show 1 ≤ d0.kind; omega,by show d0.kind ≤ 6; omega,hname,?_,fun q => absurd hk1 q,?_,fun q => absurd hk1 q,fun q => ?_,fun _ => rfl⟩
    · show 0 ≤ sz
      simp [sizes6] at hsz; omega
    · show -9223372036854775808 < it
      simp [inits6] at hit; omega
    · have:d0.kind = 5 := q
      omega
  by_cases c2:k1 = 1
  · have hk1:d0.kind = 2 := by rw [hkd,c2]; rfl
    rw [hk1] at d0k
    obtain ⟨k4,h9,e9,y0,y1,s9,t9,_⟩ := ok_11 m (by omega) P.ls 6 (by omega) (by omega)
    obtain ⟨it,hit,r3,r4⟩ := pick_int inits6 k4 y0 (by simpa [inits6] using y1)
    have P9 := P.step s9 t9
    have e10 := stvD4 P9.b5 it
    have P10 := P9.put ({ d0 with init := it }:Decl).v
    obtain ⟨d1,hd1⟩:∃ d1:Decl,d1 = { d0 with init := it } := ⟨_,rfl⟩
    have hk11:d1.kind = 2 := by rw [hd1]; exact hk1
    rw [← hd1] at P10 e10
    have d10k := ldD0 P10.b5
    rw [hk11] at d10k
    simp only [inits6,List.map] at r3
    obtain ⟨fr2,e,c2,c4⟩:∃ fr2,exec (call fns m) m (.seq q13_4 (.seq q13_6 q13_8)) fr1 h6 = some (.norm,fr2,h9.set (h2.nx * 256 + 21) (.row [d1.v] 6 .rw)) ∧ Fr.get fr2 2 = some (.ptr (h.nx * 256) 0 0) ∧ Fr.get fr2 4 = some (.ptr (h2.nx * 256 + 21) 0 0) := by
      simp [q13_4,q13_6,q13_8,stepE,nilv,pairs,fillE,cells_int,cells_str,cells_sl,cells_bool,cells_agg,trips,fill,Log.push,addrOf,findL,obeq_refl,f0,f2,f3,f4,d0k,kT6,e9,r3,r4,e10,d10k]
    refine fin _ _ d1 _ e P10 c2 c4 ?_
    subst hd1
    refine ⟨by show 1 ≤ d0.kind; omega,by show d0.kind ≤ 6; omega,hname,by show (0:Int) ≤ 0; omega,fun _ => rfl,?_,fun _ q => absurd hk1 q,fun q => ?_,fun _ => rfl⟩
    · show -9223372036854775808 < it
      simp [inits6] at hit; omega
    · have:d0.kind = 5 := q
      omega
  by_cases c5:k1 = 4
  · have hk1:d0.kind = 5 := by rw [hkd,c5]; rfl
    rw [hk1] at d0k
    obtain ⟨k4,h9,e9,y0,y1,s9,t9,_⟩ := ok_11 m (by omega) P.ls 12 (by omega) (by omega)
    obtain ⟨on,hon,r3,r4⟩ := pick_str names12 k4 y0 (by simpa [names12] using y1)
    have P9 := P.step s9 t9
    have e10 := stvD5 P9.b5 on
    have P10 := P9.put ({ d0 with on := on }:Decl).v
    have hl12:names12.length = 12 := rfl
    obtain ⟨d1,hd1⟩:∃ d1:Decl,d1 = { d0 with on := on } := ⟨_,rfl⟩
    rw [← hd1] at P10 e10
    obtain ⟨fr2,e,c2,c4⟩:∃ fr2,exec (call fns m) m (.seq q13_4 (.seq q13_6 q13_8)) fr1 h6 = some (.norm,fr2,h9.set (h2.nx * 256 + 21) (.row [d1.v] 6 .rw)) ∧ Fr.get fr2 2 = some (.ptr (h.nx * 256) 0 0) ∧ Fr.get fr2 4 = some (.ptr (h2.nx * 256 + 21) 0 0) := by
      simp [q13_4,q13_6,q13_8,stepE,nilv,pairs,fillE,cells_int,cells_str,cells_sl,cells_bool,cells_agg,trips,fill,Log.push,addrOf,findL,obeq_refl,f0,f2,f3,f4,d0k,kT6,hl12,e9,r3,r4,e10]
    refine fin _ _ d1 _ e P10 c2 c4 ?_
    subst hd1
    refine ⟨by show 1 ≤ d0.kind; omega,by show d0.kind ≤ 6; omega,hname,by show (0:Int) ≤ 0; omega,fun _ => rfl,by show (-9223372036854775808:Int) < 0; omega,fun _ _ => rfl,fun _ => okNames_mem (l := names12) (by decide) on hon,fun q => absurd hk1 q⟩
  · have n1:¬ d0.kind = 1 := by rw [hkd]; omega
    have n2':¬ d0.kind = 2 := by rw [hkd]; omega
    have n5:¬ d0.kind = 5 := by rw [hkd]; omega
    obtain ⟨fr2,e,c2,c4⟩:∃ fr2,exec (call fns m) m (.seq q13_4 (.seq q13_6 q13_8)) fr1 h6 = some (.norm,fr2,h6) ∧ Fr.get fr2 2 = some (.ptr (h.nx * 256) 0 0) ∧ Fr.get fr2 4 = some (.ptr (h2.nx * 256 + 21) 0 0) := by
      simp [q13_4,q13_6,q13_8,stepE,nilv,pairs,fillE,cells_int,cells_str,cells_sl,cells_bool,cells_agg,trips,fill,Log.push,addrOf,findL,obeq_refl,f0,f2,f3,f4,d0k,n1,n2',n5]
    exact fin _ _ _ _ e P c2 c4 ⟨by show 1 ≤ d0.kind; omega,by show d0.kind ≤ 6; omega,hname,by show (0:Int) ≤ 0; omega,fun _ => rfl,by show (-9223372036854775808:Int) < 0; omega,fun _ _ => rfl,fun q => absurd q n5,fun _ => rfl⟩
def q27_0:IC := (rT 0 [oq 0 4 (.alloc (.agg [.int .i64 0,.int .i64 0,.str [],.str [],.sl true [],.int .i64 0,.int .i64 0,.str [],.sl true [],.sl true [],.sl true []]))] ma19)
def q27_1:IC := (rF 1 [mq 0 6 0,nq 1 7 6,fq 2 8 7 1,lq 3 9 1 false 8,bq 4 10 .add (.t 9) (ic 1),nq 5 11 6,fq 6 12 11 1,sq 7 1 12 (.t 10)] ma19)
def q27_2:IC := (rF 2 [mq 0 13 0,nq 1 14 13,fq 2 15 14 2,lq 3 16 1 false 15,bq 4 17 .sub (.t 16) (ic 1),nq 5 18 13,fq 6 19 18 2,sq 7 1 19 (.t 17)] ma19)
def q27_3:IC := (.reg 3 true [mq 0 20 0,nq 1 21 20,fq 2 22 21 0,lq 3 23 1 false 22,cq 4 24 11 [.t 23,ic 15],bq 5 25 .add (ic 1) (.t 24),mq 6 26 0,nq 7 27 26,fq 8 28 27 1,lq 9 29 1 false 28,oq 10 30 (.build [.int .i64 0,.int .i64 0,.str [],.str [],.sl true [],.int .i64 0,.int .i64 0,.str [],.sl true [],.sl true [],.sl true []] [(0,1,.t 25),(1,1,.t 29)]),oq 11 5 (.alloc (.agg [.int .i64 0,.int .i64 0,.str [],.str [],.sl true [],.int .i64 0,.int .i64 0,.str [],.sl true [],.sl true [],.sl true []])),sq 12 11 5 (.t 30)] [(false,4,9)] ma19)
def q27_4:IC := (.seq (rF 4 [mq 0 31 1,bq 1 32 .eql (.t 31) (ic 0),mq 2 33 32,⟨3,some 34,.fad (.t 5) 0,(some (33,true))⟩,⟨4,some 35,.ld 1 false (.t 34),(some (33,true))⟩,⟨5,some 36,.bin .geq (.t 35) (ic 2),(some (33,true))⟩,oq 6 37 (.pick (.t 33) (.t 36) (.c (.bool false))),mq 7 38 37,⟨8,some 39,.fad (.t 5) 0,(some (38,true))⟩,⟨9,some 40,.ld 1 false (.t 39),(some (38,true))⟩,⟨10,some 41,.bin .leq (.t 40) (ic 8),(some (38,true))⟩,oq 11 42 (.pick (.t 38) (.t 41) (.c (.bool false)))] ma19) (.cond (.t 42) (rF 5 [fq 0 43 5 0,sq 1 1 43 (ic 1)] ma19) .skip))
def q27_6:IC := (rF 6 [fq 0 44 5 0,lq 1 45 1 false 44] ma19)
def q27_35:IC := (.seq (rF 35 [fq 0 126 5 0,lq 1 127 1 false 126,bq 2 128 .geq (.t 127) (ic 2),mq 3 129 128,⟨4,some 130,.fad (.t 5) 0,(some (129,true))⟩,⟨5,some 131,.ld 1 false (.t 130),(some (129,true))⟩,⟨6,some 132,.bin .leq (.t 131) (ic 8),(some (129,true))⟩,oq 7 133 (.pick (.t 129) (.t 132) (.c (.bool false)))] ma19) (.cond (.t 133) (.seq (rF 36 [mq 0 134 0,mq 1 135 1,bq 2 136 .sub (.t 135) (ic 1),mq 3 137 0,nq 4 138 137,fq 5 139 138 0,lq 6 140 1 false 139,cq 7 141 11 [.t 140,ic 3],bq 8 142 .add (ic 1) (.t 141),cq 9 143 14 [.t 134,.t 136,.t 142],fq 10 144 5 9,sq 11 1 144 (.t 143)] ma19) (.seq (rF 37 [fq 0 145 5 0,lq 1 146 1 false 145,bq 2 147 .eql (.t 146) (ic 2),mq 3 148 147,⟨4,some 149,.mv (.t 0),(some (148,true))⟩,⟨5,some 150,.nck (.t 149),(some (148,true))⟩,⟨6,some 151,.fad (.t 150) 0,(some (148,true))⟩,⟨7,some 152,.ld 1 false (.t 151),(some (148,true))⟩,⟨8,some 153,.call 11 [.t 152,ic 3],(some (148,true))⟩,⟨9,some 154,.bin .eql (.t 153) (ic 2),(some (148,true))⟩,oq 10 155 (.pick (.t 148) (.t 154) (.c (.bool false)))] ma19) (.cond (.t 155) (rF 38 [mq 0 156 0,mq 1 157 1,bq 2 158 .sub (.t 157) (ic 1),cq 3 159 14 [.t 156,.t 158,ic 1],fq 4 160 5 10,sq 5 1 160 (.t 159)] ma19) .skip))) .skip))
def q27_39:IC := (rF 39 [lq 0 161 11 true 5,sq 1 11 4 (.t 161)] ma19)
def br27_46:IC := (.seq (rF 8 [mq 0 48 0,oq 1 49 (.bslF 1 (.str []) 5 [(0,.c (.str [120])),(1,.c (.str [121])),(2,.c (.str [97])),(3,.c (.str [118])),(4,.c (.str [113]))]),cq 2 50 48 [.t 48,.t 49],fq 3 51 5 2,sq 4 1 51 (.t 50)] ma19) (.seq (.seq (rF 9 [fq 0 52 5 2,lq 1 53 1 false 52,bq 2 54 .eql (.t 53) (.c (.str [113])),mq 3 55 54,⟨4,some 56,.mv (.t 0),(some (55,true))⟩,⟨5,some 57,.nck (.t 56),(some (55,true))⟩,⟨6,some 58,.fad (.t 57) 0,(some (55,true))⟩,⟨7,some 59,.ld 1 false (.t 58),(some (55,true))⟩,⟨8,some 60,.call 11 [.t 59,ic 6],(some (55,true))⟩,⟨9,some 61,.bin .lss (.t 60) (ic 5),(some (55,true))⟩,oq 10 62 (.pick (.t 55) (.t 61) (.c (.bool false)))] ma19) (.cond (.t 62) (rF 10 [mq 0 63 0,cq 1 64 49 [.t 63,ic 1],oq 2 65 (.bslF 4 (.agg [.int .i64 0,.int .i64 0,.str [],.sl true []]) 1 [(0,.t 64)]),fq 3 66 5 4,sq 4 1 66 (.t 65)] ma19) .skip)) (rF 11 [mq 0 67 0,cq 1 68 49 [.t 67,ic 2],fq 2 69 5 5,sq 3 4 69 (.t 68)] ma19)))
def br27_70:IC := (rF 14 [mq 0 73 0,cq 1 74 49 [.t 73,ic 2],fq 2 75 5 5,sq 3 4 75 (.t 74)] ma19)
def br27_76:IC := (rF 16 [mq 0 78 0,oq 1 79 (.bslF 1 (.str []) 2 [(0,.c (.str [109])),(1,.c (.str [110]))]),cq 2 80 48 [.t 78,.t 79],fq 3 81 5 2,sq 4 1 81 (.t 80)] ma19)
def br27_82:IC := (rF 19 [mq 0 85 0,oq 1 86 (.bslF 1 (.str []) 1 [(0,.c (.str [114]))]),cq 2 87 48 [.t 85,.t 86],fq 3 88 5 2,sq 4 1 88 (.t 87)] ma19)
def br27_89:IC := (.skip)
def br27_92:IC := (rF 25 [mq 0 96 0,oq 1 97 (.bslF 1 (.str []) 1 [(0,.c (.str [99]))]),cq 2 98 48 [.t 96,.t 97],fq 3 99 5 2,sq 4 1 99 (.t 98)] ma19)
def br27_100:IC := (rF 28 [mq 0 103 0,oq 1 104 (.bslF 1 (.str []) 3 [(0,.c (.str [116])),(1,.c (.str [117])),(2,.c (.str [119]))]),cq 2 105 48 [.t 103,.t 104],fq 3 106 5 2,sq 4 1 106 (.t 105)] ma19)
def br27_107:IC := (.seq (rF 30 [mq 0 109 0,oq 1 110 (.bslF 1 (.str []) 1 [(0,.c (.str [102]))]),cq 2 111 48 [.t 109,.t 110],fq 3 112 5 2,sq 4 1 112 (.t 111)] ma19) (rF 31 [mq 0 113 0,cq 1 114 49 [.t 113,ic 1],fq 2 115 5 5,sq 3 4 115 (.t 114)] ma19))
def br27_116:IC := (.seq (rF 33 [mq 0 118 0,oq 1 119 (.bslF 1 (.str []) 1 [(0,.c (.str [97]))]),cq 2 120 48 [.t 118,.t 119],fq 3 121 5 2,sq 4 1 121 (.t 120)] ma19) (rF 34 [mq 0 122 0,oq 1 123 (.bslF 1 (.str []) 1 [(0,.c (.str [102]))]),cq 2 124 48 [.t 122,.t 123],fq 3 125 5 3,sq 4 1 125 (.t 124)] ma19))
def sw27:IC := (.seq (rF 7 [bq 0 47 .eql (.t 45) (ic 1),mq 1 46 47] ma19) (.cond (.t 46) br27_46 (.seq (.seq (rF 12 [bq 0 71 .eql (.t 45) (ic 2),mq 1 70 71] ma19) (.cond (.t 70) .skip (rF 13 [bq 0 72 .eql (.t 45) (ic 3),mq 1 70 72] ma19))) (.cond (.t 70) br27_70 (.seq (rF 15 [bq 0 77 .eql (.t 45) (ic 4),mq 1 76 77] ma19) (.cond (.t 76) br27_76 (.seq (.seq (rF 17 [bq 0 83 .eql (.t 45) (ic 5),mq 1 82 83] ma19) (.cond (.t 82) .skip (rF 18 [bq 0 84 .eql (.t 45) (ic 6),mq 1 82 84] ma19))) (.cond (.t 82) br27_82 (.seq (.seq (rF 20 [bq 0 90 .eql (.t 45) (ic 7),mq 1 89 90] ma19) (.cond (.t 89) .skip (rF 21 [bq 0 91 .eql (.t 45) (ic 8),mq 1 89 91] ma19))) (.cond (.t 89) br27_89 (.seq (.seq (rF 22 [bq 0 93 .eql (.t 45) (ic 9),mq 1 92 93] ma19) (.cond (.t 92) .skip (.seq (rF 23 [bq 0 94 .eql (.t 45) (ic 10),mq 1 92 94] ma19) (.cond (.t 92) .skip (rF 24 [bq 0 95 .eql (.t 45) (ic 11),mq 1 92 95] ma19))))) (.cond (.t 92) br27_92 (.seq (.seq (rF 26 [bq 0 101 .eql (.t 45) (ic 12),mq 1 100 101] ma19) (.cond (.t 100) .skip (rF 27 [bq 0 102 .eql (.t 45) (ic 13),mq 1 100 102] ma19))) (.cond (.t 100) br27_100 (.seq (rF 29 [bq 0 108 .eql (.t 45) (ic 14),mq 1 107 108] ma19) (.cond (.t 107) br27_107 (.seq (rF 32 [bq 0 117 .eql (.t 45) (ic 15),mq 1 116 117] ma19) (.cond (.t 116) br27_116 (.skip)))))))))))))))))))
theorem shape_27:f27.body = .seq q27_0 (.seq q27_1 (.seq q27_2 (.seq q27_3 (.seq q27_4 (.seq (.seq q27_6 (.block 0 sw27)) (.seq q27_35 (.seq q27_39 .ret))))))) := rfl
theorem res_27:f27.res = [.cell 4 11 true] := rfl
theorem fz_27:f27.fz = false := rfl
def Stmt.wOp (x:Stmt) (o:Int):Stmt := .mk o x.line x.name x.arg x.fi x.index x.expr x.fb x.body x.fe x.els
theorem stvS_Op {h:H} {id:Nat} {x:Stmt} (hg:h.get id = some (.row [x.v] 11 .rw)) (o:Int):stv h 1 (.ptr id 0 0) (.int .i64 o) = some (h.set id (.row [(x.wOp o).v] 11 .rw)) := by
  simp [stv,hg,Stmt.wOp,Stmt.v_eq,Expr.v_eq,V.cells,one,splice,Stmt.op,Stmt.line,Stmt.name,Stmt.arg,Stmt.fi,Stmt.index,Stmt.expr,Stmt.fb,Stmt.body,Stmt.fe,Stmt.els]
def Stmt.wName (x:Stmt) (s:List Nat):Stmt := .mk x.op x.line s x.arg x.fi x.index x.expr x.fb x.body x.fe x.els
theorem stvS_Name {h:H} {id:Nat} {x:Stmt} (hg:h.get id = some (.row [x.v] 11 .rw)) (s:List Nat):stv h 1 (.ptr id 0 2) (.str s) = some (h.set id (.row [(x.wName s).v] 11 .rw)) := by
  simp [stv,hg,Stmt.wName,Stmt.v_eq,Expr.v_eq,V.cells,one,splice,Stmt.op,Stmt.line,Stmt.name,Stmt.arg,Stmt.fi,Stmt.index,Stmt.expr,Stmt.fb,Stmt.body,Stmt.fe,Stmt.els]
def Stmt.wArg (x:Stmt) (s:List Nat):Stmt := .mk x.op x.line x.name s x.fi x.index x.expr x.fb x.body x.fe x.els
theorem stvS_Arg {h:H} {id:Nat} {x:Stmt} (hg:h.get id = some (.row [x.v] 11 .rw)) (s:List Nat):stv h 1 (.ptr id 0 3) (.str s) = some (h.set id (.row [(x.wArg s).v] 11 .rw)) := by
  simp [stv,hg,Stmt.wArg,Stmt.v_eq,Expr.v_eq,V.cells,one,splice,Stmt.op,Stmt.line,Stmt.name,Stmt.arg,Stmt.fi,Stmt.index,Stmt.expr,Stmt.fb,Stmt.body,Stmt.fe,Stmt.els]
def Stmt.wIx (x:Stmt) (e:Expr):Stmt := .mk x.op x.line x.name x.arg true [e] x.expr x.fb x.body x.fe x.els
theorem stvS_Ix {h:H} {id:Nat} {x:Stmt} (hg:h.get id = some (.row [x.v] 11 .rw)) (e:Expr):stv h 1 (.ptr id 0 4) (.sl true [e.v]) = some (h.set id (.row [(x.wIx e).v] 11 .rw)) := by
  simp [stv,hg,Stmt.wIx,Stmt.v_eq,Expr.v_eq,V.cells,one,splice,Stmt.op,Stmt.line,Stmt.name,Stmt.arg,Stmt.fi,Stmt.index,Stmt.expr,Stmt.fb,Stmt.body,Stmt.fe,Stmt.els]
def Stmt.wEx (x:Stmt) (e:Expr):Stmt := .mk x.op x.line x.name x.arg x.fi x.index e x.fb x.body x.fe x.els
theorem stvS_Ex {h:H} {id:Nat} {x:Stmt} (hg:h.get id = some (.row [x.v] 11 .rw)) (e:Expr):stv h 4 (.ptr id 0 5) e.v = some (h.set id (.row [(x.wEx e).v] 11 .rw)) := by
  simp [stv,hg,Stmt.wEx,Stmt.v_eq,Expr.v_eq,V.cells,one,splice,Stmt.op,Stmt.line,Stmt.name,Stmt.arg,Stmt.fi,Stmt.index,Stmt.expr,Stmt.fb,Stmt.body,Stmt.fe,Stmt.els]
def Stmt.wBd (x:Stmt) (f:Bool) (l:List Stmt):Stmt := .mk x.op x.line x.name x.arg x.fi x.index x.expr f l x.fe x.els
theorem stvS_Bd {h:H} {id:Nat} {x:Stmt} (hg:h.get id = some (.row [x.v] 11 .rw)) (f:Bool) (l:List Stmt):stv h 1 (.ptr id 0 9) (.sl f (l.map Stmt.v)) = some (h.set id (.row [(x.wBd f l).v] 11 .rw)) := by
  simp [stv,hg,Stmt.wBd,Stmt.v_eq,Expr.v_eq,V.cells,one,splice,Stmt.op,Stmt.line,Stmt.name,Stmt.arg,Stmt.fi,Stmt.index,Stmt.expr,Stmt.fb,Stmt.body,Stmt.fe,Stmt.els]
def Stmt.wEl (x:Stmt) (f:Bool) (l:List Stmt):Stmt := .mk x.op x.line x.name x.arg x.fi x.index x.expr x.fb x.body f l
theorem stvS_El {h:H} {id:Nat} {x:Stmt} (hg:h.get id = some (.row [x.v] 11 .rw)) (f:Bool) (l:List Stmt):stv h 1 (.ptr id 0 10) (.sl f (l.map Stmt.v)) = some (h.set id (.row [(x.wEl f l).v] 11 .rw)) := by
  simp [stv,hg,Stmt.wEl,Stmt.v_eq,Expr.v_eq,V.cells,one,splice,Stmt.op,Stmt.line,Stmt.name,Stmt.arg,Stmt.fi,Stmt.index,Stmt.expr,Stmt.fb,Stmt.body,Stmt.fe,Stmt.els]
def zeroX:Expr := .mk 0 0 [] true []
theorem zeroX_zero:zeroX.Zero := ⟨rfl,rfl,rfl,rfl⟩
def baseS (o line:Int):Stmt := .mk o line [] [] true [] zeroX true [] true []
theorem baseS_v (o line:Int):(baseS o line).v = .agg [.int .i64 o,.int .i64 line,.str [],.str [],.sl true [],.int .i64 0,.int .i64 0,.str [],.sl true [],.sl true [],.sl true []] := by
  rw [Stmt.v_eq]; rfl
structure F27 (M i4 i5:Nat) (d:Int) (fr:Fr):Prop where
  t0:Fr.get fr 0 = some (.ptr M 0 0)
  t1:Fr.get fr 1 = some (.int .i64 d)
  t4:Fr.get fr 4 = some (.ptr i4 0 0)
  t5:Fr.get fr 5 = some (.ptr i5 0 0)
theorem head27 (m:Nat) (hm:3 ≤ m) {fl:Bool} {bs:List Int} {M T:Nat} {line left:Int} {h:H} (s:LS fl bs M T line left h) (hl1:1 ≤ left) (hl2:left < 1000) (d:Nat) (hd:d < 100) :
    ∃ (o line':Int) (i5:Nat) (fr1:Fr) (h':H),exec (call fns m) m (.seq q27_0 (.seq q27_1 (.seq q27_2 (.seq q27_3 q27_4)))) (enter 0 [.ptr M 0 0,.int .i64 (d:Int)]) h = some (.norm,fr1,h') ∧ F27 M (h.nx * 256) i5 d fr1 ∧
      1 ≤ o ∧ o ≤ 15 ∧ (d = 0 → ¬ (2 ≤ o ∧ o ≤ 8)) ∧ PS fl bs M T line' (left - 1) h (h.nx * 256) i5 zeroS (baseS o line').v 11 h' := by
  have hlm := s.lm
  have hlt := s.lt
  let h1:H := ({ h with nx := h.nx + 1 }:H).set (h.nx * 256) (.row [zeroS] 11 .rw)
  have g1:Grow h h1 := ((Grow.refl h).up (h.nx + 1) (by omega)).set (Nat.le_refl _) _
  have s1 := s.grow g1
  have kL := s1.ldL
  obtain ⟨h2,e2,s2,t2,q2,n2⟩ := s1.stL (wrp .i64 (line + 1))
  have kR := s2.ldR
  have wl:wrp .i64 (left - 1) = left - 1 := wrp_i64 (by omega) (by omega)
  obtain ⟨h3,e3,s3,t3,q3,n3⟩ := s2.stR (left - 1)
  have hn3:h3.nx = h.nx + 1 := by rw [n3,n2]; rfl
  let h3':H := { h3 with nx := h3.nx + 1 }
  have g3:Grow h3 h3' := (Grow.refl h3).up (h3.nx + 1) (by omega)
  have s3' := s3.grow g3
  have kT := s3'.ldT
  obtain ⟨k1,h4,e4,a0,a1,s4,t4,q4,n4⟩ := ok_11 m (by omega) s3' 15 (by omega) (by omega)
  have kL4 := s4.ldL
  have w1:wrp .i64 (1 + k1) = 1 + k1 := wrp_i64 (by omega) (by omega)
  have hn4:h4.nx = h3.nx + 1 := n4
  let h5:H := h4.set (h3.nx * 256 + 11) (.row [zeroS] 11 .rw)
  let h6:H := h5.set (h3.nx * 256 + 11) (.row [(baseS (1 + k1) (wrp .i64 (line + 1))).v] 11 .rw)
  have es6:stv h5 11 (.ptr (h3.nx * 256 + 11) 0 0) (baseS (1 + k1) (wrp .i64 (line + 1))).v = some h6 := stvS0 (by simp [h5,H.get_set])
  have i4k:h4.get (h.nx * 256) = some (.row [zeroS] 11 .rw) := by
    rw [q4 _ (by omega)]
    show h3.get _ = _
    rw [q3 _ (by omega),q2 _ (by omega)]
    simp [h1,H.get_set]
  have st4:Step [M,T] [M,T] h h4 := (Step.grow _ g1).trans (t2.trans (t3.trans ((Step.grow _ g3).trans t4)))
  have P:PS fl bs M T (wrp .i64 (line + 1)) (left - 1) h (h.nx * 256) (h3.nx * 256 + 11) zeroS (baseS (1 + k1) (wrp .i64 (line + 1))).v 11 h6 := by
    refine ⟨(s4.priv _ _ (by omega) (by omega)).priv _ _ (by omega) (by omega),?_,by simp [h6,H.get_set],by show h.nx * 256 < h4.nx * 256; omega,by show _ < h4.nx * 256; omega,by omega,by omega,by omega,⟨by show h.nx ≤ h4.nx; omega,fun id i1 i3 => ?_,fun id i1 => .inl i1⟩,by omega,by omega⟩
    · simp only [h6,h5]; rw [H.get_set,if_neg (by omega),H.get_set,if_neg (by omega)]; exact i4k
    · simp only [h6,h5]; rw [H.get_set,if_neg (by omega),H.get_set,if_neg (by omega)]; exact st4.keep id i1 i3
  have k0:ldv h6 1 false (.ptr (h3.nx * 256 + 11) 0 0) = some (.int .i64 (1 + k1)) := ldS0 P.b5
  have e7 := stvS_Op P.b5 1
  have hq4:h4.get M = h3'.get M := q4 M s.ne
  have P1:PS fl bs M T (wrp .i64 (line + 1)) (left - 1) h (h.nx * 256) (h3.nx * 256 + 11) zeroS (baseS 1 (wrp .i64 (line + 1))).v 11 (h6.set (h3.nx * 256 + 11) (.row [(baseS 1 (wrp .i64 (line + 1))).v] 11 .rw)) := P.put _
  have hb1:(baseS (1 + k1) (wrp .i64 (line + 1))).wOp 1 = baseS 1 (wrp .i64 (line + 1)) := rfl
  rw [hb1] at e7
  rw [baseS_v] at es6
  simp only [h1,zeroS] at kL e2
  simp only [h3'] at kT e4 hq4
  simp only [h5,zeroS] at es6
  by_cases hd0:d = 0
  · subst hd0
    by_cases c1:2 ≤ 1 + k1
    · by_cases c2:1 + k1 ≤ 8
      · refine ⟨1,wrp .i64 (line + 1),h3.nx * 256 + 11,?_⟩
        obtain ⟨fr1,e,f0,f1,f4,f5⟩:∃ fr1,exec (call fns m) m (.seq q27_0 (.seq q27_1 (.seq q27_2 (.seq q27_3 q27_4)))) (enter 0 [.ptr M 0 0,.int .i64 ((0:Nat):Int)]) h = some (.norm,fr1,h6.set (h3.nx * 256 + 11) (.row [(baseS 1 (wrp .i64 (line + 1))).v] 11 .rw)) ∧ Fr.get fr1 0 = some (.ptr M 0 0) ∧ Fr.get fr1 1 = some (.int .i64 ((0:Nat):Int)) ∧ Fr.get fr1 4 = some (.ptr (h.nx * 256) 0 0) ∧ Fr.get fr1 5 = some (.ptr (h3.nx * 256 + 11) 0 0) := by
          simp [q27_0,q27_1,q27_2,q27_3,q27_4,stepE,nilv,pairs,fillE,cells_int,cells_str,cells_sl,cells_bool,cells_agg,trips,fill,Log.push,addrOf,findL,obeq_refl,kL,e2,kR,wl,e3,kT,e4,kL4,w1,es6,hq4,k0,c1,c2,e7]
        exact ⟨fr1,_,e,⟨f0,f1,f4,f5⟩,by omega,by omega,fun _ => by omega,P1⟩
      · refine ⟨1 + k1,wrp .i64 (line + 1),h3.nx * 256 + 11,?_⟩
        obtain ⟨fr1,e,f0,f1,f4,f5⟩:∃ fr1,exec (call fns m) m (.seq q27_0 (.seq q27_1 (.seq q27_2 (.seq q27_3 q27_4)))) (enter 0 [.ptr M 0 0,.int .i64 ((0:Nat):Int)]) h = some (.norm,fr1,h6) ∧ Fr.get fr1 0 = some (.ptr M 0 0) ∧ Fr.get fr1 1 = some (.int .i64 ((0:Nat):Int)) ∧ Fr.get fr1 4 = some (.ptr (h.nx * 256) 0 0) ∧ Fr.get fr1 5 = some (.ptr (h3.nx * 256 + 11) 0 0) := by
          simp [q27_0,q27_1,q27_2,q27_3,q27_4,stepE,nilv,pairs,fillE,cells_int,cells_str,cells_sl,cells_bool,cells_agg,trips,fill,Log.push,addrOf,findL,obeq_refl,kL,e2,kR,wl,e3,kT,e4,kL4,w1,es6,hq4,k0,c1,c2]
        exact ⟨fr1,_,e,⟨f0,f1,f4,f5⟩,by omega,by omega,fun _ => by omega,P⟩
    · refine ⟨1 + k1,wrp .i64 (line + 1),h3.nx * 256 + 11,?_⟩
      obtain ⟨fr1,e,f0,f1,f4,f5⟩:∃ fr1,exec (call fns m) m (.seq q27_0 (.seq q27_1 (.seq q27_2 (.seq q27_3 q27_4)))) (enter 0 [.ptr M 0 0,.int .i64 ((0:Nat):Int)]) h = some (.norm,fr1,h6) ∧ Fr.get fr1 0 = some (.ptr M 0 0) ∧ Fr.get fr1 1 = some (.int .i64 ((0:Nat):Int)) ∧ Fr.get fr1 4 = some (.ptr (h.nx * 256) 0 0) ∧ Fr.get fr1 5 = some (.ptr (h3.nx * 256 + 11) 0 0) := by
        simp [q27_0,q27_1,q27_2,q27_3,q27_4,stepE,nilv,pairs,fillE,cells_int,cells_str,cells_sl,cells_bool,cells_agg,trips,fill,Log.push,addrOf,findL,obeq_refl,kL,e2,kR,wl,e3,kT,e4,kL4,w1,es6,hq4,k0,c1]
      exact ⟨fr1,_,e,⟨f0,f1,f4,f5⟩,by omega,by omega,fun _ => by omega,P⟩
  · have hd0':¬ (d:Int) = 0 := by omega
    refine ⟨1 + k1,wrp .i64 (line + 1),h3.nx * 256 + 11,?_⟩
    obtain ⟨fr1,e,f0,f1,f4,f5⟩:∃ fr1,exec (call fns m) m (.seq q27_0 (.seq q27_1 (.seq q27_2 (.seq q27_3 q27_4)))) (enter 0 [.ptr M 0 0,.int .i64 (d:Int)]) h = some (.norm,fr1,h6) ∧ Fr.get fr1 0 = some (.ptr M 0 0) ∧ Fr.get fr1 1 = some (.int .i64 (d:Int)) ∧ Fr.get fr1 4 = some (.ptr (h.nx * 256) 0 0) ∧ Fr.get fr1 5 = some (.ptr (h3.nx * 256 + 11) 0 0) := by
      simp [q27_0,q27_1,q27_2,q27_3,q27_4,stepE,nilv,pairs,fillE,cells_int,cells_str,cells_sl,cells_bool,cells_agg,trips,fill,Log.push,addrOf,findL,obeq_refl,kL,e2,kR,wl,e3,kT,e4,kL4,w1,es6,hq4,k0,hd0,hd0']
    exact ⟨fr1,_,e,⟨f0,f1,f4,f5⟩,by omega,by omega,fun q => absurd q hd0,P⟩
theorem own_mk {o line:Int} {nm arg:List Nat} {ix:List Expr} {ex:Expr} (h1:1 ≤ o) (h15:o ≤ 15) (hnm:o ≠ 2 → o ≠ 3 → o ≠ 7 → o ≠ 8 → NameOk nm) (hnm0:o = 2 ∨ o = 3 ∨ o = 7 ∨ o = 8 → nm = []) (har:o = 15 → NameOk arg) (har0:o ≠ 15 → arg = [])
    (hix:ix = [] ∨ (o = 1 ∧ ∃ e,ix = [e] ∧ e.Fine)) (hex:o = 1 ∨ o = 2 ∨ o = 3 ∨ o = 14 → ex.Fine) (hex0:o ≠ 1 → o ≠ 2 → o ≠ 3 → o ≠ 14 → ex.Zero):(Stmt.mk o line nm arg true ix ex true [] true []).Own :=
  ⟨h1,h15,hnm,hnm0,har,har0,hix,hex,hex0,fun _ => rfl,fun _ => rfl⟩
theorem Nice.fine {d:Nat} {e:Expr} (h:Nice d e) (hd:d ≤ 2):e.Fine := by
  refine ⟨h.sh,?_⟩
  have h1 := h.nd
  have:2 ^ (d + 1) ≤ 2 ^ 3 := Nat.pow_le_pow_right (by omega) (by omega)
  omega
structure Made (o:Int) (x:Stmt):Prop where
  own:x.Own
  op:x.op = o
  body:x.body = []
  els:x.els = []
theorem sw27_1 (m:Nat) (hm:20 ≤ m) {fl:Bool} {bs:List Int} {M T:Nat} {line left ln:Int} {h0:H} {i4 i5:Nat} {h:H} (P:PS fl bs M T line left h0 i4 i5 zeroS (baseS 1 ln).v 11 h) {d:Int} {fr:Fr} (F:F27 M i4 i5 d fr) :
    ∃ (x:Stmt) (fr':Fr) (h':H),exec (call fns m) m (.seq q27_6 (.block 0 sw27)) fr h = some (.norm,fr',h') ∧ F27 M i4 i5 d fr' ∧ PS fl bs M T line left h0 i4 i5 zeroS x.v 11 h' ∧ Made 1 x := by
  obtain ⟨t0,t1,t4,t5⟩ := F
  have k0:ldv h 1 false (.ptr i5 0 0) = some (.int .i64 1) := ldS0 P.b5
  obtain ⟨nm1,g1,e1,hn1,s1,st1⟩ := ok_48 m (by omega) P.ls [[120],[121],[97],[118],[113]] (by decide) (by decide) (by decide)
  have Q1 := P.step s1 st1
  simp only [List.map] at e1
  have f1 := stvS_Name Q1.b5 nm1
  have R1 := Q1.put ((baseS 1 ln).wName nm1).v
  obtain ⟨j1,hj1⟩:∃ j1,j1 = g1.set i5 (.row [((baseS 1 ln).wName nm1).v] 11 .rw) := ⟨_,rfl⟩
  rw [← hj1] at f1 R1
  have n1:ldv j1 1 false (.ptr i5 0 2) = some (.str nm1) := ldS2 R1.b5
  have kT := R1.ls.ldT
  cases hq:nm1 == ([113]:List Nat) with
  | false =>
    obtain ⟨x2,g2,e2,hn2,s2,st2⟩ := ok_49' 2 m (by omega) (by omega) R1.ls
    have Q2 := R1.step s2 st2
    have c2 := ecells x2
    change call fns m 49 [.ptr M 0 0,.int .i64 2] _ = _ at e2
    have f2 := stvS_Ex Q2.b5 x2
    obtain ⟨fr',e,F'⟩:∃ fr',exec (call fns m) m (.seq q27_6 (.block 0 sw27)) fr h = some (.norm,fr',g2.set i5 (.row [(((baseS 1 ln).wName nm1).wEx x2).v] 11 .rw)) ∧ F27 M i4 i5 d fr' := by
      simp [q27_6,sw27,br27_46,stepE,nilv,pairs,fillE,cells_int,cells_str,cells_sl,cells_bool,cells_agg,trips,fill,Log.push,addrOf,findL,obeq_refl,t0,t1,t4,t5,k0,e1,f1,n1,hq,e2,f2]
      exact ⟨by simp [t0],by simp [t1],by simp [t4],by simp [t5]⟩
    exact ⟨((baseS 1 ln).wName nm1).wEx x2,fr',_,e,F',Q2.put _,own_mk (o := 1) (by omega) (by omega) (fun _ _ _ _ => hn1) (fun q => by omega) (fun q => by omega) (fun _ => rfl) (.inl rfl) (fun _ => hn2.fine (by omega)) (fun a b c d => by first | exact absurd rfl a | exact absurd rfl b | exact absurd rfl c | exact absurd rfl d),rfl,rfl,rfl⟩
  | true =>
    obtain ⟨k3,g3,e3,a3,b3,s3,st3,_⟩ := ok_11 m (by omega) R1.ls 6 (by omega) (by omega)
    have Q3 := R1.step s3 st3
    by_cases h5:k3 < 5
    · obtain ⟨x4,g4,e4,hn4,s4,st4⟩ := ok_49' 1 m (by omega) (by omega) Q3.ls
      have Q4 := Q3.step s4 st4
      have c4 := ecells x4
      change call fns m 49 [.ptr M 0 0,.int .i64 1] _ = _ at e4
      have f4 := stvS_Ix Q4.b5 x4
      have R4 := Q4.put (((baseS 1 ln).wName nm1).wIx x4).v
      obtain ⟨j4,hj4⟩:∃ j4,j4 = g4.set i5 (.row [(((baseS 1 ln).wName nm1).wIx x4).v] 11 .rw) := ⟨_,rfl⟩
      rw [← hj4] at f4 R4
      obtain ⟨x2,g2,e2,hn2,s2,st2⟩ := ok_49' 2 m (by omega) (by omega) R4.ls
      have Q2 := R4.step s2 st2
      have c2 := ecells x2
      change call fns m 49 [.ptr M 0 0,.int .i64 2] _ = _ at e2
      have f2 := stvS_Ex Q2.b5 x2
      obtain ⟨fr',e,F'⟩:∃ fr',exec (call fns m) m (.seq q27_6 (.block 0 sw27)) fr h = some (.norm,fr',g2.set i5 (.row [((((baseS 1 ln).wName nm1).wIx x4).wEx x2).v] 11 .rw)) ∧ F27 M i4 i5 d fr' := by
        simp [q27_6,sw27,br27_46,stepE,nilv,pairs,fillE,cells_int,cells_str,cells_sl,cells_bool,cells_agg,trips,fill,Log.push,addrOf,findL,obeq_refl,t0,t1,t4,t5,k0,e1,f1,n1,hq,kT,e3,h5,e4,c4,f4,e2,f2]
        exact ⟨by simp [t0],by simp [t1],by simp [t4],by simp [t5]⟩
      exact ⟨(((baseS 1 ln).wName nm1).wIx x4).wEx x2,fr',_,e,F',Q2.put _,own_mk (o := 1) (by omega) (by omega) (fun _ _ _ _ => hn1) (fun q => by omega) (fun q => by omega) (fun _ => rfl) (.inr ⟨rfl,x4,rfl,hn4.fine (by omega)⟩) (fun _ => hn2.fine (by omega)) (fun a b c d => by first | exact absurd rfl a | exact absurd rfl b | exact absurd rfl c | exact absurd rfl d),rfl,rfl,rfl⟩
    · obtain ⟨x2,g2,e2,hn2,s2,st2⟩ := ok_49' 2 m (by omega) (by omega) Q3.ls
      have Q2 := Q3.step s2 st2
      have c2 := ecells x2
      change call fns m 49 [.ptr M 0 0,.int .i64 2] _ = _ at e2
      have f2 := stvS_Ex Q2.b5 x2
      obtain ⟨fr',e,F'⟩:∃ fr',exec (call fns m) m (.seq q27_6 (.block 0 sw27)) fr h = some (.norm,fr',g2.set i5 (.row [(((baseS 1 ln).wName nm1).wEx x2).v] 11 .rw)) ∧ F27 M i4 i5 d fr' := by
        simp [q27_6,sw27,br27_46,stepE,nilv,pairs,fillE,cells_int,cells_str,cells_sl,cells_bool,cells_agg,trips,fill,Log.push,addrOf,findL,obeq_refl,t0,t1,t4,t5,k0,e1,f1,n1,hq,kT,e3,h5,e2,f2]
        exact ⟨by simp [t0],by simp [t1],by simp [t4],by simp [t5]⟩
      exact ⟨((baseS 1 ln).wName nm1).wEx x2,fr',_,e,F',Q2.put _,own_mk (o := 1) (by omega) (by omega) (fun _ _ _ _ => hn1) (fun q => by omega) (fun q => by omega) (fun _ => rfl) (.inl rfl) (fun _ => hn2.fine (by omega)) (fun a b c d => by first | exact absurd rfl a | exact absurd rfl b | exact absurd rfl c | exact absurd rfl d),rfl,rfl,rfl⟩
theorem sw27_2 (m:Nat) (hm:20 ≤ m) {fl:Bool} {bs:List Int} {M T:Nat} {line left ln:Int} {h0:H} {i4 i5:Nat} {h:H} (P:PS fl bs M T line left h0 i4 i5 zeroS (baseS 2 ln).v 11 h) {d:Int} {fr:Fr} (F:F27 M i4 i5 d fr) :
    ∃ (x:Stmt) (fr':Fr) (h':H),exec (call fns m) m (.seq q27_6 (.block 0 sw27)) fr h = some (.norm,fr',h') ∧ F27 M i4 i5 d fr' ∧ PS fl bs M T line left h0 i4 i5 zeroS x.v 11 h' ∧ Made 2 x := by
  obtain ⟨t0,t1,t4,t5⟩ := F
  have k0:ldv h 1 false (.ptr i5 0 0) = some (.int .i64 2) := ldS0 P.b5
  obtain ⟨x1,g1,e1,hn1,s1,st1⟩ := ok_49' 2 m (by omega) (by omega) P.ls
  have Q1 := P.step s1 st1
  have c1 := ecells x1
  change call fns m 49 [.ptr M 0 0,.int .i64 2] _ = _ at e1
  have f1 := stvS_Ex Q1.b5 x1
  obtain ⟨fr',e,F'⟩:∃ fr',exec (call fns m) m (.seq q27_6 (.block 0 sw27)) fr h = some (.norm,fr',g1.set i5 (.row [((baseS 2 ln).wEx x1).v] 11 .rw)) ∧ F27 M i4 i5 d fr' := by
    simp [q27_6,sw27,br27_70,stepE,nilv,pairs,fillE,cells_int,cells_str,cells_sl,cells_bool,cells_agg,trips,fill,Log.push,addrOf,findL,obeq_refl,t0,t1,t4,t5,k0,e1,f1]
    exact ⟨by simp [t0],by simp [t1],by simp [t4],by simp [t5]⟩
  exact ⟨(baseS 2 ln).wEx x1,fr',_,e,F',Q1.put _,own_mk (o := 2) (by omega) (by omega) (fun a b c d => by first | exact absurd rfl a | exact absurd rfl b | exact absurd rfl c | exact absurd rfl d) (fun _ => rfl) (fun q => by omega) (fun _ => rfl) (.inl rfl) (fun _ => hn1.fine (by omega)) (fun a b c d => by first | exact absurd rfl a | exact absurd rfl b | exact absurd rfl c | exact absurd rfl d),rfl,rfl,rfl⟩
theorem sw27_3 (m:Nat) (hm:20 ≤ m) {fl:Bool} {bs:List Int} {M T:Nat} {line left ln:Int} {h0:H} {i4 i5:Nat} {h:H} (P:PS fl bs M T line left h0 i4 i5 zeroS (baseS 3 ln).v 11 h) {d:Int} {fr:Fr} (F:F27 M i4 i5 d fr) :
    ∃ (x:Stmt) (fr':Fr) (h':H),exec (call fns m) m (.seq q27_6 (.block 0 sw27)) fr h = some (.norm,fr',h') ∧ F27 M i4 i5 d fr' ∧ PS fl bs M T line left h0 i4 i5 zeroS x.v 11 h' ∧ Made 3 x := by
  obtain ⟨t0,t1,t4,t5⟩ := F
  have k0:ldv h 1 false (.ptr i5 0 0) = some (.int .i64 3) := ldS0 P.b5
  obtain ⟨x1,g1,e1,hn1,s1,st1⟩ := ok_49' 2 m (by omega) (by omega) P.ls
  have Q1 := P.step s1 st1
  have c1 := ecells x1
  change call fns m 49 [.ptr M 0 0,.int .i64 2] _ = _ at e1
  have f1 := stvS_Ex Q1.b5 x1
  obtain ⟨fr',e,F'⟩:∃ fr',exec (call fns m) m (.seq q27_6 (.block 0 sw27)) fr h = some (.norm,fr',g1.set i5 (.row [((baseS 3 ln).wEx x1).v] 11 .rw)) ∧ F27 M i4 i5 d fr' := by
    simp [q27_6,sw27,br27_70,stepE,nilv,pairs,fillE,cells_int,cells_str,cells_sl,cells_bool,cells_agg,trips,fill,Log.push,addrOf,findL,obeq_refl,t0,t1,t4,t5,k0,e1,f1]
    exact ⟨by simp [t0],by simp [t1],by simp [t4],by simp [t5]⟩
  exact ⟨(baseS 3 ln).wEx x1,fr',_,e,F',Q1.put _,own_mk (o := 3) (by omega) (by omega) (fun a b c d => by first | exact absurd rfl a | exact absurd rfl b | exact absurd rfl c | exact absurd rfl d) (fun _ => rfl) (fun q => by omega) (fun _ => rfl) (.inl rfl) (fun _ => hn1.fine (by omega)) (fun a b c d => by first | exact absurd rfl a | exact absurd rfl b | exact absurd rfl c | exact absurd rfl d),rfl,rfl,rfl⟩
theorem sw27_4 (m:Nat) (hm:20 ≤ m) {fl:Bool} {bs:List Int} {M T:Nat} {line left ln:Int} {h0:H} {i4 i5:Nat} {h:H} (P:PS fl bs M T line left h0 i4 i5 zeroS (baseS 4 ln).v 11 h) {d:Int} {fr:Fr} (F:F27 M i4 i5 d fr) :
    ∃ (x:Stmt) (fr':Fr) (h':H),exec (call fns m) m (.seq q27_6 (.block 0 sw27)) fr h = some (.norm,fr',h') ∧ F27 M i4 i5 d fr' ∧ PS fl bs M T line left h0 i4 i5 zeroS x.v 11 h' ∧ Made 4 x := by
  obtain ⟨t0,t1,t4,t5⟩ := F
  have k0:ldv h 1 false (.ptr i5 0 0) = some (.int .i64 4) := ldS0 P.b5
  obtain ⟨nm1,g1,e1,hn1,s1,st1⟩ := ok_48 m (by omega) P.ls [[109],[110]] (by decide) (by decide) (by decide)
  have Q1 := P.step s1 st1
  simp only [List.map] at e1
  have f1 := stvS_Name Q1.b5 nm1
  obtain ⟨fr',e,F'⟩:∃ fr',exec (call fns m) m (.seq q27_6 (.block 0 sw27)) fr h = some (.norm,fr',g1.set i5 (.row [((baseS 4 ln).wName nm1).v] 11 .rw)) ∧ F27 M i4 i5 d fr' := by
    simp [q27_6,sw27,br27_76,stepE,nilv,pairs,fillE,cells_int,cells_str,cells_sl,cells_bool,cells_agg,trips,fill,Log.push,addrOf,findL,obeq_refl,t0,t1,t4,t5,k0,e1,f1]
    exact ⟨by simp [t0],by simp [t1],by simp [t4],by simp [t5]⟩
  exact ⟨(baseS 4 ln).wName nm1,fr',_,e,F',Q1.put _,own_mk (o := 4) (by omega) (by omega) (fun _ _ _ _ => hn1) (fun q => by omega) (fun q => by omega) (fun _ => rfl) (.inl rfl) (fun q => by omega) (fun _ _ _ _ => zeroX_zero),rfl,rfl,rfl⟩
theorem sw27_5 (m:Nat) (hm:20 ≤ m) {fl:Bool} {bs:List Int} {M T:Nat} {line left ln:Int} {h0:H} {i4 i5:Nat} {h:H} (P:PS fl bs M T line left h0 i4 i5 zeroS (baseS 5 ln).v 11 h) {d:Int} {fr:Fr} (F:F27 M i4 i5 d fr) :
    ∃ (x:Stmt) (fr':Fr) (h':H),exec (call fns m) m (.seq q27_6 (.block 0 sw27)) fr h = some (.norm,fr',h') ∧ F27 M i4 i5 d fr' ∧ PS fl bs M T line left h0 i4 i5 zeroS x.v 11 h' ∧ Made 5 x := by
  obtain ⟨t0,t1,t4,t5⟩ := F
  have k0:ldv h 1 false (.ptr i5 0 0) = some (.int .i64 5) := ldS0 P.b5
  obtain ⟨nm1,g1,e1,hn1,s1,st1⟩ := ok_48 m (by omega) P.ls [[114]] (by decide) (by decide) (by decide)
  have Q1 := P.step s1 st1
  simp only [List.map] at e1
  have f1 := stvS_Name Q1.b5 nm1
  obtain ⟨fr',e,F'⟩:∃ fr',exec (call fns m) m (.seq q27_6 (.block 0 sw27)) fr h = some (.norm,fr',g1.set i5 (.row [((baseS 5 ln).wName nm1).v] 11 .rw)) ∧ F27 M i4 i5 d fr' := by
    simp [q27_6,sw27,br27_82,stepE,nilv,pairs,fillE,cells_int,cells_str,cells_sl,cells_bool,cells_agg,trips,fill,Log.push,addrOf,findL,obeq_refl,t0,t1,t4,t5,k0,e1,f1]
    exact ⟨by simp [t0],by simp [t1],by simp [t4],by simp [t5]⟩
  exact ⟨(baseS 5 ln).wName nm1,fr',_,e,F',Q1.put _,own_mk (o := 5) (by omega) (by omega) (fun _ _ _ _ => hn1) (fun q => by omega) (fun q => by omega) (fun _ => rfl) (.inl rfl) (fun q => by omega) (fun _ _ _ _ => zeroX_zero),rfl,rfl,rfl⟩
theorem sw27_6 (m:Nat) (hm:20 ≤ m) {fl:Bool} {bs:List Int} {M T:Nat} {line left ln:Int} {h0:H} {i4 i5:Nat} {h:H} (P:PS fl bs M T line left h0 i4 i5 zeroS (baseS 6 ln).v 11 h) {d:Int} {fr:Fr} (F:F27 M i4 i5 d fr) :
    ∃ (x:Stmt) (fr':Fr) (h':H),exec (call fns m) m (.seq q27_6 (.block 0 sw27)) fr h = some (.norm,fr',h') ∧ F27 M i4 i5 d fr' ∧ PS fl bs M T line left h0 i4 i5 zeroS x.v 11 h' ∧ Made 6 x := by
  obtain ⟨t0,t1,t4,t5⟩ := F
  have k0:ldv h 1 false (.ptr i5 0 0) = some (.int .i64 6) := ldS0 P.b5
  obtain ⟨nm1,g1,e1,hn1,s1,st1⟩ := ok_48 m (by omega) P.ls [[114]] (by decide) (by decide) (by decide)
  have Q1 := P.step s1 st1
  simp only [List.map] at e1
  have f1 := stvS_Name Q1.b5 nm1
  obtain ⟨fr',e,F'⟩:∃ fr',exec (call fns m) m (.seq q27_6 (.block 0 sw27)) fr h = some (.norm,fr',g1.set i5 (.row [((baseS 6 ln).wName nm1).v] 11 .rw)) ∧ F27 M i4 i5 d fr' := by
    simp [q27_6,sw27,br27_82,stepE,nilv,pairs,fillE,cells_int,cells_str,cells_sl,cells_bool,cells_agg,trips,fill,Log.push,addrOf,findL,obeq_refl,t0,t1,t4,t5,k0,e1,f1]
    exact ⟨by simp [t0],by simp [t1],by simp [t4],by simp [t5]⟩
  exact ⟨(baseS 6 ln).wName nm1,fr',_,e,F',Q1.put _,own_mk (o := 6) (by omega) (by omega) (fun _ _ _ _ => hn1) (fun q => by omega) (fun q => by omega) (fun _ => rfl) (.inl rfl) (fun q => by omega) (fun _ _ _ _ => zeroX_zero),rfl,rfl,rfl⟩
theorem sw27_7 (m:Nat) (hm:20 ≤ m) {fl:Bool} {bs:List Int} {M T:Nat} {line left ln:Int} {h0:H} {i4 i5:Nat} {h:H} (P:PS fl bs M T line left h0 i4 i5 zeroS (baseS 7 ln).v 11 h) {d:Int} {fr:Fr} (F:F27 M i4 i5 d fr) :
    ∃ (x:Stmt) (fr':Fr) (h':H),exec (call fns m) m (.seq q27_6 (.block 0 sw27)) fr h = some (.norm,fr',h') ∧ F27 M i4 i5 d fr' ∧ PS fl bs M T line left h0 i4 i5 zeroS x.v 11 h' ∧ Made 7 x := by
  obtain ⟨t0,t1,t4,t5⟩ := F
  have k0:ldv h 1 false (.ptr i5 0 0) = some (.int .i64 7) := ldS0 P.b5
  obtain ⟨fr',e,F'⟩:∃ fr',exec (call fns m) m (.seq q27_6 (.block 0 sw27)) fr h = some (.norm,fr',h) ∧ F27 M i4 i5 d fr' := by
    simp [q27_6,sw27,br27_89,stepE,nilv,pairs,fillE,cells_int,cells_str,cells_sl,cells_bool,cells_agg,trips,fill,Log.push,addrOf,findL,obeq_refl,t0,t1,t4,t5,k0]
    exact ⟨by simp [t0],by simp [t1],by simp [t4],by simp [t5]⟩
  exact ⟨baseS 7 ln,fr',_,e,F',P,own_mk (o := 7) (by omega) (by omega) (fun a b c d => by first | exact absurd rfl a | exact absurd rfl b | exact absurd rfl c | exact absurd rfl d) (fun _ => rfl) (fun q => by omega) (fun _ => rfl) (.inl rfl) (fun q => by omega) (fun _ _ _ _ => zeroX_zero),rfl,rfl,rfl⟩
theorem sw27_8 (m:Nat) (hm:20 ≤ m) {fl:Bool} {bs:List Int} {M T:Nat} {line left ln:Int} {h0:H} {i4 i5:Nat} {h:H} (P:PS fl bs M T line left h0 i4 i5 zeroS (baseS 8 ln).v 11 h) {d:Int} {fr:Fr} (F:F27 M i4 i5 d fr) :
    ∃ (x:Stmt) (fr':Fr) (h':H),exec (call fns m) m (.seq q27_6 (.block 0 sw27)) fr h = some (.norm,fr',h') ∧ F27 M i4 i5 d fr' ∧ PS fl bs M T line left h0 i4 i5 zeroS x.v 11 h' ∧ Made 8 x := by
  obtain ⟨t0,t1,t4,t5⟩ := F
  have k0:ldv h 1 false (.ptr i5 0 0) = some (.int .i64 8) := ldS0 P.b5
  obtain ⟨fr',e,F'⟩:∃ fr',exec (call fns m) m (.seq q27_6 (.block 0 sw27)) fr h = some (.norm,fr',h) ∧ F27 M i4 i5 d fr' := by
    simp [q27_6,sw27,br27_89,stepE,nilv,pairs,fillE,cells_int,cells_str,cells_sl,cells_bool,cells_agg,trips,fill,Log.push,addrOf,findL,obeq_refl,t0,t1,t4,t5,k0]
    exact ⟨by simp [t0],by simp [t1],by simp [t4],by simp [t5]⟩
  exact ⟨baseS 8 ln,fr',_,e,F',P,own_mk (o := 8) (by omega) (by omega) (fun a b c d => by first | exact absurd rfl a | exact absurd rfl b | exact absurd rfl c | exact absurd rfl d) (fun _ => rfl) (fun q => by omega) (fun _ => rfl) (.inl rfl) (fun q => by omega) (fun _ _ _ _ => zeroX_zero),rfl,rfl,rfl⟩
theorem sw27_9 (m:Nat) (hm:20 ≤ m) {fl:Bool} {bs:List Int} {M T:Nat} {line left ln:Int} {h0:H} {i4 i5:Nat} {h:H} (P:PS fl bs M T line left h0 i4 i5 zeroS (baseS 9 ln).v 11 h) {d:Int} {fr:Fr} (F:F27 M i4 i5 d fr) :
    ∃ (x:Stmt) (fr':Fr) (h':H),exec (call fns m) m (.seq q27_6 (.block 0 sw27)) fr h = some (.norm,fr',h') ∧ F27 M i4 i5 d fr' ∧ PS fl bs M T line left h0 i4 i5 zeroS x.v 11 h' ∧ Made 9 x := by
  obtain ⟨t0,t1,t4,t5⟩ := F
  have k0:ldv h 1 false (.ptr i5 0 0) = some (.int .i64 9) := ldS0 P.b5
  obtain ⟨nm1,g1,e1,hn1,s1,st1⟩ := ok_48 m (by omega) P.ls [[99]] (by decide) (by decide) (by decide)
  have Q1 := P.step s1 st1
  simp only [List.map] at e1
  have f1 := stvS_Name Q1.b5 nm1
  obtain ⟨fr',e,F'⟩:∃ fr',exec (call fns m) m (.seq q27_6 (.block 0 sw27)) fr h = some (.norm,fr',g1.set i5 (.row [((baseS 9 ln).wName nm1).v] 11 .rw)) ∧ F27 M i4 i5 d fr' := by
    simp [q27_6,sw27,br27_92,stepE,nilv,pairs,fillE,cells_int,cells_str,cells_sl,cells_bool,cells_agg,trips,fill,Log.push,addrOf,findL,obeq_refl,t0,t1,t4,t5,k0,e1,f1]
    exact ⟨by simp [t0],by simp [t1],by simp [t4],by simp [t5]⟩
  exact ⟨(baseS 9 ln).wName nm1,fr',_,e,F',Q1.put _,own_mk (o := 9) (by omega) (by omega) (fun _ _ _ _ => hn1) (fun q => by omega) (fun q => by omega) (fun _ => rfl) (.inl rfl) (fun q => by omega) (fun _ _ _ _ => zeroX_zero),rfl,rfl,rfl⟩
theorem sw27_10 (m:Nat) (hm:20 ≤ m) {fl:Bool} {bs:List Int} {M T:Nat} {line left ln:Int} {h0:H} {i4 i5:Nat} {h:H} (P:PS fl bs M T line left h0 i4 i5 zeroS (baseS 10 ln).v 11 h) {d:Int} {fr:Fr} (F:F27 M i4 i5 d fr) :
    ∃ (x:Stmt) (fr':Fr) (h':H),exec (call fns m) m (.seq q27_6 (.block 0 sw27)) fr h = some (.norm,fr',h') ∧ F27 M i4 i5 d fr' ∧ PS fl bs M T line left h0 i4 i5 zeroS x.v 11 h' ∧ Made 10 x := by
  obtain ⟨t0,t1,t4,t5⟩ := F
  have k0:ldv h 1 false (.ptr i5 0 0) = some (.int .i64 10) := ldS0 P.b5
  obtain ⟨nm1,g1,e1,hn1,s1,st1⟩ := ok_48 m (by omega) P.ls [[99]] (by decide) (by decide) (by decide)
  have Q1 := P.step s1 st1
  simp only [List.map] at e1
  have f1 := stvS_Name Q1.b5 nm1
  obtain ⟨fr',e,F'⟩:∃ fr',exec (call fns m) m (.seq q27_6 (.block 0 sw27)) fr h = some (.norm,fr',g1.set i5 (.row [((baseS 10 ln).wName nm1).v] 11 .rw)) ∧ F27 M i4 i5 d fr' := by
    simp [q27_6,sw27,br27_92,stepE,nilv,pairs,fillE,cells_int,cells_str,cells_sl,cells_bool,cells_agg,trips,fill,Log.push,addrOf,findL,obeq_refl,t0,t1,t4,t5,k0,e1,f1]
    exact ⟨by simp [t0],by simp [t1],by simp [t4],by simp [t5]⟩
  exact ⟨(baseS 10 ln).wName nm1,fr',_,e,F',Q1.put _,own_mk (o := 10) (by omega) (by omega) (fun _ _ _ _ => hn1) (fun q => by omega) (fun q => by omega) (fun _ => rfl) (.inl rfl) (fun q => by omega) (fun _ _ _ _ => zeroX_zero),rfl,rfl,rfl⟩
theorem sw27_11 (m:Nat) (hm:20 ≤ m) {fl:Bool} {bs:List Int} {M T:Nat} {line left ln:Int} {h0:H} {i4 i5:Nat} {h:H} (P:PS fl bs M T line left h0 i4 i5 zeroS (baseS 11 ln).v 11 h) {d:Int} {fr:Fr} (F:F27 M i4 i5 d fr) :
    ∃ (x:Stmt) (fr':Fr) (h':H),exec (call fns m) m (.seq q27_6 (.block 0 sw27)) fr h = some (.norm,fr',h') ∧ F27 M i4 i5 d fr' ∧ PS fl bs M T line left h0 i4 i5 zeroS x.v 11 h' ∧ Made 11 x := by
  obtain ⟨t0,t1,t4,t5⟩ := F
  have k0:ldv h 1 false (.ptr i5 0 0) = some (.int .i64 11) := ldS0 P.b5
  obtain ⟨nm1,g1,e1,hn1,s1,st1⟩ := ok_48 m (by omega) P.ls [[99]] (by decide) (by decide) (by decide)
  have Q1 := P.step s1 st1
  simp only [List.map] at e1
  have f1 := stvS_Name Q1.b5 nm1
  obtain ⟨fr',e,F'⟩:∃ fr',exec (call fns m) m (.seq q27_6 (.block 0 sw27)) fr h = some (.norm,fr',g1.set i5 (.row [((baseS 11 ln).wName nm1).v] 11 .rw)) ∧ F27 M i4 i5 d fr' := by
    simp [q27_6,sw27,br27_92,stepE,nilv,pairs,fillE,cells_int,cells_str,cells_sl,cells_bool,cells_agg,trips,fill,Log.push,addrOf,findL,obeq_refl,t0,t1,t4,t5,k0,e1,f1]
    exact ⟨by simp [t0],by simp [t1],by simp [t4],by simp [t5]⟩
  exact ⟨(baseS 11 ln).wName nm1,fr',_,e,F',Q1.put _,own_mk (o := 11) (by omega) (by omega) (fun _ _ _ _ => hn1) (fun q => by omega) (fun q => by omega) (fun _ => rfl) (.inl rfl) (fun q => by omega) (fun _ _ _ _ => zeroX_zero),rfl,rfl,rfl⟩
theorem sw27_12 (m:Nat) (hm:20 ≤ m) {fl:Bool} {bs:List Int} {M T:Nat} {line left ln:Int} {h0:H} {i4 i5:Nat} {h:H} (P:PS fl bs M T line left h0 i4 i5 zeroS (baseS 12 ln).v 11 h) {d:Int} {fr:Fr} (F:F27 M i4 i5 d fr) :
    ∃ (x:Stmt) (fr':Fr) (h':H),exec (call fns m) m (.seq q27_6 (.block 0 sw27)) fr h = some (.norm,fr',h') ∧ F27 M i4 i5 d fr' ∧ PS fl bs M T line left h0 i4 i5 zeroS x.v 11 h' ∧ Made 12 x := by
  obtain ⟨t0,t1,t4,t5⟩ := F
  have k0:ldv h 1 false (.ptr i5 0 0) = some (.int .i64 12) := ldS0 P.b5
  obtain ⟨nm1,g1,e1,hn1,s1,st1⟩ := ok_48 m (by omega) P.ls [[116],[117],[119]] (by decide) (by decide) (by decide)
  have Q1 := P.step s1 st1
  simp only [List.map] at e1
  have f1 := stvS_Name Q1.b5 nm1
  obtain ⟨fr',e,F'⟩:∃ fr',exec (call fns m) m (.seq q27_6 (.block 0 sw27)) fr h = some (.norm,fr',g1.set i5 (.row [((baseS 12 ln).wName nm1).v] 11 .rw)) ∧ F27 M i4 i5 d fr' := by
    simp [q27_6,sw27,br27_100,stepE,nilv,pairs,fillE,cells_int,cells_str,cells_sl,cells_bool,cells_agg,trips,fill,Log.push,addrOf,findL,obeq_refl,t0,t1,t4,t5,k0,e1,f1]
    exact ⟨by simp [t0],by simp [t1],by simp [t4],by simp [t5]⟩
  exact ⟨(baseS 12 ln).wName nm1,fr',_,e,F',Q1.put _,own_mk (o := 12) (by omega) (by omega) (fun _ _ _ _ => hn1) (fun q => by omega) (fun q => by omega) (fun _ => rfl) (.inl rfl) (fun q => by omega) (fun _ _ _ _ => zeroX_zero),rfl,rfl,rfl⟩
theorem sw27_13 (m:Nat) (hm:20 ≤ m) {fl:Bool} {bs:List Int} {M T:Nat} {line left ln:Int} {h0:H} {i4 i5:Nat} {h:H} (P:PS fl bs M T line left h0 i4 i5 zeroS (baseS 13 ln).v 11 h) {d:Int} {fr:Fr} (F:F27 M i4 i5 d fr) :
    ∃ (x:Stmt) (fr':Fr) (h':H),exec (call fns m) m (.seq q27_6 (.block 0 sw27)) fr h = some (.norm,fr',h') ∧ F27 M i4 i5 d fr' ∧ PS fl bs M T line left h0 i4 i5 zeroS x.v 11 h' ∧ Made 13 x := by
  obtain ⟨t0,t1,t4,t5⟩ := F
  have k0:ldv h 1 false (.ptr i5 0 0) = some (.int .i64 13) := ldS0 P.b5
  obtain ⟨nm1,g1,e1,hn1,s1,st1⟩ := ok_48 m (by omega) P.ls [[116],[117],[119]] (by decide) (by decide) (by decide)
  have Q1 := P.step s1 st1
  simp only [List.map] at e1
  have f1 := stvS_Name Q1.b5 nm1
  obtain ⟨fr',e,F'⟩:∃ fr',exec (call fns m) m (.seq q27_6 (.block 0 sw27)) fr h = some (.norm,fr',g1.set i5 (.row [((baseS 13 ln).wName nm1).v] 11 .rw)) ∧ F27 M i4 i5 d fr' := by
    simp [q27_6,sw27,br27_100,stepE,nilv,pairs,fillE,cells_int,cells_str,cells_sl,cells_bool,cells_agg,trips,fill,Log.push,addrOf,findL,obeq_refl,t0,t1,t4,t5,k0,e1,f1]
    exact ⟨by simp [t0],by simp [t1],by simp [t4],by simp [t5]⟩
  exact ⟨(baseS 13 ln).wName nm1,fr',_,e,F',Q1.put _,own_mk (o := 13) (by omega) (by omega) (fun _ _ _ _ => hn1) (fun q => by omega) (fun q => by omega) (fun _ => rfl) (.inl rfl) (fun q => by omega) (fun _ _ _ _ => zeroX_zero),rfl,rfl,rfl⟩
theorem sw27_14 (m:Nat) (hm:20 ≤ m) {fl:Bool} {bs:List Int} {M T:Nat} {line left ln:Int} {h0:H} {i4 i5:Nat} {h:H} (P:PS fl bs M T line left h0 i4 i5 zeroS (baseS 14 ln).v 11 h) {d:Int} {fr:Fr} (F:F27 M i4 i5 d fr) :
    ∃ (x:Stmt) (fr':Fr) (h':H),exec (call fns m) m (.seq q27_6 (.block 0 sw27)) fr h = some (.norm,fr',h') ∧ F27 M i4 i5 d fr' ∧ PS fl bs M T line left h0 i4 i5 zeroS x.v 11 h' ∧ Made 14 x := by
  obtain ⟨t0,t1,t4,t5⟩ := F
  have k0:ldv h 1 false (.ptr i5 0 0) = some (.int .i64 14) := ldS0 P.b5
  obtain ⟨nm1,g1,e1,hn1,s1,st1⟩ := ok_48 m (by omega) P.ls [[102]] (by decide) (by decide) (by decide)
  have Q1 := P.step s1 st1
  simp only [List.map] at e1
  have f1 := stvS_Name Q1.b5 nm1
  have R1 := Q1.put ((baseS 14 ln).wName nm1).v
  obtain ⟨j1,hj1⟩:∃ j1,j1 = g1.set i5 (.row [((baseS 14 ln).wName nm1).v] 11 .rw) := ⟨_,rfl⟩
  rw [← hj1] at f1 R1
  obtain ⟨x2,g2,e2,hn2,s2,st2⟩ := ok_49' 1 m (by omega) (by omega) R1.ls
  have Q2 := R1.step s2 st2
  have c2 := ecells x2
  change call fns m 49 [.ptr M 0 0,.int .i64 1] _ = _ at e2
  have f2 := stvS_Ex Q2.b5 x2
  obtain ⟨fr',e,F'⟩:∃ fr',exec (call fns m) m (.seq q27_6 (.block 0 sw27)) fr h = some (.norm,fr',g2.set i5 (.row [(((baseS 14 ln).wName nm1).wEx x2).v] 11 .rw)) ∧ F27 M i4 i5 d fr' := by
    simp [q27_6,sw27,br27_107,stepE,nilv,pairs,fillE,cells_int,cells_str,cells_sl,cells_bool,cells_agg,trips,fill,Log.push,addrOf,findL,obeq_refl,t0,t1,t4,t5,k0,e1,f1,e2,f2]
    exact ⟨by simp [t0],by simp [t1],by simp [t4],by simp [t5]⟩
  exact ⟨((baseS 14 ln).wName nm1).wEx x2,fr',_,e,F',Q2.put _,own_mk (o := 14) (by omega) (by omega) (fun _ _ _ _ => hn1) (fun q => by omega) (fun q => by omega) (fun _ => rfl) (.inl rfl) (fun _ => hn2.fine (by omega)) (fun a b c d => by first | exact absurd rfl a | exact absurd rfl b | exact absurd rfl c | exact absurd rfl d),rfl,rfl,rfl⟩
theorem sw27_15 (m:Nat) (hm:20 ≤ m) {fl:Bool} {bs:List Int} {M T:Nat} {line left ln:Int} {h0:H} {i4 i5:Nat} {h:H} (P:PS fl bs M T line left h0 i4 i5 zeroS (baseS 15 ln).v 11 h) {d:Int} {fr:Fr} (F:F27 M i4 i5 d fr) :
    ∃ (x:Stmt) (fr':Fr) (h':H),exec (call fns m) m (.seq q27_6 (.block 0 sw27)) fr h = some (.norm,fr',h') ∧ F27 M i4 i5 d fr' ∧ PS fl bs M T line left h0 i4 i5 zeroS x.v 11 h' ∧ Made 15 x := by
  obtain ⟨t0,t1,t4,t5⟩ := F
  have k0:ldv h 1 false (.ptr i5 0 0) = some (.int .i64 15) := ldS0 P.b5
  obtain ⟨nm1,g1,e1,hn1,s1,st1⟩ := ok_48 m (by omega) P.ls [[97]] (by decide) (by decide) (by decide)
  have Q1 := P.step s1 st1
  simp only [List.map] at e1
  have f1 := stvS_Name Q1.b5 nm1
  have R1 := Q1.put ((baseS 15 ln).wName nm1).v
  obtain ⟨j1,hj1⟩:∃ j1,j1 = g1.set i5 (.row [((baseS 15 ln).wName nm1).v] 11 .rw) := ⟨_,rfl⟩
  rw [← hj1] at f1 R1
  obtain ⟨nm2,g2,e2,hn2,s2,st2⟩ := ok_48 m (by omega) R1.ls [[102]] (by decide) (by decide) (by decide)
  have Q2 := R1.step s2 st2
  simp only [List.map] at e2
  have f2 := stvS_Arg Q2.b5 nm2
  obtain ⟨fr',e,F'⟩:∃ fr',exec (call fns m) m (.seq q27_6 (.block 0 sw27)) fr h = some (.norm,fr',g2.set i5 (.row [(((baseS 15 ln).wName nm1).wArg nm2).v] 11 .rw)) ∧ F27 M i4 i5 d fr' := by
    simp [q27_6,sw27,br27_116,stepE,nilv,pairs,fillE,cells_int,cells_str,cells_sl,cells_bool,cells_agg,trips,fill,Log.push,addrOf,findL,obeq_refl,t0,t1,t4,t5,k0,e1,f1,e2,f2]
    exact ⟨by simp [t0],by simp [t1],by simp [t4],by simp [t5]⟩
  exact ⟨((baseS 15 ln).wName nm1).wArg nm2,fr',_,e,F',Q2.put _,own_mk (o := 15) (by omega) (by omega) (fun _ _ _ _ => hn1) (fun q => by omega) (fun _ => hn2) (fun q => absurd rfl q) (.inl rfl) (fun q => by omega) (fun _ _ _ _ => zeroX_zero),rfl,rfl,rfl⟩
theorem sw27_all (m:Nat) (hm:20 ≤ m) (o:Int) (h1:1 ≤ o) (h15:o ≤ 15) {fl:Bool} {bs:List Int} {M T:Nat} {line left ln:Int} {h0:H} {i4 i5:Nat} {h:H} (P:PS fl bs M T line left h0 i4 i5 zeroS (baseS o ln).v 11 h) {d:Int} {fr:Fr} (F:F27 M i4 i5 d fr) :
    ∃ (x:Stmt) (fr':Fr) (h':H),exec (call fns m) m (.seq q27_6 (.block 0 sw27)) fr h = some (.norm,fr',h') ∧ F27 M i4 i5 d fr' ∧ PS fl bs M T line left h0 i4 i5 zeroS x.v 11 h' ∧ Made o x := by
  have:o = 1 ∨ o = 2 ∨ o = 3 ∨ o = 4 ∨ o = 5 ∨ o = 6 ∨ o = 7 ∨ o = 8 ∨ o = 9 ∨ o = 10 ∨ o = 11 ∨ o = 12 ∨ o = 13 ∨ o = 14 ∨ o = 15 := by omega
  rcases this with rfl | rfl | rfl | rfl | rfl | rfl | rfl | rfl | rfl | rfl | rfl | rfl | rfl | rfl | rfl
  · exact sw27_1 m hm P F
  · exact sw27_2 m hm P F
  · exact sw27_3 m hm P F
  · exact sw27_4 m hm P F
  · exact sw27_5 m hm P F
  · exact sw27_6 m hm P F
  · exact sw27_7 m hm P F
  · exact sw27_8 m hm P F
  · exact sw27_9 m hm P F
  · exact sw27_10 m hm P F
  · exact sw27_11 m hm P F
  · exact sw27_12 m hm P F
  · exact sw27_13 m hm P F
  · exact sw27_14 m hm P F
  · exact sw27_15 m hm P F
def S14 (n d:Nat):Prop := ∀ (fl:Bool) (bs:List Int) (M T:Nat) (line left:Int) (h:H),LS fl bs M T line left h → 0 ≤ left → left < 1000 → ∀ q:Int,0 ≤ q → q < 1000 →
  ∃ (f:Bool) (l:List Stmt) (line' left':Int) (h':H),call fns n 14 [.ptr M 0 0,.int .i64 (d:Int),.int .i64 q] h = some (.sl f (l.map Stmt.v),h') ∧ allL Stmt.Own l ∧ (Stmt.cntL l:Int) = left - left' ∧ 0 ≤ left' ∧ LS fl bs M T line' left' h' ∧ Step [M,T] [M,T] h h'
def S27 (n d:Nat):Prop := ∀ (fl:Bool) (bs:List Int) (M T:Nat) (line left:Int) (h:H),LS fl bs M T line left h → 1 ≤ left → left < 1000 →
  ∃ (x:Stmt) (line' left':Int) (h':H),call fns n 27 [.ptr M 0 0,.int .i64 (d:Int)] h = some (x.v,h') ∧ allS Stmt.Own x ∧ (x.cnt:Int) = left - left' ∧ 0 ≤ left' ∧ LS fl bs M T line' left' h' ∧ Step [M,T] [M,T] h h'
theorem own_wBd {x:Stmt} (h:x.Own) (f:Bool) (l:List Stmt) (h2:2 ≤ x.op) (h8:x.op ≤ 8):(x.wBd f l).Own :=
  ⟨h.o1,h.o15,h.nm,h.nm0,h.ar,h.ar0,h.ix,h.ex,h.ex0,fun q => by have:x.op < 2 ∨ 8 < x.op := q; omega,h.el⟩
theorem own_wEl {x:Stmt} (h:x.Own) (f:Bool) (l:List Stmt) (h2:x.op = 2):(x.wEl f l).Own :=
  ⟨h.o1,h.o15,h.nm,h.nm0,h.ar,h.ar0,h.ix,h.ex,h.ex0,h.bd,fun q => absurd h2 q⟩
theorem end27 (cf:CallF) (m:Nat) {fl:Bool} {bs:List Int} {M T:Nat} {line left:Int} {h0:H} {i4 i5:Nat} {x:Stmt} {h:H} (P:PS fl bs M T line left h0 i4 i5 zeroS x.v 11 h) {d:Int} {fr:Fr} (F:F27 M i4 i5 d fr) :
    ∃ (fr':Fr) (h':H),exec cf m (.seq q27_39 .ret) fr h = some (.ret,fr',h') ∧ Fr.get fr' 4 = some (.ptr i4 0 0) ∧ ldv h' 11 true (.ptr i4 0 0) = some x.v ∧ LS fl bs M T line left h' ∧ Step [M,T] [M,T] h0 h' := by
  obtain ⟨t0,t1,t4,t5⟩ := F
  have la := ldSa P.b5
  have es := stvS0 (y := x) P.b2
  obtain ⟨L,S⟩ := P.done (.row [x.v] 11 .rw)
  have lr:ldv (h.set i4 (.row [x.v] 11 .rw)) 11 true (.ptr i4 0 0) = some x.v := ldSa (kd := .rw) (by simp [H.get_set])
  obtain ⟨fr',e,f4⟩:∃ fr',exec cf m (.seq q27_39 .ret) fr h = some (.ret,fr',h.set i4 (.row [x.v] 11 .rw)) ∧ Fr.get fr' 4 = some (.ptr i4 0 0) := by
    simp [q27_39,t4,t5,la,es]
  exact ⟨fr',_,e,f4,lr,L,S⟩
theorem st27 (m d:Nat) (hm:20 ≤ m) (hd:d < 100) (h14:∀ d',d = d' + 1 → S14 m d'):S27 (m + 1) d := by
  intro fl bs M T line left h s hl1 hl2
  obtain ⟨o,line1,i5,fr1,h1,e1,F1,o1,o15,od,P1⟩ := head27 m (by omega) s hl1 hl2 d hd
  obtain ⟨x,fr2,h2,e2,F2,P2,mx⟩ := sw27_all m hm o o1 o15 P1 F1
  have mid:∃ (y:Stmt) (line' left':Int) (fr3:Fr) (h3:H),exec (call fns m) m q27_35 fr2 h2 = some (.norm,fr3,h3) ∧ F27 M (h.nx * 256) i5 d fr3 ∧ PS fl bs M T line' left' h (h.nx * 256) i5 zeroS y.v 11 h3 ∧ allS Stmt.Own y ∧ (y.cnt:Int) = left - left' ∧ 0 ≤ left' := by
    have k0 := ldS0 P2.b5
    rw [mx.op] at k0
    obtain ⟨t0,t1,t4,t5⟩ := F2
    by_cases c1:2 ≤ o
    · by_cases c2:o ≤ 8
      · obtain ⟨d',rfl⟩:∃ d',d = d' + 1 := ⟨d - 1,by have:d ≠ 0 := fun q => od q ⟨c1,c2⟩; omega⟩
        have ih := h14 d' rfl
        have wd:wrp .i64 (d':Int) = (d':Int) := wrp_i64 (by omega) (by omega)
        have kT := P2.ls.ldT
        obtain ⟨k1,g1,f1,a0,a1,s1,st1,_⟩ := ok_11 m (by omega) P2.ls 3 (by omega) (by omega)
        have Q1 := P2.step s1 st1
        have wk:wrp .i64 (1 + k1) = 1 + k1 := wrp_i64 (by omega) (by omega)
        obtain ⟨fb,lb,line2,left2,g2,f2,ob,cb,l2,s2,st2⟩ := ih fl bs M T line1 (left - 1) g1 s1 (by omega) (by omega) (1 + k1) (by omega) (by omega)
        have Q2 := Q1.step s2 st2
        have f3 := stvS_Bd Q2.b5 fb lb
        have R2 := Q2.put (x.wBd fb lb).v
        obtain ⟨j2,hj2⟩:∃ j2,j2 = g2.set i5 (.row [(x.wBd fb lb).v] 11 .rw) := ⟨_,rfl⟩
        rw [← hj2] at f3 R2
        have kk := ldS0 R2.b5
        have hop:(x.wBd fb lb).op = o := mx.op
        rw [hop] at kk
        have ow := own_wBd mx.own fb lb (by rw [mx.op]; exact c1) (by rw [mx.op]; exact c2)
        have kT2 := R2.ls.ldT
        have oB:(x.wBd fb lb).body = lb := rfl
        have oE:(x.wBd fb lb).els = [] := mx.els
        by_cases c3:o = 2
        · subst c3
          obtain ⟨k3,g3,f4,b0,b1,s3,st3,_⟩ := ok_11 m (by omega) R2.ls 3 (by omega) (by omega)
          have Q3 := R2.step s3 st3
          by_cases c4:k3 = 2
          · obtain ⟨fe,le,line3,left3,g4,f5,oe,ce,l3,s4,st4⟩ := ih fl bs M T line2 left2 g3 s3 (by omega) (by omega) 1 (by omega) (by omega)
            have Q4 := Q3.step s4 st4
            have f6 := stvS_El Q4.b5 fe le
            obtain ⟨fr3,e,z0,z1,z4,z5⟩:∃ fr3,exec (call fns m) m q27_35 fr2 h2 = some (.norm,fr3,g4.set i5 (.row [((x.wBd fb lb).wEl fe le).v] 11 .rw)) ∧ Fr.get fr3 0 = some (.ptr M 0 0) ∧ Fr.get fr3 1 = some (.int .i64 ((d' + 1:Nat):Int)) ∧ Fr.get fr3 4 = some (.ptr (h.nx * 256) 0 0) ∧ Fr.get fr3 5 = some (.ptr i5 0 0) := by
              simp [q27_35,stepE,nilv,pairs,fillE,cells_int,cells_str,cells_sl,cells_bool,cells_agg,trips,fill,Log.push,addrOf,findL,obeq_refl,t0,t1,t4,t5,k0,kT,f1,wd,wk,f2,f3,kk,kT2,f4,c4,f5,f6]
            refine ⟨(x.wBd fb lb).wEl fe le,line3,left3,fr3,_,e,⟨z0,z1,z4,z5⟩,Q4.put _,(allS_eq _ _).2 ⟨own_wEl ow fe le hop,ob,oe⟩,?_,l3⟩
            rw [Stmt.cnt_eq]
            show ((1 + (Stmt.cntL lb + Stmt.cntL le):Nat):Int) = _
            omega
          · obtain ⟨fr3,e,z0,z1,z4,z5⟩:∃ fr3,exec (call fns m) m q27_35 fr2 h2 = some (.norm,fr3,g3) ∧ Fr.get fr3 0 = some (.ptr M 0 0) ∧ Fr.get fr3 1 = some (.int .i64 ((d' + 1:Nat):Int)) ∧ Fr.get fr3 4 = some (.ptr (h.nx * 256) 0 0) ∧ Fr.get fr3 5 = some (.ptr i5 0 0) := by
              simp [q27_35,stepE,nilv,pairs,fillE,cells_int,cells_str,cells_sl,cells_bool,cells_agg,trips,fill,Log.push,addrOf,findL,obeq_refl,t0,t1,t4,t5,k0,kT,f1,wd,wk,f2,f3,kk,kT2,f4,c4]
            refine ⟨x.wBd fb lb,line2,left2,fr3,_,e,⟨z0,z1,z4,z5⟩,Q3,(allS_eq _ _).2 ⟨ow,ob,by rw [oE]; simp [allL]⟩,?_,l2⟩
            rw [Stmt.cnt_eq,oB,oE]
            simp only [Stmt.cntL]
            omega
        · obtain ⟨fr3,e,z0,z1,z4,z5⟩:∃ fr3,exec (call fns m) m q27_35 fr2 h2 = some (.norm,fr3,j2) ∧ Fr.get fr3 0 = some (.ptr M 0 0) ∧ Fr.get fr3 1 = some (.int .i64 ((d' + 1:Nat):Int)) ∧ Fr.get fr3 4 = some (.ptr (h.nx * 256) 0 0) ∧ Fr.get fr3 5 = some (.ptr i5 0 0) := by
            simp [q27_35,stepE,nilv,pairs,fillE,cells_int,cells_str,cells_sl,cells_bool,cells_agg,trips,fill,Log.push,addrOf,findL,obeq_refl,t0,t1,t4,t5,k0,kT,c1,c2,f1,wd,wk,f2,f3,kk,c3]
          refine ⟨x.wBd fb lb,line2,left2,fr3,_,e,⟨z0,z1,z4,z5⟩,R2,(allS_eq _ _).2 ⟨ow,ob,by rw [oE]; simp [allL]⟩,?_,l2⟩
          rw [Stmt.cnt_eq,oB,oE]
          simp only [Stmt.cntL]
          omega
      · obtain ⟨fr3,e,z0,z1,z4,z5⟩:∃ fr3,exec (call fns m) m q27_35 fr2 h2 = some (.norm,fr3,h2) ∧ Fr.get fr3 0 = some (.ptr M 0 0) ∧ Fr.get fr3 1 = some (.int .i64 (d:Int)) ∧ Fr.get fr3 4 = some (.ptr (h.nx * 256) 0 0) ∧ Fr.get fr3 5 = some (.ptr i5 0 0) := by
          simp [q27_35,stepE,nilv,pairs,fillE,cells_int,cells_str,cells_sl,cells_bool,cells_agg,trips,fill,Log.push,addrOf,findL,obeq_refl,t0,t1,t4,t5,k0,c1,c2]
        refine ⟨x,line1,left - 1,fr3,_,e,⟨z0,z1,z4,z5⟩,P2,(allS_eq _ _).2 ⟨mx.own,by rw [mx.body]; simp [allL],by rw [mx.els]; simp [allL]⟩,?_,by omega⟩
        rw [Stmt.cnt_eq,mx.body,mx.els]
        simp only [Stmt.cntL]
        omega
    · obtain ⟨fr3,e,z0,z1,z4,z5⟩:∃ fr3,exec (call fns m) m q27_35 fr2 h2 = some (.norm,fr3,h2) ∧ Fr.get fr3 0 = some (.ptr M 0 0) ∧ Fr.get fr3 1 = some (.int .i64 (d:Int)) ∧ Fr.get fr3 4 = some (.ptr (h.nx * 256) 0 0) ∧ Fr.get fr3 5 = some (.ptr i5 0 0) := by
        simp [q27_35,stepE,nilv,pairs,fillE,cells_int,cells_str,cells_sl,cells_bool,cells_agg,trips,fill,Log.push,addrOf,findL,obeq_refl,t0,t1,t4,t5,k0,c1]
      refine ⟨x,line1,left - 1,fr3,_,e,⟨z0,z1,z4,z5⟩,P2,(allS_eq _ _).2 ⟨mx.own,by rw [mx.body]; simp [allL],by rw [mx.els]; simp [allL]⟩,?_,by omega⟩
      rw [Stmt.cnt_eq,mx.body,mx.els]
      simp only [Stmt.cntL]
      omega
  obtain ⟨y,line',left',fr3,h3,e3,F3,P3,ay,cy,l3⟩ := mid
  obtain ⟨fr4,h4,e4,f4,lr,L,S⟩ := end27 (call fns m) m P3 F3
  refine ⟨y,line',left',h4,?_,ay,cy,l3,L,S⟩
  rw [call_succ]
  show call1 (call fns m) m f27 _ _ = _
  obtain ⟨_,_,a1,e1⟩ := exec_seq_norm e1
  obtain ⟨_,_,a2,e1⟩ := exec_seq_norm e1
  obtain ⟨_,_,a3,e1⟩ := exec_seq_norm e1
  obtain ⟨_,_,a4,a5⟩ := exec_seq_norm e1
  unfold call1
  rw [shape_27,exec_then a1,exec_then a2,exec_then a3,exec_then a4,exec_then a5,exec_then e2,exec_then e3,e4]
  simp [res_27,fz_27,f4,lr]
theorem Own.freeze {esz:Nat} {h:H} {v:V} {l:List V} (o:Own esz h v l):∃ f h',frz h v = some (.sl f l,h') ∧ (∀ i,i ∉ ids v → h'.get i = h.get i) ∧ h'.nx = h.nx := by
  rcases o with ⟨rfl,rfl⟩ | ⟨id,es,rfl,h1,h2,h3,h4⟩
  · exact ⟨true,h,rfl,fun _ _ => rfl,rfl⟩
  · refine ⟨false,h.set id (.row es esz .ro),?_,fun i hi => ?_,rfl⟩
    · simp [frz,frz1,h1,h3,h2]
    · simp [ids] at hi
      rw [H.get_set,if_neg hi]
/-- A slice that is appended to,beside the tape. -/
structure AP (fl:Bool) (bs:List Int) (M T:Nat) (line left:Int) (h0:H) (esz:Nat) (v:V) (l:List V) (h:H):Prop where
  ls:LS fl bs M T line left h
  own:Own esz h v l
  fr:∀ id,id ∈ ids v → h0.nx * 256 ≤ id
  st:Step [M,T] [M,T] h0 h
  m0:M < h0.nx * 256
  t0:T < h0.nx * 256
theorem AP.step {fl:Bool} {bs:List Int} {M T:Nat} {line left line' left':Int} {h0:H} {esz:Nat} {v:V} {l:List V} {h h':H} (p:AP fl bs M T line left h0 esz v l h) (ls:LS fl bs M T line' left' h') (s:Step [M,T] [M,T] h h'):AP fl bs M T line' left' h0 esz v l h' :=
  ⟨ls,p.own.keep (fun id hi => s.keep id (p.own.lt id hi) (by have := p.fr id hi; have := p.m0; have := p.t0; simp; omega)) s.nx,p.fr,p.st.trans s,p.m0,p.t0⟩
theorem AP.app {fl:Bool} {bs:List Int} {M T:Nat} {line left:Int} {h0:H} {esz:Nat} {v:V} {l:List V} {h:H} (p:AP fl bs M T line left h0 esz v l h) (x:V) (hx:cellsOk esz x = true) (he:0 < esz) (hl:l.length + 1 < bound) (nid:Nat) (hnid:nid < h.nx * 256) (h0n:h0.nx * 256 ≤ nid) (hf:nid ∉ ids v) (w:V) (hw:elems h w = some [x]) :
    ∃ h',appv esz h nid v w = some (.ref nid 0 (l ++ [x]).length esz none,h') ∧ AP fl bs M T line left h0 esz (.ref nid 0 (l ++ [x]).length esz none) (l ++ [x]) h' ∧ h'.nx = h.nx ∧ (∀ i,i ≠ nid → i ∉ ids v → h'.get i = h.get i) := by
  obtain ⟨h',e,o,hn,keep,_⟩ := p.own.app x hx he hl nid hnid hf w hw
  have hm := p.m0
  have ht := p.t0
  have nM:M ∉ ids v := fun q => by have := p.fr _ q; omega
  have nT:T ∉ ids v := fun q => by have := p.fr _ q; omega
  obtain ⟨m,⟨a,ha,t⟩,ne,lm,lt,bl,bb⟩ := p.ls
  refine ⟨h',e,⟨⟨by rw [keep M (by omega) nM]; exact m,⟨a,ha,by rw [keep T (by omega) nT]; exact t⟩,ne,by rw [hn]; exact lm,by rw [hn]; exact lt,bl,bb⟩,o,fun id hi => by simp [ids] at hi; omega,⟨by rw [hn]; exact p.st.nx,fun id i1 i2 => ?_,fun id i1 => .inl i1⟩,hm,ht⟩,hn,keep⟩
  rw [keep id (by omega) (fun q => by have := p.fr _ q; omega)]
  exact p.st.keep id i1 i2
theorem scells (x:Stmt):cellsOk 11 x.v = true := by simp [cellsOk,Stmt.v_eq,V.cells,one]
theorem allL_snoc (P:Stmt → Prop) (l:List Stmt) (x:Stmt) (h:allL P l) (hx:allS P x):allL P (l ++ [x]) := by
  induction l with
  | nil => simp [allL,hx]
  | cons s l ih => rw [List.cons_append,allL]; rw [allL] at h; exact ⟨h.1,ih h.2⟩
theorem cntL_snoc (l:List Stmt) (x:Stmt):Stmt.cntL (l ++ [x]) = Stmt.cntL l + x.cnt := by
  induction l with
  | nil => simp [Stmt.cntL]
  | cons s l ih => simp only [List.cons_append,Stmt.cntL,ih]; omega
structure I14 (fl:Bool) (bs:List Int) (M T:Nat) (d q left0:Int) (h0:H) (i:Nat) (fr:Fr) (k:H):Prop where
  t0:Fr.get fr 0 = some (.ptr M 0 0)
  t1:Fr.get fr 1 = some (.int .i64 d)
  t2:Fr.get fr 2 = some (.int .i64 q)
  t8:Fr.get fr 8 = some (.int .i64 i)
  ex:∃ (v:V) (l:List Stmt) (line left:Int),Fr.get fr 7 = some v ∧ AP fl bs M T line left h0 11 v (l.map Stmt.v) k ∧ allL Stmt.Own l ∧ (Stmt.cntL l:Int) = left0 - left ∧ 0 ≤ left ∧ l.length ≤ i
theorem st14 (m d:Nat) (hm:2000 ≤ m) (h27:S27 m d):S14 (m + 1) d := by
  intro fl bs M T line left h s hl1 hl2 q hq0 hq1
  obtain ⟨n,rfl⟩:∃ n:Nat,q = (n:Int) := ⟨q.toNat,by omega⟩
  have L := loopN_ind (b := exec (call fns m) m b14_0) (n := n) (I := I14 fl bs M T d n left h) (Q := fun y fr' k' => y = .brk 0 ∧ ∃ (v:V) (l:List Stmt) (line' left':Int),Fr.get fr' 7 = some v ∧ AP fl bs M T line' left' h 11 v (l.map Stmt.v) k' ∧ allL Stmt.Own l ∧ (Stmt.cntL l:Int) = left - left' ∧ 0 ≤ left')
    (fun i fr k hi hI => by
      obtain ⟨t0,t1,t2,t8,v,l,line1,left1,t7,A,al,cl,l1,ll⟩ := hI
      have hi':(i:Int) < (n:Int) := by omega
      have hwi:wrp .i64 ((i:Int) + 1) = (i:Int) + 1 := wrp_i64 (by omega) (by omega)
      have kR := A.ls.ldR
      by_cases hz:0 < left1
      · let k1:H := { k with nx := k.nx + 1 }
        have g1:Grow k k1 := (Grow.refl k).up (k.nx + 1) (by omega)
        have A1 := A.step (A.ls.grow g1) (Step.grow _ g1)
        obtain ⟨x,line2,left2,k2,e2,ax,cx,l2,s2,st2⟩ := h27 fl bs M T line1 left1 k1 A1.ls (by omega) (by omega)
        have A2 := A1.step s2 st2
        have hk2 := st2.nx
        have hk1:k1.nx = k.nx + 1 := rfl
        have hA := A.st.nx
        have hf:k.nx * 256 + 5 ∉ ids v := fun hh => by have := A.own.lt _ hh; omega
        obtain ⟨k3,e3,A3,n3,_⟩ := A2.app x.v (scells x) (by omega) (by simp [bound]; omega) (k.nx * 256 + 5) (by omega) (by omega) hf (.sl true [x.v]) rfl
        have hxc := len_106 x
        simp only [k1] at e2
        refine .inl ?_
        obtain ⟨fr',e,f0,f1,f2,f7,f8⟩:∃ fr',exec (call fns m) m b14_0 fr k = some (.norm,fr',k3) ∧ Fr.get fr' 0 = some (.ptr M 0 0) ∧ Fr.get fr' 1 = some (.int .i64 (d:Int)) ∧ Fr.get fr' 2 = some (.int .i64 (n:Int)) ∧ Fr.get fr' 7 = some (.ref (k.nx * 256 + 5) 0 (l.map Stmt.v ++ [x.v]).length 11 none) ∧ Fr.get fr' 8 = some (.int .i64 ((i + 1:Nat):Int)) := by
          simp only [List.length_append,List.length_map,List.length_cons,List.length_nil] at e3 ⊢
          simp [b14_0,stepE,nilv,pairs,fillE,cells_int,cells_str,cells_sl,cells_bool,cells_agg,trips,fill,Log.push,addrOf,findL,obeq_refl,t0,t1,t2,t7,t8,hi',kR,hz,e2,hxc,e3,hwi]
        refine ⟨fr',k3,e,f0,f1,f2,f8,_,l ++ [x],line2,left2,f7,?_,allL_snoc _ l x al ax,?_,l2,by simp; omega⟩
        · simpa using A3
        · rw [cntL_snoc]; omega
      · refine .inr ?_
        obtain ⟨fr',e,f7⟩:∃ fr',exec (call fns m) m b14_0 fr k = some (.brk 0,fr',k) ∧ Fr.get fr' 7 = some v := by
          simp [b14_0,stepE,nilv,pairs,fillE,cells_int,cells_str,cells_sl,cells_bool,cells_agg,trips,fill,Log.push,addrOf,findL,obeq_refl,t0,t1,t2,t7,t8,hi',kR,hz]
        exact ⟨.brk 0,fr',k,by simp,e,rfl,v,l,line1,left1,f7,A,al,cl,l1⟩)
    (fun fr k hI => by
      obtain ⟨t0,t1,t2,t8,v,l,line1,left1,t7,A,al,cl,l1,ll⟩ := hI
      obtain ⟨fr',e,f7⟩:∃ fr',exec (call fns m) m b14_0 fr k = some (.brk 0,fr',k) ∧ Fr.get fr' 7 = some v := by
        simp [b14_0,stepE,nilv,pairs,fillE,cells_int,cells_str,cells_sl,cells_bool,cells_agg,trips,fill,Log.push,addrOf,findL,obeq_refl,t0,t1,t2,t7,t8]
      exact ⟨.brk 0,fr',k,by simp,e,rfl,v,l,line1,left1,f7,A,al,cl,l1⟩)
    n 0 (by omega) (by omega) m (by omega)
  obtain ⟨fr3,e3,f0,f1,f2,f7,f8⟩:∃ fr3,exec (call fns m) m (.seq s14_0 (.seq s14_1 p14_2)) (enter 0 [.ptr M 0 0,.int .i64 (d:Int),.int .i64 (n:Int)]) h = some (.norm,fr3,h) ∧ Fr.get fr3 0 = some (.ptr M 0 0) ∧ Fr.get fr3 1 = some (.int .i64 (d:Int)) ∧ Fr.get fr3 2 = some (.int .i64 (n:Int)) ∧ Fr.get fr3 7 = some (.sl true []) ∧ Fr.get fr3 8 = some (.int .i64 ((0:Nat):Int)) := by
    simp [s14_0,s14_1,p14_2]
  obtain ⟨y,fr4,h4,e4,rfl,v,l,line',left',f7',A,al,cl,l1⟩ := L fr3 h ⟨f0,f1,f2,f8,.sl true [],[],line,left,f7,⟨s,Own.nil _ _,fun id hi => by simp [ids] at hi,Step.refl _ _,s.lm,s.lt⟩,by simp [allL],by simp [Stmt.cntL],hl1,by simp⟩
  obtain ⟨f,h5,ef,keep,hn⟩ := A.own.freeze
  have hm0 := A.m0
  have ht0 := A.t0
  refine ⟨f,l,line',left',h5,?_,al,cl,l1,?_,⟨by rw [hn]; exact A.st.nx,fun id i1 i2 => ?_,fun id i1 => .inl i1⟩⟩
  · rw [call_succ]
    show call1 (call fns m) m f14 _ _ = _
    have q:exec (call fns m) m f14.body (enter 0 [.ptr M 0 0,.int .i64 (d:Int),.int .i64 (n:Int)]) h = exec (call fns m) m (.seq s14_3 s14_4) fr4 h4 := by
      rw [body_14,seg_14_2]
      exact glue3 e3 (exec_brk e4)
    unfold call1
    rw [q]
    simp [s14_3,s14_4,f7',res_14,fz_14,frzR,ef]
  · obtain ⟨m',⟨a,ha,t⟩,ne,lm,lt,bl,bb⟩ := A.ls
    exact ⟨by rw [keep M (fun q => by have := A.fr _ q; omega)]; exact m',⟨a,ha,by rw [keep T (fun q => by have := A.fr _ q; omega)]; exact t⟩,ne,by rw [hn]; exact lm,by rw [hn]; exact lt,bl,bb⟩
  · rw [keep id (fun q => by have := A.fr _ q; omega)]
    exact A.st.keep id i1 i2
theorem ok_14 (d:Nat):∀ (n:Nat),d < 90 → 2010 + 2 * d ≤ n → S14 n d := by
  induction d with
  | zero =>
    intro n hd hn
    obtain ⟨m,rfl⟩:∃ m,n = m + 2 := ⟨n - 2,by omega⟩
    exact st14 (m + 1) 0 (by omega) (st27 m 0 (by omega) (by omega) (fun d' q => by omega))
  | succ d ih =>
    intro n hd hn
    obtain ⟨m,rfl⟩:∃ m,n = m + 2 := ⟨n - 2,by omega⟩
    exact st14 (m + 1) (d + 1) (by omega) (st27 m (d + 1) (by omega) (by omega) (fun d' q => by
      obtain rfl:d' = d := by omega
      exact ih m (by omega) (by omega)))

/-! ### Loose -/
def OwnX (esz:Nat) (h:H) (v:V) (l:List V):Prop := Own esz h v l ∨ ∃ id,v = .ref id 0 l.length esz (some l.length) ∧ h.get id = some (.row l esz .rw) ∧ id < h.nx * 256
theorem OwnX.keep {esz:Nat} {h k:H} {v:V} {l:List V} (o:OwnX esz h v l) (hk:∀ id,id ∈ ids v → k.get id = h.get id) (hn:h.nx ≤ k.nx):OwnX esz k v l := by
  rcases o with o | ⟨id,rfl,h1,h2⟩
  · exact .inl (o.keep hk hn)
  · exact .inr ⟨id,rfl,by rw [hk id (by simp [ids])]; exact h1,by omega⟩
theorem OwnX.lt {esz:Nat} {h:H} {v:V} {l:List V} (o:OwnX esz h v l):∀ id,id ∈ ids v → id < h.nx * 256 := by
  rcases o with o | ⟨id,rfl,h1,h2⟩
  · exact o.lt
  · intro j hj; simp [ids] at hj; omega
theorem OwnX.app {esz:Nat} {h:H} {v:V} {l:List V} (o:OwnX esz h v l) (x:V) (hx:cellsOk esz x = true) (he:0 < esz) (hl:l.length + 1 < bound) (nid:Nat) (hnid:nid < h.nx * 256) (hf:nid ∉ ids v) (w:V) (hw:elems h w = some [x]) :
    ∃ h',appv esz h nid v w = some (.ref nid 0 (l ++ [x]).length esz none,h') ∧ Own esz h' (.ref nid 0 (l ++ [x]).length esz none) (l ++ [x]) ∧ h'.nx = h.nx ∧ (∀ i,i ≠ nid → i ∉ ids v → h'.get i = h.get i) := by
  rcases o with o | ⟨id,rfl,h1,h2⟩
  · obtain ⟨h',e,o',n,k,_⟩ := o.app x hx he hl nid hnid hf w hw
    exact ⟨h',e,o',n,k⟩
  · have h0:esz ≠ 0 := by omega
    have hc:¬ (l.length + 1 ≤ l.length) := by omega
    refine ⟨h.set nid (.row (l ++ [x]) esz .slk),?_,.inr ⟨nid,l ++ [x],rfl,by simp [H.get_set],by rw [List.take_length],Nat.le_refl _,hnid⟩,rfl,fun i h1 h5 => by simp [H.get_set,h1]⟩
    simp [appv,hw,h0,hx,h1,hl]
theorem OwnX.freeze {esz:Nat} {h:H} {v:V} {l:List V} (o:OwnX esz h v l):∃ f h',frz1 h v = some (.sl f l,h') ∧ (∀ i,i ∉ ids v → h'.get i = h.get i) ∧ h'.nx = h.nx := by
  rcases o with (⟨rfl,rfl⟩ | ⟨id,es,rfl,h1,h2,h3,h4⟩) | ⟨id,rfl,h1,h2⟩
  · exact ⟨true,h,rfl,fun _ _ => rfl,rfl⟩
  · refine ⟨false,h.set id (.row es esz .ro),?_,fun i hi => ?_,rfl⟩
    · simp [frz1,h1,h3,h2]
    · simp [ids] at hi
      rw [H.get_set,if_neg hi]
  · refine ⟨true,h.set id (.row l esz .ro),?_,fun i hi => ?_,rfl⟩
    · simp [frz1,h1]
    · simp [ids] at hi
      rw [H.get_set,if_neg hi]
def decls0:List Decl := [⟨1,0,[120],0,0,[]⟩,⟨1,0,[121],0,1,[]⟩,⟨2,0,[118],0,0,[]⟩,⟨1,0,[113],2,0,[]⟩,⟨3,0,[109],0,0,[]⟩,⟨3,0,[110],0,0,[]⟩,⟨4,0,[114],0,0,[]⟩,⟨5,0,[99],0,0,[109]⟩,⟨6,0,[102],0,0,[]⟩]
theorem decls0_shaped:∀ d,d ∈ decls0 → d.Shaped := by
  intro d hd
  simp only [decls0,List.mem_cons,List.not_mem_nil,or_false] at hd
  rcases hd with rfl | rfl | rfl | rfl | rfl | rfl | rfl | rfl | rfl <;>
    exact ⟨by decide,by decide,nameOk_of _ (by decide),by decide,by decide,by decide,by decide,fun q => by first | exact absurd q (by decide) | exact nameOk_of _ (by decide),by decide⟩
theorem ok_12 (n:Nat) (hn:1 ≤ n) (h:H):call fns n 12 [] h = some (.ref (h.nx * 256 + 9) 0 9 6 (some 9),({ h with nx := h.nx + 1 }:H).set (h.nx * 256 + 9) (.row (decls0.map Decl.v) 6 .rw)) := by
  obtain ⟨m,rfl⟩:∃ m,n = m + 1 := ⟨n - 1,by omega⟩
  rw [call_succ]
  show call1 (call fns m) m f12 _ _ = _
  simp [f12,Fr.keep_cons',Fr.keep_nil,stepE,pairs,fillE,trips,fill,V.cells,decls0,Decl.v]
def zeroP:V := .agg [.sl true [],.sl true []]
/-- The state of Loose. -/
structure S5 (fl:Bool) (bs:List Int) (M T:Nat) (line left:Int) (h0:H) (i2 i4:Nat) (dv tv:V) (ds:List Decl) (ts:List Thread) (h:H):Prop where
  ls:LS fl bs M T line left h
  b2:h.get i2 = some (.row [zeroP] 2 .rw)
  b4:h.get i4 = some (.row [.agg [dv,tv]] 2 .rw)
  od:OwnX 6 h dv (ds.map Decl.v)
  ot:Own 4 h tv (ts.map Thread.v)
  nd:([M,T,i2,i4] ++ (ids dv ++ ids tv)).Nodup
  lt:∀ id,id ∈ [M,T,i2,i4] ++ (ids dv ++ ids tv) → h0.nx * 256 ≤ id ∧ id < h.nx * 256
  gr:Grow h0 h
theorem S5.step {fl:Bool} {bs:List Int} {M T:Nat} {line left line' left':Int} {h0:H} {i2 i4:Nat} {dv tv:V} {ds:List Decl} {ts:List Thread} {h h':H} (s:S5 fl bs M T line left h0 i2 i4 dv tv ds ts h) (l:LS fl bs M T line' left' h') (st:Step [M,T] [M,T] h h') :
    S5 fl bs M T line' left' h0 i2 i4 dv tv ds ts h' := by
  have nd := s.nd
  have hn := st.nx
  have key:∀ id,id ∈ [i2,i4] ++ (ids dv ++ ids tv) → h'.get id = h.get id := by
    intro id hi
    refine st.keep id (s.lt id ?_).2 ?_
    · simp only [List.mem_append,List.mem_cons,List.not_mem_nil,or_false] at hi ⊢; rcases hi with (h | h) | h | h <;> simp [h]
    · intro q
      simp only [List.cons_append,List.nil_append,List.nodup_cons,List.mem_cons,List.mem_append,not_or] at nd
      simp only [List.mem_append,List.mem_cons,List.not_mem_nil,or_false] at hi q
      obtain ⟨⟨n1,n2,n3,n4,n5⟩,⟨n6,n7,n8,n9⟩,_⟩ := nd
      rcases q with rfl | rfl
      · rcases hi with (h | h) | h | h
        · exact n2 h
        · exact n3 h
        · exact n4 h
        · exact n5 h
      · rcases hi with (h | h) | h | h
        · exact n6 h
        · exact n7 h
        · exact n8 h
        · exact n9 h
  refine ⟨l,by rw [key i2 (by simp)]; exact s.b2,by rw [key i4 (by simp)]; exact s.b4,s.od.keep (fun id hi => key id (by simp [hi])) hn,s.ot.keep (fun id hi => key id (by simp [hi])) hn,nd,fun id hi => ⟨(s.lt id hi).1,by have := (s.lt id hi).2; omega⟩,?_⟩
  have g := s.gr
  have hg := g.1
  have hM := (s.lt M (by simp)).1
  have hT := (s.lt T (by simp)).1
  exact ⟨by omega,fun id hid => by rw [st.keep id (by omega) (by simp; omega)]; exact g.2 id hid⟩
/-- A private row is written,or a new one. -/
theorem S5.priv {fl:Bool} {bs:List Int} {M T:Nat} {line left:Int} {h0:H} {i2 i4:Nat} {dv tv:V} {ds:List Decl} {ts:List Thread} {h:H} (s:S5 fl bs M T line left h0 i2 i4 dv tv ds ts h) (id:Nat) (b:Blk) (hn:id ∉ [M,T,i2,i4] ++ (ids dv ++ ids tv)) (h0n:h0.nx * 256 ≤ id):S5 fl bs M T line left h0 i2 i4 dv tv ds ts (h.set id b) := by
  have key:∀ j,j ∈ [M,T,i2,i4] ++ (ids dv ++ ids tv) → (h.set id b).get j = h.get j := fun j hj => by rw [H.get_set,if_neg (by rintro rfl; exact hn hj)]
  simp only [List.cons_append,List.nil_append,List.mem_cons,List.mem_append,not_or] at hn
  refine ⟨s.ls.priv _ _ hn.1 hn.2.1,by rw [key i2 (by simp)]; exact s.b2,by rw [key i4 (by simp)]; exact s.b4,s.od.keep (fun j hj => key j (by simp [hj])) (Nat.le_refl _),s.ot.keep (fun j hj => key j (by simp [hj])) (Nat.le_refl _),s.nd,s.lt,?_⟩
  exact ⟨s.gr.1,fun j hj => by rw [H.get_set,if_neg (by omega)]; exact s.gr.2 j hj⟩
theorem S5.up {fl:Bool} {bs:List Int} {M T:Nat} {line left:Int} {h0:H} {i2 i4:Nat} {dv tv:V} {ds:List Decl} {ts:List Thread} {h:H} (s:S5 fl bs M T line left h0 i2 i4 dv tv ds ts h):S5 fl bs M T line left h0 i2 i4 dv tv ds ts ({ h with nx := h.nx + 1 }:H) :=
  s.step (s.ls.grow ((Grow.refl h).up (h.nx + 1) (by omega))) (Step.grow _ ((Grow.refl h).up (h.nx + 1) (by omega)))
theorem S5.ldD {fl:Bool} {bs:List Int} {M T:Nat} {line left:Int} {h0:H} {i2 i4:Nat} {dv tv:V} {ds:List Decl} {ts:List Thread} {h:H} (s:S5 fl bs M T line left h0 i2 i4 dv tv ds ts h):ldv h 1 false (.ptr i4 0 0) = some dv := by
  simp [ldv,s.b4,V.cells,cut,Ai.mk]
theorem S5.ldT {fl:Bool} {bs:List Int} {M T:Nat} {line left:Int} {h0:H} {i2 i4:Nat} {dv tv:V} {ds:List Decl} {ts:List Thread} {h:H} (s:S5 fl bs M T line left h0 i2 i4 dv tv ds ts h):ldv h 1 false (.ptr i4 0 1) = some tv := by
  simp [ldv,s.b4,V.cells,cut,Ai.mk]
theorem ids_ref (id lo l e:Nat) (c:Option Nat):ids (.ref id lo l e c) = [id] := rfl
/-- The declarations' slice is another one now. -/
theorem S5.putD {fl:Bool} {bs:List Int} {M T:Nat} {line left:Int} {h0:H} {i2 i4:Nat} {dv tv:V} {ds:List Decl} {ts:List Thread} {h h':H} (s:S5 fl bs M T line left h0 i2 i4 dv tv ds ts h) (nid n:Nat) (c:Option Nat) (ds':List Decl) (o:OwnX 6 h' (.ref nid 0 n 6 c) (ds'.map Decl.v))
    (hn:h'.nx = h.nx) (keep:∀ i,i ≠ nid → i ∉ ids dv → h'.get i = h.get i) (hl:nid < h.nx * 256) (hf:nid ∉ [M,T,i2,i4] ++ (ids dv ++ ids tv)) (h0n:h0.nx * 256 ≤ nid) :
    ∃ h'',stv h' 1 (.ptr i4 0 0) (.ref nid 0 n 6 c) = some h'' ∧ S5 fl bs M T line left h0 i2 i4 (.ref nid 0 n 6 c) tv ds' ts h'' := by
  have nd := s.nd
  have lt := s.lt
  simp only [List.cons_append,List.nil_append,List.nodup_cons,List.nodup_append,List.mem_cons,List.mem_append,not_or] at nd hf
  obtain ⟨⟨n1,n2,n3,n4,n5⟩,⟨n6,n7,n8,n9⟩,⟨n10,n11,n12⟩,⟨n13,n14⟩,n15,n16,n17⟩ := nd
  obtain ⟨f1,f2,f3,f4,f5,f6⟩ := hf
  have b4:h'.get i4 = some (.row [.agg [dv,tv]] 2 .rw) := by rw [keep i4 (Ne.symm f4) n13]; exact s.b4
  refine ⟨h'.set i4 (.row [.agg [.ref nid 0 n 6 c,tv]] 2 .rw),by simp [stv,b4,V.cells,one,splice],?_⟩
  obtain ⟨hm,⟨a,ha,ht⟩,ne,lm,lt',bl,bb⟩ := s.ls
  refine ⟨⟨?_,⟨a,ha,?_⟩,ne,by show M < h'.nx * 256; rw [hn]; exact lm,by show T < h'.nx * 256; rw [hn]; exact lt',bl,bb⟩,?_,by simp [H.get_set],?_,?_,?_,?_,?_⟩
  · rw [H.get_set,if_neg n3,keep M (Ne.symm f1) n4]; exact hm
  · rw [H.get_set,if_neg n7,keep T (Ne.symm f2) n8]; exact ht
  · rw [H.get_set,if_neg n10,keep i2 (Ne.symm f3) n11]; exact s.b2
  · exact o.keep (fun j hj => by simp [ids_ref] at hj; subst hj; rw [H.get_set,if_neg f4]) (Nat.le_refl _)
  · exact s.ot.keep (fun j hj => by rw [H.get_set,if_neg (by rintro rfl; exact n14 hj),keep j (by rintro rfl; exact f6 hj) (fun q => n17 j q j hj rfl)]) (by show h.nx ≤ h'.nx; omega)
  · simp only [ids_ref,List.cons_append,List.nil_append,List.nodup_cons,List.mem_cons,not_or]
    exact ⟨⟨n1,n2,n3,Ne.symm f1,n5⟩,⟨n6,n7,Ne.symm f2,n9⟩,⟨n10,Ne.symm f3,n12⟩,⟨Ne.symm f4,n14⟩,f6,n16⟩
  · intro j hj
    simp only [ids_ref,List.cons_append,List.nil_append,List.mem_cons] at hj
    show _ ∧ j < h'.nx * 256
    rw [hn]
    rcases hj with rfl | rfl | rfl | rfl | rfl | hj
    · exact lt _ (by simp)
    · exact lt _ (by simp)
    · exact lt _ (by simp)
    · exact lt _ (by simp)
    · exact ⟨h0n,hl⟩
    · exact lt _ (by simp [hj])
  · refine ⟨by show h0.nx ≤ h'.nx; rw [hn]; exact s.gr.1,fun j hj => ?_⟩
    have h4 := (lt i4 (by simp)).1
    rw [H.get_set,if_neg (by omega),keep j (by omega) (fun q => by have := (lt j (by simp [q])).1; omega)]
    exact s.gr.2 j hj
/-- The threads' slice is another one now. -/
theorem S5.putT {fl:Bool} {bs:List Int} {M T:Nat} {line left:Int} {h0:H} {i2 i4:Nat} {dv tv:V} {ds:List Decl} {ts:List Thread} {h h':H} (s:S5 fl bs M T line left h0 i2 i4 dv tv ds ts h) (nid n:Nat) (ts':List Thread) (o:Own 4 h' (.ref nid 0 n 4 none) (ts'.map Thread.v))
    (hn:h'.nx = h.nx) (keep:∀ i,i ≠ nid → i ∉ ids tv → h'.get i = h.get i) (hl:nid < h.nx * 256) (hf:nid ∉ [M,T,i2,i4] ++ (ids dv ++ ids tv)) (h0n:h0.nx * 256 ≤ nid) :
    ∃ h'',stv h' 1 (.ptr i4 0 1) (.ref nid 0 n 4 none) = some h'' ∧ S5 fl bs M T line left h0 i2 i4 dv (.ref nid 0 n 4 none) ds ts' h'' := by
  have nd := s.nd
  have lt := s.lt
  simp only [List.cons_append,List.nil_append,List.nodup_cons,List.nodup_append,List.mem_cons,List.mem_append,not_or] at nd hf
  obtain ⟨⟨n1,n2,n3,n4,n5⟩,⟨n6,n7,n8,n9⟩,⟨n10,n11,n12⟩,⟨n13,n14⟩,n15,n16,n17⟩ := nd
  obtain ⟨f1,f2,f3,f4,f5,f6⟩ := hf
  have b4:h'.get i4 = some (.row [.agg [dv,tv]] 2 .rw) := by rw [keep i4 (Ne.symm f4) n14]; exact s.b4
  refine ⟨h'.set i4 (.row [.agg [dv,.ref nid 0 n 4 none]] 2 .rw),by simp [stv,b4,V.cells,one,splice],?_⟩
  obtain ⟨hm,⟨a,ha,ht⟩,ne,lm,lt',bl,bb⟩ := s.ls
  refine ⟨⟨?_,⟨a,ha,?_⟩,ne,by show M < h'.nx * 256; rw [hn]; exact lm,by show T < h'.nx * 256; rw [hn]; exact lt',bl,bb⟩,?_,by simp [H.get_set],?_,?_,?_,?_,?_⟩
  · rw [H.get_set,if_neg n3,keep M (Ne.symm f1) n5]; exact hm
  · rw [H.get_set,if_neg n7,keep T (Ne.symm f2) n9]; exact ht
  · rw [H.get_set,if_neg n10,keep i2 (Ne.symm f3) n12]; exact s.b2
  · exact s.od.keep (fun j hj => by rw [H.get_set,if_neg (by rintro rfl; exact n13 hj),keep j (by rintro rfl; exact f5 hj) (fun q => n17 j hj j q rfl)]) (by show h.nx ≤ h'.nx; omega)
  · exact o.keep (fun j hj => by simp [ids_ref] at hj; subst hj; rw [H.get_set,if_neg f4]) (Nat.le_refl _)
  · simp only [ids_ref,List.cons_append,List.nil_append,List.nodup_cons,List.nodup_append,List.mem_cons,List.mem_append,List.not_mem_nil,or_false,not_or,List.nodup_nil,not_false_eq_true,and_true]
    exact ⟨⟨n1,n2,n3,n4,Ne.symm f1⟩,⟨n6,n7,n8,Ne.symm f2⟩,⟨n10,n11,Ne.symm f3⟩,⟨n13,Ne.symm f4⟩,n15,trivial,fun a ha b hb => by rw [hb]; intro q; exact f5 (q ▸ ha)⟩
  · intro j hj
    simp only [ids_ref,List.cons_append,List.nil_append,List.mem_cons,List.mem_append,List.not_mem_nil,or_false] at hj
    show _ ∧ j < h'.nx * 256
    rw [hn]
    rcases hj with rfl | rfl | rfl | rfl | hj | rfl
    · exact lt _ (by simp)
    · exact lt _ (by simp)
    · exact lt _ (by simp)
    · exact lt _ (by simp)
    · exact lt _ (by simp [hj])
    · exact ⟨h0n,hl⟩
  · refine ⟨by show h0.nx ≤ h'.nx; rw [hn]; exact s.gr.1,fun j hj => ?_⟩
    have h4 := (lt i4 (by simp)).1
    rw [H.get_set,if_neg (by omega),keep j (by omega) (fun q => by have := (lt j (by simp [q])).1; omega)]
    exact s.gr.2 j hj
def q5_3:IC := (rF 3 [mq 0 23 3,nq 1 24 23,fq 2 25 24 0,lq 3 26 1 false 25,cq 4 27 11 [.t 26,ic 4],bq 5 28 .gtr (.t 27) (ic 0)] ma1)
def q5_a:IC := (rF 4 [cq 0 29 12 [],fq 1 30 4 0,sq 2 1 30 (.t 29)] ma1)
def q5_b:IC := (rF 5 [oq 0 5 (.mv (ic 0))] ma1)
theorem shape_53:s5_3 = .seq q5_3 (.cond (.t 28) (.seq q5_a (.seq q5_b (.block 0 (.loop b5_2)))) .skip) := rfl
def left0 (bs:List Int):Int := wrp .i64 (12 + wrp .i64 (58 * wrp .i64 (Int.tdiv (Int.tmod (bs.length:Int) 5) 4)))
theorem left0_range (bs:List Int):0 ≤ left0 bs ∧ left0 bs ≤ 70 := by
  unfold left0
  obtain ⟨r0,r1,_⟩ := tmod_range (b := (bs.length:Int)) (q := 5) (by omega) (by omega)
  generalize (bs.length:Int).tmod 5 = r at r0 r1
  have:r = 0 ∨ r = 1 ∨ r = 2 ∨ r = 3 ∨ r = 4 := by omega
  rcases this with rfl | rfl | rfl | rfl | rfl <;> decide
theorem cells_ptr (a b c:Nat):V.cells (.ptr a b c) = [.ptr a b c] := rfl
structure F5 (M i2 i4:Nat) (fr:Fr):Prop where
  t2:Fr.get fr 2 = some (.ptr i2 0 0)
  t3:Fr.get fr 3 = some (.ptr M 0 0)
  t4:Fr.get fr 4 = some (.ptr i4 0 0)
theorem head5 (m:Nat) (fl:Bool) (bs:List Int) (hl:bs.length ≤ 300) (hb:∀ b,b ∈ bs → 0 ≤ b ∧ b < 256) (h:H) :
    ∃ (M T i2 i4:Nat) (fr:Fr) (h':H),exec (call fns m) m (.seq s5_0 (.seq s5_1 s5_2)) (enter 0 [.sl fl (bs.map (V.int .u8))]) h = some (.norm,fr,h') ∧ F5 M i2 i4 fr ∧ S5 fl bs M T 0 (left0 bs) h i2 i4 (.sl true []) (.sl true []) [] [] h' := by
  let h1:H := ({ h with nx := h.nx + 1 }:H).set (h.nx * 256) (.row [zeroP] 2 .rw)
  let h2:H := (({ nx := h.nx + 1 + 1,t := h1.t }:H).set ((h.nx + 1) * 256 + 2) (.row [.agg [.sl fl (bs.map (V.int .u8)),.int .i64 0]] 2 .rw)).set ((h.nx + 1) * 256 + 10) (.row [.agg [.ptr ((h.nx + 1) * 256 + 2) 0 0,.int .i64 0,.int .i64 (left0 bs)]] 3 .rw)
  let h3:H := ({ nx := h.nx + 1 + 1 + 1,t := h2.t }:H).set ((h.nx + 1 + 1) * 256 + 1) (.row [zeroP] 2 .rw)
  let h4:H := h3.set ((h.nx + 1 + 1) * 256 + 1) (.row [zeroP] 2 .rw)
  have es:stv h3 2 (.ptr ((h.nx + 1 + 1) * 256 + 1) 0 0) zeroP = some h4 := by simp [stv,h3,H.get_set,zeroP,V.cells,one,splice,h4]
  have gm:∀ (n:Nat) (k:H) (id:Nat),H.get (⟨n,k.t⟩:H) id = k.get id := fun _ _ _ => rfl
  refine ⟨(h.nx + 1) * 256 + 10,(h.nx + 1) * 256 + 2,h.nx * 256,(h.nx + 1 + 1) * 256 + 1,?_⟩
  obtain ⟨fr,e,f2,f3,f4⟩:∃ fr,exec (call fns m) m (.seq s5_0 (.seq s5_1 s5_2)) (enter 0 [.sl fl (bs.map (V.int .u8))]) h = some (.norm,fr,h4) ∧ Fr.get fr 2 = some (.ptr (h.nx * 256) 0 0) ∧ Fr.get fr 3 = some (.ptr ((h.nx + 1) * 256 + 10) 0 0) ∧ Fr.get fr 4 = some (.ptr ((h.nx + 1 + 1) * 256 + 1) 0 0) := by
    simp only [h3,h2,h1,zeroP,left0] at es
    simp [s5_0,s5_1,s5_2,stepE,nilv,pairs,fillE,cells_int,cells_str,cells_sl,cells_bool,cells_agg,trips,fill,Log.push,addrOf,findL,obeq_refl,es,cells_ptr]
  refine ⟨fr,h4,e,⟨f2,f3,f4⟩,⟨⟨?_,⟨0,by omega,?_⟩,by omega,?_,?_,hl,hb⟩,?_,?_,.inl (Own.nil _ _),Own.nil _ _,?_,?_,?_⟩⟩
  · simp only [h4,h3]; rw [H.get_set,if_neg (by omega),H.get_set,if_neg (by omega),gm]; simp [h2,H.get_set]
  · simp only [h4,h3]; rw [H.get_set,if_neg (by omega),H.get_set,if_neg (by omega),gm]; simp only [h2]; rw [H.get_set,if_neg (by omega),H.get_set,if_pos rfl]; rfl
  · show _ < (h.nx + 1 + 1 + 1) * 256; omega
  · show _ < (h.nx + 1 + 1 + 1) * 256; omega
  · simp only [h4,h3]; rw [H.get_set,if_neg (by omega),H.get_set,if_neg (by omega),gm]; simp only [h2]; rw [H.get_set,if_neg (by omega),H.get_set,if_neg (by omega),gm]; simp [h1,H.get_set]
  · simp [h4,H.get_set,zeroP]
  · simp [ids]; omega
  · intro id hi
    have hnx:h4.nx = h.nx + 1 + 1 + 1 := rfl
    rw [hnx]
    simp [ids] at hi
    omega
  · refine ⟨by show h.nx ≤ h.nx + 1 + 1 + 1; omega,fun id hid => ?_⟩
    simp only [h4,h3]; rw [H.get_set,if_neg (by omega),H.get_set,if_neg (by omega),gm]; simp only [h2]; rw [H.get_set,if_neg (by omega),H.get_set,if_neg (by omega),gm]; simp only [h1]; rw [H.get_set,if_neg (by omega)]
    rfl
theorem stvDl {h:H} {id i:Nat} {es:List V} {d:Decl} (hg:h.get id = some (.row es 6 .rw)) (he:es[i]? = some d.v) (n:Int):stv h 1 (.ptr id i 1) (.int .i64 n) = some (h.set id (.row (es.set i ({ d with line := n }:Decl).v) 6 .rw)) := by
  simp [stv,hg,he,Decl.v,V.cells,one,splice]
theorem Shaped_line {d:Decl} (h:d.Shaped) (n:Int):({ d with line := n }:Decl).Shaped := ⟨h.k1,h.k6,h.nm,h.sz,h.sz1,h.init,h.init1,h.on5,h.on0⟩
structure L5 (fl:Bool) (bs:List Int) (M T:Nat) (h0:H) (i2 i4 id:Nat) (i:Nat) (fr:Fr) (k:H):Prop where
  F:F5 M i2 i4 fr
  t5:Fr.get fr 5 = some (.int .i64 i)
  ex:∃ (line:Int) (ds:List Decl),ds.length = 9 ∧ (∀ d,d ∈ ds → d.Shaped) ∧ S5 fl bs M T line (left0 bs) h0 i2 i4 (.ref id 0 9 6 (some 9)) (.sl true []) ds [] k
theorem lineL5 (m:Nat) {fl:Bool} {bs:List Int} {M T:Nat} {h0:H} {i2 i4 id:Nat} (i:Nat) (hi:i < 9) (fr:Fr) (k:H) (hI:L5 fl bs M T h0 i2 i4 id i fr k) :
    ∃ fr' k',exec (call fns m) m b5_2 fr k = some (.norm,fr',k') ∧ L5 fl bs M T h0 i2 i4 id (i + 1) fr' k' := by
  obtain ⟨⟨t2,t3,t4⟩,t5,line,ds,hlen,hsh,s⟩ := hI
  have hi':(i:Int) < 9 := by omega
  have hwi:wrp .i64 ((i:Int) + 1) = (i:Int) + 1 := wrp_i64 (by omega) (by omega)
  have kd := s.ldD
  have kL := s.ls.ldL
  obtain ⟨k1,e1,s1,st1,q1,n1⟩ := s.ls.stL (wrp .i64 (line + 1))
  have S1 := s.step s1 st1
  have kd1 := S1.ldD
  have kL1 := s1.ldL
  obtain ⟨d,hd⟩:∃ d,ds[i]? = some d := ⟨_,List.getElem?_eq_getElem (by omega)⟩
  have row1:k1.get id = some (.row (ds.map Decl.v) 6 .rw) := by
    rcases S1.od with (⟨h1,_⟩ | ⟨id',es,h1,_⟩) | ⟨id',h1,h2,_⟩
    · cases h1
    · simp at h1
    · simp at h1; rw [h1.1]; exact h2
  have es := stvDl row1 (i := i) (d := d) (by simp [hd]) (wrp .i64 (line + 1))
  have hset:(ds.map Decl.v).set i ({ d with line := wrp .i64 (line + 1) }:Decl).v = (ds.set i { d with line := wrp .i64 (line + 1) }).map Decl.v := by rw [List.map_set]
  rw [hset] at es
  have nd := S1.nd
  have lt := S1.lt
  simp only [ids,List.cons_append,List.nil_append,List.nodup_cons,List.mem_cons,List.not_mem_nil,or_false,not_or] at nd
  obtain ⟨⟨n1',n2,n3,n4⟩,⟨n6,n7,n8⟩,⟨n10,n11⟩,n13,_⟩ := nd
  let k2:H := k1.set id (.row ((ds.set i { d with line := wrp .i64 (line + 1) }).map Decl.v) 6 .rw)
  have S2:S5 fl bs M T (wrp .i64 (line + 1)) (left0 bs) h0 i2 i4 (.ref id 0 9 6 (some 9)) (.sl true []) (ds.set i { d with line := wrp .i64 (line + 1) }) [] k2 := by
    have hidl := (lt id (by simp [ids]))
    refine ⟨S1.ls.priv _ _ (Ne.symm n4) (Ne.symm n8),?_,?_,.inr ⟨id,by simp [hlen],by simp [k2,H.get_set],hidl.2⟩,Own.nil _ _,S1.nd,S1.lt,?_⟩
    · simp only [k2]; rw [H.get_set,if_neg n11]; exact S1.b2
    · simp only [k2]; rw [H.get_set,if_neg n13]; exact S1.b4
    · exact ⟨S1.gr.1,fun j hj => by simp only [k2]; rw [H.get_set,if_neg (by omega)]; exact S1.gr.2 j hj⟩
  obtain ⟨fr',e,f2,f3,f4,f5⟩:∃ fr',exec (call fns m) m b5_2 fr k = some (.norm,fr',k2) ∧ Fr.get fr' 2 = some (.ptr i2 0 0) ∧ Fr.get fr' 3 = some (.ptr M 0 0) ∧ Fr.get fr' 4 = some (.ptr i4 0 0) ∧ Fr.get fr' 5 = some (.int .i64 ((i + 1:Nat):Int)) := by
    simp [b5_2,stepE,nilv,pairs,fillE,cells_int,cells_str,cells_sl,cells_bool,cells_agg,trips,fill,Log.push,addrOf,findL,obeq_refl,iadv,t2,t3,t4,t5,kd,hi',kL,e1,kd1,kL1,es,hwi,k2]
  refine ⟨fr',k2,e,⟨f2,f3,f4⟩,f5,_,_,by simp [hlen],fun x hx => ?_,S2⟩
  rcases List.mem_or_eq_of_mem_set hx with hx | rfl
  · exact hsh x hx
  · exact Shaped_line (hsh d (List.mem_of_getElem? hd)) _
theorem decls5 (m:Nat) (hm:100 ≤ m) {fl:Bool} {bs:List Int} {M T:Nat} {h0:H} {i2 i4:Nat} {fr:Fr} {k:H} (F:F5 M i2 i4 fr) (s:S5 fl bs M T 0 (left0 bs) h0 i2 i4 (.sl true []) (.sl true []) [] [] k) :
    ∃ (line:Int) (dv:V) (ds:List Decl) (fr':Fr) (k':H),exec (call fns m) m s5_3 fr k = some (.norm,fr',k') ∧ F5 M i2 i4 fr' ∧ S5 fl bs M T line (left0 bs) h0 i2 i4 dv (.sl true []) ds [] k' ∧ (∀ d,d ∈ ds → d.Shaped) ∧ ds.length ≤ 9 := by
  obtain ⟨t2,t3,t4⟩ := F
  have kT := s.ls.ldT
  obtain ⟨c,k1,e1,a0,a1,s1,st1,q1,n1⟩ := ok_11 m (by omega) s.ls 4 (by omega) (by omega)
  have S1 := s.step s1 st1
  by_cases hc:0 < c
  · have e12 := ok_12 m (by omega) k1
    let kU:H := { k1 with nx := k1.nx + 1 }
    let k2:H := kU.set (k1.nx * 256 + 9) (.row (decls0.map Decl.v) 6 .rw)
    have hnot:k1.nx * 256 + 9 ∉ [M,T,i2,i4] ++ (ids (.sl true []) ++ ids (.sl true [])) := fun q => by have := (S1.lt _ q).2; omega
    have h00:h0.nx * 256 ≤ k1.nx * 256 + 9 := by have := S1.gr.1; omega
    obtain ⟨k3,es,S3⟩ := S1.up.putD (h' := k2) (k1.nx * 256 + 9) 9 (some 9) decls0 (.inr ⟨k1.nx * 256 + 9,rfl,by simp [k2,H.get_set],by show _ < (k1.nx + 1) * 256; omega⟩) rfl (fun i h1 _ => by simp only [k2]; rw [H.get_set,if_neg h1]) (by show _ < (k1.nx + 1) * 256; omega) hnot h00
    have L := loopN_ind (b := exec (call fns m) m b5_2) (n := 9) (I := L5 fl bs M T h0 i2 i4 (k1.nx * 256 + 9)) (Q := fun y fr' k' => y = .brk 0 ∧ F5 M i2 i4 fr' ∧ ∃ (line:Int) (ds:List Decl),ds.length = 9 ∧ (∀ d,d ∈ ds → d.Shaped) ∧ S5 fl bs M T line (left0 bs) h0 i2 i4 (.ref (k1.nx * 256 + 9) 0 9 6 (some 9)) (.sl true []) ds [] k')
      (fun i fr k hi hI => .inl (lineL5 m i hi fr k hI))
      (fun fr k hI => by
        obtain ⟨⟨t2,t3,t4⟩,t5,line,ds,hlen,hsh,s⟩ := hI
        have kd := s.ldD
        obtain ⟨fr',e,f2,f3,f4⟩:∃ fr',exec (call fns m) m b5_2 fr k = some (.brk 0,fr',k) ∧ Fr.get fr' 2 = some (.ptr i2 0 0) ∧ Fr.get fr' 3 = some (.ptr M 0 0) ∧ Fr.get fr' 4 = some (.ptr i4 0 0) := by
          simp [b5_2,stepE,nilv,pairs,fillE,cells_int,cells_str,cells_sl,cells_bool,cells_agg,trips,fill,Log.push,addrOf,findL,obeq_refl,t2,t3,t4,t5,kd]
        exact ⟨.brk 0,fr',k,by simp,e,rfl,⟨f2,f3,f4⟩,line,ds,hlen,hsh,s⟩)
      9 0 (by omega) (by omega) m (by omega)
    obtain ⟨fr1,eA,f2,f3,f4,f28⟩:∃ fr1,exec (call fns m) m q5_3 fr k = some (.norm,fr1,k1) ∧ Fr.get fr1 2 = some (.ptr i2 0 0) ∧ Fr.get fr1 3 = some (.ptr M 0 0) ∧ Fr.get fr1 4 = some (.ptr i4 0 0) ∧ Fr.get fr1 28 = some (.bool true) := by
      simp [q5_3,stepE,nilv,pairs,fillE,cells_int,cells_str,cells_sl,cells_bool,cells_agg,trips,fill,Log.push,addrOf,findL,obeq_refl,t2,t3,t4,kT,e1,hc]
    simp only [k2,kU] at es
    obtain ⟨fr2,eB,g2,g3,g4,g5⟩:∃ fr2,exec (call fns m) m (.seq q5_a q5_b) fr1 k1 = some (.norm,fr2,k3) ∧ Fr.get fr2 2 = some (.ptr i2 0 0) ∧ Fr.get fr2 3 = some (.ptr M 0 0) ∧ Fr.get fr2 4 = some (.ptr i4 0 0) ∧ Fr.get fr2 5 = some (.int .i64 ((0:Nat):Int)) := by
      simp [q5_a,q5_b,stepE,nilv,pairs,fillE,cells_int,cells_str,cells_sl,cells_bool,cells_agg,trips,fill,Log.push,addrOf,findL,obeq_refl,f2,f3,f4,e12,es]
    obtain ⟨y,fr3,k4,eL,rfl,F3,line,ds,hlen,hsh,S4⟩ := L fr2 k3 ⟨⟨g2,g3,g4⟩,g5,0,decls0,rfl,decls0_shaped,S3⟩
    obtain ⟨_,_,eB1,eB2⟩ := exec_seq_norm eB
    refine ⟨line,_,ds,fr3,k4,?_,F3,S4,hsh,by omega⟩
    rw [shape_53,exec_then eA]
    have hcond:exec (call fns m) m (.cond (.t 28) (.seq q5_a (.seq q5_b (.block 0 (.loop b5_2)))) .skip) fr1 k1 = exec (call fns m) m (.seq q5_a (.seq q5_b (.block 0 (.loop b5_2)))) fr1 k1 := by
      simp only [exec,O.ev,f28]
    rw [hcond,exec_then eB1,exec_then eB2]
    exact exec_brk eL
  · obtain ⟨fr1,eA,f2,f3,f4⟩:∃ fr1,exec (call fns m) m s5_3 fr k = some (.norm,fr1,k1) ∧ Fr.get fr1 2 = some (.ptr i2 0 0) ∧ Fr.get fr1 3 = some (.ptr M 0 0) ∧ Fr.get fr1 4 = some (.ptr i4 0 0) := by
      rw [shape_53]
      simp [q5_3,stepE,nilv,pairs,fillE,cells_int,cells_str,cells_sl,cells_bool,cells_agg,trips,fill,Log.push,addrOf,findL,obeq_refl,t2,t3,t4,kT,e1,hc]
    exact ⟨0,_,[],fr1,k1,eA,⟨f2,f3,f4⟩,S1,fun d hd => by simp at hd,by simp⟩
theorem dcellsOk (d:Decl):cellsOk 6 d.v = true := by simp [cellsOk,Decl.v,V.cells,one]
structure M5 (fl:Bool) (bs:List Int) (M T:Nat) (h0:H) (i2 i4:Nat) (c:Int) (i:Nat) (fr:Fr) (k:H):Prop where
  F:F5 M i2 i4 fr
  t6:Fr.get fr 6 = some (.int .i64 (c - i))
  ex:∃ (line:Int) (dv:V) (ds:List Decl),ds.length ≤ 9 + i ∧ (∀ d,d ∈ ds → d.Shaped) ∧ S5 fl bs M T line (left0 bs) h0 i2 i4 dv (.sl true []) ds [] k
theorem more5 (m:Nat) (hm:100 ≤ m) {fl:Bool} {bs:List Int} {M T:Nat} {h0:H} {i2 i4:Nat} (c:Int) (hc:c < 10) (i:Nat) (hi:(i:Int) < c) (fr:Fr) (k:H) (hI:M5 fl bs M T h0 i2 i4 c i fr k) :
    ∃ fr' k',exec (call fns m) m b5_1 fr k = some (.norm,fr',k') ∧ M5 fl bs M T h0 i2 i4 c (i + 1) fr' k' := by
  obtain ⟨⟨t2,t3,t4⟩,t6,line,dv,ds,hlen,hsh,s⟩ := hI
  have hpos:0 < c - (i:Int) := by omega
  have hw:wrp .i64 (c - (i:Int) - 1) = c - ((i + 1:Nat):Int) := by rw [wrp_i64 (by omega) (by omega)]; omega
  let kU:H := { k with nx := k.nx + 1 }
  have SU:S5 fl bs M T line (left0 bs) h0 i2 i4 dv (.sl true []) ds [] kU := s.up
  obtain ⟨d,line',k2,e13,hd,s2,st2⟩ := ok_13 m (by omega) SU.ls
  have S2 := SU.step s2 st2
  have kd := S2.ldD
  have hk2 := st2.nx
  have hkU:kU.nx = k.nx + 1 := rfl
  have hnot:k.nx * 256 + 5 ∉ [M,T,i2,i4] ++ (ids dv ++ ids (.sl true [])) := fun q => by have := (s.lt _ q).2; omega
  have hnd:k.nx * 256 + 5 ∉ ids dv := fun q => hnot (by simp [q])
  obtain ⟨k3,ea,o3,n3,keep⟩ := S2.od.app d.v (dcellsOk d) (by omega) (by simp [bound]; omega) (k.nx * 256 + 5) (by omega) hnd (.sl true [d.v]) rfl
  obtain ⟨k4,es,S4⟩ := S2.putD (h' := k3) (k.nx * 256 + 5) _ none (ds ++ [d]) (.inl (by simpa using o3)) n3 keep (by omega) hnot (by have := s.gr.1; omega)
  have b4a := SU.b4
  have b4b := S2.b4
  have hdc := dcells d
  simp only [kU] at e13 b4a
  obtain ⟨fr',e,f2,f3,f4,f6⟩:∃ fr',exec (call fns m) m b5_1 fr k = some (.norm,fr',k4) ∧ Fr.get fr' 2 = some (.ptr i2 0 0) ∧ Fr.get fr' 3 = some (.ptr M 0 0) ∧ Fr.get fr' 4 = some (.ptr i4 0 0) ∧ Fr.get fr' 6 = some (.int .i64 (c - ((i + 1:Nat):Int))) := by
    simp only [List.length_append,List.length_map,List.length_cons,List.length_nil,Nat.zero_add] at ea es
    simp [b5_1,stepE,nilv,pairs,fillE,cells_int,cells_str,cells_sl,cells_bool,cells_agg,trips,fill,Log.push,addrOf,findL,obeq_refl,t2,t3,t4,t6,hi,hpos,e13,kd,hdc,ea,es,b4a,b4b,hw]
  refine ⟨fr',k4,e,⟨f2,f3,f4⟩,f6,line',_,ds ++ [d],by simp; omega,fun x hx => ?_,S4⟩
  rcases List.mem_append.1 hx with hx | hx
  · exact hsh x hx
  · simp at hx; subst hx; exact hd
theorem mored5 (m:Nat) (hm:100 ≤ m) {fl:Bool} {bs:List Int} {M T:Nat} {h0:H} {i2 i4:Nat} {line:Int} {dv:V} {ds:List Decl} {fr:Fr} {k:H} (F:F5 M i2 i4 fr) (s:S5 fl bs M T line (left0 bs) h0 i2 i4 dv (.sl true []) ds [] k) (hsh:∀ d,d ∈ ds → d.Shaped) (hlen:ds.length ≤ 9) :
    ∃ (line:Int) (dv:V) (ds:List Decl) (fr':Fr) (k':H),exec (call fns m) m s5_4 fr k = some (.norm,fr',k') ∧ F5 M i2 i4 fr' ∧ S5 fl bs M T line (left0 bs) h0 i2 i4 dv (.sl true []) ds [] k' ∧ (∀ d,d ∈ ds → d.Shaped) ∧ ds.length ≤ 20 := by
  obtain ⟨t2,t3,t4⟩ := F
  have kT := s.ls.ldT
  obtain ⟨c,k1,e1,a0,a1,s1,st1,q1,n1⟩ := ok_11 m (by omega) s.ls 8 (by omega) (by omega)
  have S1 := s.step s1 st1
  have wc:wrp .i64 (c - 4) = c - 4 := wrp_i64 (by omega) (by omega)
  obtain ⟨fr1,eA,f2,f3,f4,f6⟩:∃ fr1,exec (call fns m) m p5_4 fr k = some (.norm,fr1,k1) ∧ Fr.get fr1 2 = some (.ptr i2 0 0) ∧ Fr.get fr1 3 = some (.ptr M 0 0) ∧ Fr.get fr1 4 = some (.ptr i4 0 0) ∧ Fr.get fr1 6 = some (.int .i64 (c - 4)) := by
    simp [p5_4,stepE,nilv,pairs,fillE,cells_int,cells_str,cells_sl,cells_bool,cells_agg,trips,fill,Log.push,addrOf,findL,obeq_refl,t2,t3,t4,kT,e1,wc]
  have L := loopN_ind (b := exec (call fns m) m b5_1) (n := (c - 4).toNat) (I := M5 fl bs M T h0 i2 i4 (c - 4)) (Q := fun y fr' k' => y = .brk 2 ∧ F5 M i2 i4 fr' ∧ ∃ (line:Int) (dv:V) (ds:List Decl),ds.length ≤ 20 ∧ (∀ d,d ∈ ds → d.Shaped) ∧ S5 fl bs M T line (left0 bs) h0 i2 i4 dv (.sl true []) ds [] k')
    (fun i fr k hi hI => .inl (more5 m hm (c - 4) (by omega) i (by omega) fr k hI))
    (fun fr k hI => by
      obtain ⟨⟨t2,t3,t4⟩,t6,line,dv,ds,hlen,hsh,s⟩ := hI
      have hz:¬ 0 < c - 4 - ((c - 4).toNat:Int) := by omega
      generalize hzz:c - 4 - ((c - 4).toNat:Int) = z at t6 hz
      obtain ⟨fr',e,f2,f3,f4⟩:∃ fr',exec (call fns m) m b5_1 fr k = some (.brk 2,fr',k) ∧ Fr.get fr' 2 = some (.ptr i2 0 0) ∧ Fr.get fr' 3 = some (.ptr M 0 0) ∧ Fr.get fr' 4 = some (.ptr i4 0 0) := by
        simp [b5_1,stepE,nilv,pairs,fillE,cells_int,cells_str,cells_sl,cells_bool,cells_agg,trips,fill,Log.push,addrOf,findL,obeq_refl,t2,t3,t4,t6,hz]
      exact ⟨.brk 2,fr',k,by simp,e,rfl,⟨f2,f3,f4⟩,line,dv,ds,by omega,hsh,s⟩)
    (c - 4).toNat 0 (by omega) (by omega) m (by omega)
  obtain ⟨y,fr2,k2,eL,rfl,F2,line',dv',ds',hl',hs',S2⟩ := L fr1 k1 ⟨⟨f2,f3,f4⟩,by simpa using f6,line,dv,ds,by omega,hsh,S1⟩
  refine ⟨line',dv',ds',fr2,k2,?_,F2,S2,hs',hl'⟩
  rw [seg_5_4,exec_then eA]
  exact exec_brk eL
end Go.Proofs.Ytakahhnlbciicaa.Cl
