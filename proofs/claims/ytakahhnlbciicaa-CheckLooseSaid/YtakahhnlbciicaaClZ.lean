/-
  What the functions answer, in the evaluator's form. By an AI agent; no person has read it.
-/
import Derived.Test.YtakahhnlbciicaaClD
set_option linter.unusedSimpArgs false
set_option linter.unusedVariables false
set_option linter.unusedSectionVars false
namespace Go.Proofs.Ytakahhnlbciicaa.Cl
open Go Go.Proofs.Ytakahhnlbciicaa.Ai
set_option maxRecDepth 100000
set_option maxHeartbeats 4000000
def q5_A:IC := (.seq (rF 19 [mq 0 84 9,mq 1 85 8,bq 2 86 .lss (.t 84) (.t 85)] ma1) (.cond (.t 86) .skip (.exit 4)))
def q5_D:IC := (rF 20 [mq 0 87 9,bq 1 88 .add (.t 87) (ic 1),mq 2 9 88] ma1)
def q5_21:IC := (rF 21 [mq 0 89 3,nq 1 90 89,fq 2 91 90 1,lq 3 92 1 false 91,bq 4 93 .add (.t 92) (ic 1),nq 5 94 89,fq 6 95 94 1,sq 7 1 95 (.t 93)] ma1)
def q5_22:IC := (rT 22 [mq 0 96 7,mq 1 97 9,oq 2 98 (.iad 1 (.t 96) (.t 97)),lq 3 99 1 false 98,mq 4 100 3,nq 5 101 100,fq 6 102 101 1,lq 7 103 1 false 102,oq 8 104 (.bslF 1 (.str []) 2 [(0,.c (.str [97])),(1,.c (.str [98]))]),oq 9 105 (.build [.str [],.int .i64 0,.sl true [],.sl true []] [(0,1,.t 99),(1,1,.t 103),(2,1,.t 104)]),oq 10 10 (.alloc (.agg [.str [],.int .i64 0,.sl true [],.sl true []])),sq 11 4 10 (.t 105)] ma1)
def q5_23:IC := (rF 23 [mq 0 106 3,nq 1 107 106,fq 2 108 107 0,lq 3 109 1 false 108,cq 4 110 11 [.t 109,ic 16]] ma1)
def q5_sw:IC := (.seq (rF 24 [bq 0 112 .eql (.t 110) (ic 13),mq 1 111 112] ma1) (.cond (.t 111) (rF 25 [fq 0 113 10 0,sq 1 1 113 (.c (.str [116]))] ma1) (.seq (rF 26 [bq 0 115 .eql (.t 110) (ic 14),mq 1 114 115] ma1) (.cond (.t 114) (.reg 27 true [mq 3 119 3,nq 4 120 119,fq 5 121 120 0,lq 6 122 1 false 121,cq 7 123 11 [.t 122,ic 4],fq 0 116 10 2,lq 1 117 1 false 116,oq 2 118 (.bslF 1 (.str []) 4 [(0,.c (.str [97])),(1,.c (.str [120])),(2,.c (.str [116])),(3,.c (.str [107]))]),oq 8 124 (.iad 1 (.t 118) (.t 123)),lq 9 125 1 false 124,oq 10 126 (.bslF 1 (.str []) 1 [(0,.t 125)]),oq 11 127 (.appz 1 (.t 117) (.t 126)),fq 12 128 10 2,sq 13 1 128 (.t 127)] [(false,7,1)] ma1) (.seq (rF 28 [bq 0 130 .eql (.t 110) (ic 15),mq 1 129 130] ma1) (.cond (.t 129) (rF 29 [oq 0 131 (.bslF 1 (.str []) 5 [(0,.c (.str [97])),(1,.c (.str [98])),(2,.c (.str [107])),(3,.c (.str [107,49])),(4,.c (.str [107,50]))]),fq 1 132 10 2,sq 2 1 132 (.t 131)] ma1) .skip))))))
def q5_30:IC := (.reg 30 false [mq 1 134 3,nq 2 135 134,fq 3 136 135 0,lq 4 137 1 false 136,cq 5 138 11 [.t 137,ic 6],mq 9 142 3,nq 10 143 142,fq 11 144 143 0,lq 12 145 1 false 144,cq 13 146 11 [.t 145,ic 4],mq 0 133 3,bq 6 139 .quo (.t 138) (ic 5),bq 7 140 .mul (ic 5) (.t 139),bq 8 141 .add (ic 2) (.t 140),bq 14 147 .add (ic 1) (.t 146),mq 15 148 3,nq 16 149 148,fq 17 150 149 2,lq 18 151 1 false 150,bq 19 152 .quo (.t 151) (ic 20),bq 20 153 .mul (.t 152) (ic 10),bq 21 154 .add (.t 147) (.t 153),cq 22 155 14 [.t 133,.t 141,.t 154],fq 23 156 10 3,sq 24 1 156 (.t 155)] [(false,5,12),(false,5,18),(false,13,18)] ma1)
def q5_31:IC := (rT 31 [fq 0 157 4 1,lq 1 158 1 false 157,lq 2 159 4 true 10,oq 3 160 (.bslF 4 (.agg [.str [],.int .i64 0,.sl true [],.sl true []]) 1 [(0,.t 159)]),oq 4 161 (.app 4 (.t 158) (.t 160)),fq 5 162 4 1,sq 6 1 162 (.t 161)] ma1)
theorem shape_50:b5_0 = .seq q5_A (.seq (.block 5 (.seq q5_21 (.seq q5_22 (.seq (.seq q5_23 (.block 6 q5_sw)) (.seq q5_30 q5_31))))) q5_D) := rfl
def namesT:List (List Nat) := [[116],[117],[119],[122],[122,53]]
def namesA:List (List Nat) := [[97],[120],[116],[107]]
structure T5 (M i2 i4:Nat) (n:Int) (i:Nat) (fr:Fr):Prop where
  t2:Fr.get fr 2 = some (.ptr i2 0 0)
  t3:Fr.get fr 3 = some (.ptr M 0 0)
  t4:Fr.get fr 4 = some (.ptr i4 0 0)
  t7:Fr.get fr 7 = some (.sl true (namesT.map .str))
  t8:Fr.get fr 8 = some (.int .i64 n)
  t9:Fr.get fr 9 = some (.int .i64 i)
theorem stvT0 {h:H} {id:Nat} {x:Thread} (hg:h.get id = some (.row [x.v] 4 .rw)) (s:List Nat):stv h 1 (.ptr id 0 0) (.str s) = some (h.set id (.row [({ x with name := s }:Thread).v] 4 .rw)) := by
  simp [stv,hg,Thread.v,V.cells,one,splice]
theorem stvT2 {h:H} {id:Nat} {x:Thread} (hg:h.get id = some (.row [x.v] 4 .rw)) (f:Bool) (l:List (List Nat)):stv h 1 (.ptr id 0 2) (.sl f (l.map .str)) = some (h.set id (.row [({ x with fl := f,locals := l }:Thread).v] 4 .rw)) := by
  simp [stv,hg,Thread.v,V.cells,one,splice]
theorem stvT3 {h:H} {id:Nat} {x:Thread} (hg:h.get id = some (.row [x.v] 4 .rw)) (f:Bool) (l:List Stmt):stv h 1 (.ptr id 0 3) (.sl f (l.map Stmt.v)) = some (h.set id (.row [({ x with fb := f,body := l }:Thread).v] 4 .rw)) := by
  simp [stv,hg,Thread.v,V.cells,one,splice]
theorem ldTa {h:H} {id:Nat} {x:Thread} {kd:Kind} (hg:h.get id = some (.row [x.v] 4 kd)):ldv h 4 true (.ptr id 0 0) = some x.v := by simp [ldv,hg,Thread.v,V.cells,cut,mk]
theorem tcellsOk (x:Thread):cellsOk 4 x.v = true := by simp [cellsOk,Thread.v,V.cells,one]
/-- A thread that is being made: its name and locals are right. -/
structure Half (x:Thread):Prop where
  nm:NameOk x.name
  lc:∀ s,s ∈ x.locals → NameOk s
  ll:x.locals.length < 1000
/-- Beside the state,the record of the thread. -/
structure W5 (fl:Bool) (bs:List Int) (M T:Nat) (line left:Int) (h0:H) (i2 i4 i10:Nat) (dv tv:V) (ds:List Decl) (ts:List Thread) (x:Thread) (h:H):Prop where
  s:S5 fl bs M T line left h0 i2 i4 dv tv ds ts h
  b:h.get i10 = some (.row [x.v] 4 .rw)
  l:i10 < h.nx * 256
  n:i10 ∉ [M,T,i2,i4] ++ (ids dv ++ ids tv)
  g:h0.nx * 256 ≤ i10
theorem W5.step {fl:Bool} {bs:List Int} {M T:Nat} {line left line' left':Int} {h0:H} {i2 i4 i10:Nat} {dv tv:V} {ds:List Decl} {ts:List Thread} {x:Thread} {h h':H} (w:W5 fl bs M T line left h0 i2 i4 i10 dv tv ds ts x h) (l:LS fl bs M T line' left' h') (st:Step [M,T] [M,T] h h'):W5 fl bs M T line' left' h0 i2 i4 i10 dv tv ds ts x h' := by
  have hn := w.n
  simp only [List.cons_append,List.nil_append,List.mem_cons,List.mem_append,not_or] at hn
  exact ⟨w.s.step l st,by rw [st.keep _ w.l (by simp; exact ⟨hn.1,hn.2.1⟩)]; exact w.b,by have := w.l; have := st.nx; omega,w.n,w.g⟩
theorem W5.put {fl:Bool} {bs:List Int} {M T:Nat} {line left:Int} {h0:H} {i2 i4 i10:Nat} {dv tv:V} {ds:List Decl} {ts:List Thread} {x:Thread} {h:H} (w:W5 fl bs M T line left h0 i2 i4 i10 dv tv ds ts x h) (y:Thread):W5 fl bs M T line left h0 i2 i4 i10 dv tv ds ts y (h.set i10 (.row [y.v] 4 .rw)) :=
  ⟨w.s.priv _ _ w.n w.g,by simp [H.get_set],w.l,w.n,w.g⟩
theorem open5 (m:Nat) (hm:100 ≤ m) {fl:Bool} {bs:List Int} {M T:Nat} {line left:Int} {h0:H} {i2 i4:Nat} {dv tv:V} {ds:List Decl} {ts:List Thread} {n:Int} {i:Nat} (hi:(i:Int) < n) (hn5:n ≤ 5) {fr:Fr} {k:H} (F:T5 M i2 i4 n i fr) (s:S5 fl bs M T line left h0 i2 i4 dv tv ds ts k) :
    ∃ (line':Int) (i10:Nat) (x:Thread) (c:Int) (fr':Fr) (k':H),exec (call fns m) m (.seq q5_A (.seq q5_21 (.seq q5_22 q5_23))) fr k = some (.norm,fr',k') ∧ T5 M i2 i4 n i fr' ∧ Fr.get fr' 10 = some (.ptr i10 0 0) ∧ Fr.get fr' 110 = some (.int .i64 c) ∧
      W5 fl bs M T line' left h0 i2 i4 i10 dv tv ds ts x k' ∧ Half x ∧ x.fl = true ∧ x.locals = [[97],[98]] := by
  obtain ⟨t2,t3,t4,t7,t8,t9⟩ := F
  have kL := s.ls.ldL
  obtain ⟨k1,e1,s1,st1,q1,n1⟩ := s.ls.stL (wrp .i64 (line + 1))
  have S1 := s.step s1 st1
  let kU:H := { k1 with nx := k1.nx + 1 }
  have SU:S5 fl bs M T (wrp .i64 (line + 1)) left h0 i2 i4 dv tv ds ts kU := S1.up
  have kLU := SU.ls.ldL
  obtain ⟨nm,hnm,p1,p2⟩ := pick_str namesT (i:Int) (by omega) (by simp [namesT]; omega)
  let x:Thread := ⟨nm,wrp .i64 (line + 1),true,[[97],[98]],true,[]⟩
  have hnot:k1.nx * 256 + 10 ∉ [M,T,i2,i4] ++ (ids dv ++ ids tv) := fun q => by have := (S1.lt _ q).2; omega
  have h0g:h0.nx * 256 ≤ k1.nx * 256 + 10 := by have := S1.gr.1; omega
  let k2:H := kU.set (k1.nx * 256 + 10) (.row [.agg [.str [],.int .i64 0,.sl true [],.sl true []]] 4 .rw)
  let k3:H := k2.set (k1.nx * 256 + 10) (.row [x.v] 4 .rw)
  have es:stv k2 4 (.ptr (k1.nx * 256 + 10) 0 0) x.v = some k3 := stvT (by simp [k2,H.get_set])
  have S3:S5 fl bs M T (wrp .i64 (line + 1)) left h0 i2 i4 dv tv ds ts k3 := (SU.priv _ _ hnot h0g).priv _ _ hnot h0g
  have W3:W5 fl bs M T (wrp .i64 (line + 1)) left h0 i2 i4 (k1.nx * 256 + 10) dv tv ds ts x k3 := ⟨S3,by simp [k3,H.get_set],by show _ < (k1.nx + 1) * 256; omega,hnot,h0g⟩
  have kT := S3.ls.ldT
  obtain ⟨c,k4,e4,a0,a1,s4,st4,_⟩ := ok_11 m (by omega) S3.ls 16 (by omega) (by omega)
  have W4 := W3.step s4 st4
  have hx:x.v = .agg [.str nm,.int .i64 (wrp .i64 (line + 1)),.sl true [.str [97],.str [98]],.sl true []] := rfl
  rw [hx] at es
  simp only [kU] at kLU
  simp only [k2,kU] at es
  obtain ⟨fr',e,f2,f3,f4,f7,f8,f9,f10,f110⟩:∃ fr',exec (call fns m) m (.seq q5_A (.seq q5_21 (.seq q5_22 q5_23))) fr k = some (.norm,fr',k4) ∧ Fr.get fr' 2 = some (.ptr i2 0 0) ∧ Fr.get fr' 3 = some (.ptr M 0 0) ∧ Fr.get fr' 4 = some (.ptr i4 0 0) ∧ Fr.get fr' 7 = some (.sl true (namesT.map .str)) ∧ Fr.get fr' 8 = some (.int .i64 n) ∧ Fr.get fr' 9 = some (.int .i64 i) ∧ Fr.get fr' 10 = some (.ptr (k1.nx * 256 + 10) 0 0) ∧ Fr.get fr' 110 = some (.int .i64 c) := by
    simp only [namesT,List.map] at p1 t7 ⊢
    simp [q5_A,q5_21,q5_22,q5_23,stepE,nilv,pairs,fillE,cells_int,cells_str,cells_sl,cells_bool,cells_agg,trips,fill,Log.push,addrOf,findL,obeq_refl,t2,t3,t4,t7,t8,t9,hi,kL,e1,kLU,p1,p2,es,kT,e4]
  exact ⟨_,_,x,c,fr',k4,e,⟨f2,f3,f4,f7,f8,f9⟩,f10,f110,W4,⟨okNames_mem (l := namesT) (by decide) nm hnm,okNames_mem (l := [[97],[98]]) (by decide),by show 2 < 1000; omega⟩,rfl,rfl⟩
theorem switch5 (m:Nat) (hm:100 ≤ m) {fl:Bool} {bs:List Int} {M T:Nat} {line left:Int} {h0:H} {i2 i4 i10:Nat} {dv tv:V} {ds:List Decl} {ts:List Thread} {n:Int} {i:Nat} {x:Thread} {c:Int} {fr:Fr} {k:H} (F:T5 M i2 i4 n i fr) (t10:Fr.get fr 10 = some (.ptr i10 0 0)) (t110:Fr.get fr 110 = some (.int .i64 c))
    (W:W5 fl bs M T line left h0 i2 i4 i10 dv tv ds ts x k) (hx:Half x) (hfl:x.fl = true) (hlc:x.locals = [[97],[98]]) :
    ∃ (y:Thread) (fr':Fr) (k':H),exec (call fns m) m (.block 6 q5_sw) fr k = some (.norm,fr',k') ∧ T5 M i2 i4 n i fr' ∧ Fr.get fr' 10 = some (.ptr i10 0 0) ∧ W5 fl bs M T line left h0 i2 i4 i10 dv tv ds ts y k' ∧ Half y := by
  obtain ⟨t2,t3,t4,t7,t8,t9⟩ := F
  by_cases c13:c = 13
  · subst c13
    have es := stvT0 W.b [116]
    obtain ⟨fr',e,f2,f3,f4,f7,f8,f9,f10⟩:∃ fr',exec (call fns m) m (.block 6 q5_sw) fr k = some (.norm,fr',k.set i10 (.row [({ x with name := [116] }:Thread).v] 4 .rw)) ∧ Fr.get fr' 2 = some (.ptr i2 0 0) ∧ Fr.get fr' 3 = some (.ptr M 0 0) ∧ Fr.get fr' 4 = some (.ptr i4 0 0) ∧ Fr.get fr' 7 = some (.sl true (namesT.map .str)) ∧ Fr.get fr' 8 = some (.int .i64 n) ∧ Fr.get fr' 9 = some (.int .i64 i) ∧ Fr.get fr' 10 = some (.ptr i10 0 0) := by
      simp [q5_sw,stepE,nilv,pairs,fillE,cells_int,cells_str,cells_sl,cells_bool,cells_agg,trips,fill,Log.push,addrOf,findL,obeq_refl,t2,t3,t4,t7,t8,t9,t10,t110,es]
    exact ⟨_,fr',_,e,⟨f2,f3,f4,f7,f8,f9⟩,f10,W.put _,⟨nameOk_of [116] (by decide),hx.lc,hx.ll⟩⟩
  by_cases c14:c = 14
  · subst c14
    let kU:H := { k with nx := k.nx + 1 }
    have gU:Grow k kU := (Grow.refl k).up (k.nx + 1) (by omega)
    have WU:W5 fl bs M T line left h0 i2 i4 i10 dv tv ds ts x kU := W.step (W.s.ls.grow gU) (Step.grow _ gU)
    have kT := WU.s.ls.ldT
    obtain ⟨c2,k1,e1,a0,a1,s1,st1,q1,_⟩ := ok_11 m (by omega) WU.s.ls 4 (by omega) (by omega)
    have W1 := WU.step s1 st1
    obtain ⟨nm,hnm,p1,p2⟩ := pick_str namesA c2 a0 (by simpa [namesA] using a1)
    have kl := ldT2 W1.b
    rw [hfl,hlc] at kl
    let k2:H := (k1.set (k.nx * 256 + 11) (.row [.str [97],.str [98],.str nm] 1 .slk)).set (k.nx * 256 + 11) (.row [.str [97],.str [98],.str nm] 1 .ro)
    have hnot:k.nx * 256 + 11 ∉ [M,T,i2,i4] ++ (ids dv ++ ids tv) := fun q => by have := (W.s.lt _ q).2; omega
    have hg := W.s.gr.1
    have hne:i10 ≠ k.nx * 256 + 11 := by have := W.l; omega
    have W2:W5 fl bs M T line left h0 i2 i4 i10 dv tv ds ts x k2 := ⟨(W1.s.priv _ _ hnot (by omega)).priv _ _ hnot (by omega),by simp only [k2]; rw [H.get_set,if_neg hne,H.get_set,if_neg hne]; exact W1.b,W1.l,W1.n,W1.g⟩
    have ea:appzv 1 k1 (k.nx * 256 + 11) (.sl true [.str [97],.str [98]]) (.sl true [.str nm]) = some (.sl false [.str [97],.str [98],.str nm],k2) := by
      simp [appzv,appv,elems,cellsOk,V.cells,one,bound,frz1,H.get_set,k2]
    have es := stvT2 W2.b false [[97],[98],nm]
    simp only [List.map] at es kl
    have hb:kU.get i10 = k1.get i10 := by rw [WU.b,W1.b]
    simp only [kU] at kT e1 hb
    simp only [namesA,List.map] at p1
    have hbb:k1.get i10 = some (.row [x.v] 4 .rw) := W1.b
    have hba:H.get ({ nx := k.nx + 1,t := k.t }:H) i10 = some (.row [x.v] 4 .rw) := WU.b
    obtain ⟨fr',e,f2,f3,f4,f7,f8,f9,f10⟩:∃ fr',exec (call fns m) m (.block 6 q5_sw) fr k = some (.norm,fr',k2.set i10 (.row [({ x with fl := false,locals := [[97],[98],nm] }:Thread).v] 4 .rw)) ∧ Fr.get fr' 2 = some (.ptr i2 0 0) ∧ Fr.get fr' 3 = some (.ptr M 0 0) ∧ Fr.get fr' 4 = some (.ptr i4 0 0) ∧ Fr.get fr' 7 = some (.sl true (namesT.map .str)) ∧ Fr.get fr' 8 = some (.int .i64 n) ∧ Fr.get fr' 9 = some (.int .i64 i) ∧ Fr.get fr' 10 = some (.ptr i10 0 0) := by
      simp [q5_sw,stepE,nilv,pairs,fillE,cells_int,cells_str,cells_sl,cells_bool,cells_agg,trips,fill,Log.push,addrOf,findL,obeq_refl,t2,t3,t4,t7,t8,t9,t10,t110,kT,e1,kl,p1,p2,ea,es,hba,hbb]
    refine ⟨_,fr',_,e,⟨f2,f3,f4,f7,f8,f9⟩,f10,W2.put _,⟨hx.nm,fun s hs => ?_,by show 3 < 1000; omega⟩⟩
    have hs':s ∈ [[97],[98],nm] := hs
    simp only [List.mem_cons,List.not_mem_nil,or_false] at hs'
    rcases hs' with rfl | rfl | rfl
    · exact nameOk_of _ (by decide)
    · exact nameOk_of _ (by decide)
    · exact okNames_mem (l := namesA) (by decide) s hnm
  by_cases c15:c = 15
  · subst c15
    have es := stvT2 W.b true [[97],[98],[107],[107,49],[107,50]]
    simp only [List.map] at es
    obtain ⟨fr',e,f2,f3,f4,f7,f8,f9,f10⟩:∃ fr',exec (call fns m) m (.block 6 q5_sw) fr k = some (.norm,fr',k.set i10 (.row [({ x with fl := true,locals := [[97],[98],[107],[107,49],[107,50]] }:Thread).v] 4 .rw)) ∧ Fr.get fr' 2 = some (.ptr i2 0 0) ∧ Fr.get fr' 3 = some (.ptr M 0 0) ∧ Fr.get fr' 4 = some (.ptr i4 0 0) ∧ Fr.get fr' 7 = some (.sl true (namesT.map .str)) ∧ Fr.get fr' 8 = some (.int .i64 n) ∧ Fr.get fr' 9 = some (.int .i64 i) ∧ Fr.get fr' 10 = some (.ptr i10 0 0) := by
      simp [q5_sw,stepE,nilv,pairs,fillE,cells_int,cells_str,cells_sl,cells_bool,cells_agg,trips,fill,Log.push,addrOf,findL,obeq_refl,t2,t3,t4,t7,t8,t9,t10,t110,es]
    exact ⟨_,fr',_,e,⟨f2,f3,f4,f7,f8,f9⟩,f10,W.put _,⟨hx.nm,okNames_mem (l := [[97],[98],[107],[107,49],[107,50]]) (by decide),by show 5 < 1000; omega⟩⟩
  · obtain ⟨fr',e,f2,f3,f4,f7,f8,f9,f10⟩:∃ fr',exec (call fns m) m (.block 6 q5_sw) fr k = some (.norm,fr',k) ∧ Fr.get fr' 2 = some (.ptr i2 0 0) ∧ Fr.get fr' 3 = some (.ptr M 0 0) ∧ Fr.get fr' 4 = some (.ptr i4 0 0) ∧ Fr.get fr' 7 = some (.sl true (namesT.map .str)) ∧ Fr.get fr' 8 = some (.int .i64 n) ∧ Fr.get fr' 9 = some (.int .i64 i) ∧ Fr.get fr' 10 = some (.ptr i10 0 0) := by
      simp [q5_sw,stepE,nilv,pairs,fillE,cells_int,cells_str,cells_sl,cells_bool,cells_agg,trips,fill,Log.push,addrOf,findL,obeq_refl,t2,t3,t4,t7,t8,t9,t10,t110,c13,c14,c15]
    exact ⟨x,fr',k,e,⟨f2,f3,f4,f7,f8,f9⟩,f10,W,hx⟩
theorem depth5 (c:Int) (h0:0 ≤ c) (h1:c < 6):∃ d:Nat,wrp .i64 (2 + wrp .i64 (5 * wrp .i64 (c.tdiv 5))) = (d:Int) ∧ d < 90 := by
  have:c = 0 ∨ c = 1 ∨ c = 2 ∨ c = 3 ∨ c = 4 ∨ c = 5 := by omega
  rcases this with rfl | rfl | rfl | rfl | rfl | rfl
  · exact ⟨2,by decide,by omega⟩
  · exact ⟨2,by decide,by omega⟩
  · exact ⟨2,by decide,by omega⟩
  · exact ⟨2,by decide,by omega⟩
  · exact ⟨2,by decide,by omega⟩
  · exact ⟨7,by decide,by omega⟩
theorem count5 (c left:Int) (h0:0 ≤ c) (h1:c < 4) (l0:0 ≤ left) (l1:left ≤ 70):∃ q:Int,wrp .i64 (wrp .i64 (1 + c) + wrp .i64 (wrp .i64 (left.tdiv 20) * 10)) = q ∧ 0 ≤ q ∧ q < 1000 := by
  rw [Int.tdiv_eq_ediv_of_nonneg l0]
  obtain ⟨r,hr⟩:∃ r,r = left / 20 := ⟨_,rfl⟩
  have r0:0 ≤ r := by omega
  have r1:r ≤ 3 := by omega
  rw [← hr,wrp_i64 (n := 1 + c) (by omega) (by omega),wrp_i64 (n := r) (by omega) (by omega),wrp_i64 (n := r * 10) (by omega) (by omega),wrp_i64 (by omega) (by omega)]
  exact ⟨_,rfl,by omega,by omega⟩
theorem close5 (m:Nat) (hm:3000 ≤ m) {fl:Bool} {bs:List Int} {M T:Nat} {line left:Int} {h0:H} {i2 i4 i10:Nat} {dv tv:V} {ds:List Decl} {ts:List Thread} {n:Int} {i:Nat} {x:Thread} {fr:Fr} {k:H} (F:T5 M i2 i4 n i fr) (t10:Fr.get fr 10 = some (.ptr i10 0 0))
    (W:W5 fl bs M T line left h0 i2 i4 i10 dv tv ds ts x k) (hx:Half x) (l0:0 ≤ left) (l1:left ≤ 70) (hts:ts.length < 100) :
    ∃ (line' left':Int) (tv':V) (y:Thread) (fr':Fr) (k':H),exec (call fns m) m (.seq q5_30 q5_31) fr k = some (.norm,fr',k') ∧ T5 M i2 i4 n i fr' ∧ S5 fl bs M T line' left' h0 i2 i4 dv tv' ds (ts ++ [y]) k' ∧ y.Shaped ∧ (Stmt.cntL y.body:Int) = left - left' ∧ 0 ≤ left' := by
  obtain ⟨t2,t3,t4,t7,t8,t9⟩ := F
  have kT := W.s.ls.ldT
  obtain ⟨c1,k1,e1,a0,a1,s1,st1,_⟩ := ok_11 m (by omega) W.s.ls 6 (by omega) (by omega)
  have W1 := W.step s1 st1
  have kT1 := W1.s.ls.ldT
  obtain ⟨c2,k2,e2,b0,b1,s2,st2,_⟩ := ok_11 m (by omega) W1.s.ls 4 (by omega) (by omega)
  have W2 := W1.step s2 st2
  have kR2 := W2.s.ls.ldR
  obtain ⟨d,hd,hd9⟩ := depth5 c1 a0 a1
  obtain ⟨q,hq,q0,q1⟩ := count5 c2 left b0 b1 l0 l1
  obtain ⟨f,l,line3,left3,k3,e3,al,cl,l3,s3,st3⟩ := ok_14 d m hd9 (by omega) fl bs M T line left k2 W2.s.ls l0 (by omega) q q0 q1
  have W3 := W2.step s3 st3
  have es := stvT3 W3.b f l
  have m0 := W.s.ls.m
  have m1 := W1.s.ls.m
  have m2 := W2.s.ls.m
  let y:Thread := { x with fb := f,body := l }
  have W4:W5 fl bs M T line3 left3 h0 i2 i4 i10 dv tv ds ts y (k3.set i10 (.row [y.v] 4 .rw)) := W3.put y
  obtain ⟨k4,hk4⟩:∃ g,g = k3.set i10 (.row [y.v] 4 .rw) := ⟨_,rfl⟩
  rw [← hk4] at W4
  have es':stv k3 1 (.ptr i10 0 3) (.sl f (l.map Stmt.v)) = some k4 := by rw [hk4]; exact es
  obtain ⟨fr1,eA,f2,f3,f4,f7,f8,f9,f10⟩:∃ fr',exec (call fns m) m q5_30 fr k = some (.norm,fr',k4) ∧ Fr.get fr' 2 = some (.ptr i2 0 0) ∧ Fr.get fr' 3 = some (.ptr M 0 0) ∧ Fr.get fr' 4 = some (.ptr i4 0 0) ∧ Fr.get fr' 7 = some (.sl true (namesT.map .str)) ∧ Fr.get fr' 8 = some (.int .i64 n) ∧ Fr.get fr' 9 = some (.int .i64 i) ∧ Fr.get fr' 10 = some (.ptr i10 0 0) := by
    simp [q5_30,stepE,nilv,pairs,fillE,cells_int,cells_str,cells_sl,cells_bool,cells_agg,trips,fill,Log.push,addrOf,findL,obeq_refl,t2,t3,t4,t7,t8,t9,t10,kT,e1,kT1,e2,kR2,hd,hq,e3,es',m0,m1,m2]
  clear e1 e2 e3 es es' m0 m1 m2 kT kT1 kR2
  let kU:H := { k4 with nx := k4.nx + 1 }
  have gU:Grow k4 kU := (Grow.refl k4).up (k4.nx + 1) (by omega)
  have WU:W5 fl bs M T line3 left3 h0 i2 i4 i10 dv tv ds ts y kU := W4.step (W4.s.ls.grow gU) (Step.grow _ gU)
  have ka := ldTa WU.b
  have kt := WU.s.ldT
  have hnot:k4.nx * 256 + 4 ∉ [M,T,i2,i4] ++ (ids dv ++ ids tv) := fun q => by have := (W4.s.lt _ q).2; omega
  have hnt:k4.nx * 256 + 4 ∉ ids tv := fun q => hnot (by simp [q])
  have hkU:kU.nx = k4.nx + 1 := rfl
  obtain ⟨k5,ea,o5,n5,keep,_⟩ := WU.s.ot.app y.v (tcellsOk y) (by omega) (by simp [bound]; omega) (k4.nx * 256 + 4) (by omega) hnt (.sl true [y.v]) rfl
  obtain ⟨k6,ev,S6⟩ := WU.s.putT (h' := k5) (k4.nx * 256 + 4) _ (ts ++ [y]) (by simpa using o5) n5 keep (by omega) hnot (by have := W4.s.gr.1; omega)
  have hyc:y.v.cells.length = 4 := rfl
  obtain ⟨yv,hyv⟩:∃ g,g = y.v := ⟨_,rfl⟩
  rw [← hyv] at ka ea hyc
  have hsh:y.Shaped := ⟨hx.nm,hx.lc,hx.ll,al,by show Stmt.cntL l < 2 ^ 30; omega⟩
  simp only [kU] at ka kt ea
  obtain ⟨fr2,eB,g2,g3,g4,g7,g8,g9⟩:∃ fr',exec (call fns m) m q5_31 fr1 k4 = some (.norm,fr',k6) ∧ Fr.get fr' 2 = some (.ptr i2 0 0) ∧ Fr.get fr' 3 = some (.ptr M 0 0) ∧ Fr.get fr' 4 = some (.ptr i4 0 0) ∧ Fr.get fr' 7 = some (.sl true (namesT.map .str)) ∧ Fr.get fr' 8 = some (.int .i64 n) ∧ Fr.get fr' 9 = some (.int .i64 i) := by
    simp only [List.length_append,List.length_map,List.length_cons,List.length_nil,Nat.zero_add] at ea ev
    simp [q5_31,stepE,nilv,pairs,fillE,cells_int,cells_str,cells_sl,cells_bool,cells_agg,trips,fill,Log.push,addrOf,findL,obeq_refl,f2,f3,f4,f7,f8,f9,f10,ka,kt,hyc,ea,ev]
  exact ⟨line3,left3,_,y,fr2,k6,by rw [exec_then eA]; exact eB,⟨g2,g3,g4,g7,g8,g9⟩,S6,hsh,cl,l3⟩
/-- One round of the threads' loop. -/
structure R5 (fl:Bool) (bs:List Int) (M T:Nat) (h0:H) (i2 i4:Nat) (dv:V) (ds:List Decl) (n:Int) (i:Nat) (fr:Fr) (k:H):Prop where
  F:T5 M i2 i4 n i fr
  ex:∃ (line left:Int) (tv:V) (ts:List Thread),S5 fl bs M T line left h0 i2 i4 dv tv ds ts k ∧ ts.length = i ∧ (∀ x,x ∈ ts → x.Shaped) ∧ (cntT ts:Int) + left = left0 bs ∧ 0 ≤ left
theorem cntT_snoc (l:List Thread) (x:Thread):cntT (l ++ [x]) = cntT l + Stmt.cntL x.body := by
  induction l with
  | nil => simp [cntT]
  | cons a l ih => simp [cntT,ih]; omega
theorem block_norm {cf:CallF} {k:Nat} {b:IC} {d:Nat} {fr fr':Fr} {h h':H} (e:exec cf k b fr h = some (.norm,fr',h')):exec cf k (.block d b) fr h = some (.norm,fr',h') := by
  simp only [exec,e]
theorem round5 (m:Nat) (hm:3000 ≤ m) {fl:Bool} {bs:List Int} {M T:Nat} {h0:H} {i2 i4:Nat} {dv:V} {ds:List Decl} {n:Int} (hn5:n ≤ 5) (i:Nat) (hi:(i:Int) < n) (fr:Fr) (k:H) (hI:R5 fl bs M T h0 i2 i4 dv ds n i fr k) :
    ∃ fr' k',exec (call fns m) m b5_0 fr k = some (.norm,fr',k') ∧ R5 fl bs M T h0 i2 i4 dv ds n (i + 1) fr' k' := by
  obtain ⟨F,line,left,tv,ts,S,hl,hs,hc,h0l⟩ := hI
  have hr := left0_range bs
  obtain ⟨line1,i10,x,c,fr1,k1,e1,F1,t10,t110,W1,hx,hfl,hlc⟩ := open5 m (by omega) hi hn5 F S
  obtain ⟨y,fr2,k2,e2,F2,u10,W2,hy⟩ := switch5 m (by omega) F1 t10 t110 W1 hx hfl hlc
  obtain ⟨line3,left3,tv3,z,fr3,k3,e3,F3,S3,hz,cz,l3⟩ := close5 m hm F2 u10 W2 hy h0l (by omega) (by omega)
  obtain ⟨t2,t3,t4,t7,t8,t9⟩ := F3
  have hw:wrp .i64 ((i:Int) + 1) = ((i + 1:Nat):Int) := by rw [wrp_i64 (by omega) (by omega)]; omega
  obtain ⟨fr4,e4,f2,f3,f4,f7,f8,f9⟩:∃ fr',exec (call fns m) m q5_D fr3 k3 = some (.norm,fr',k3) ∧ Fr.get fr' 2 = some (.ptr i2 0 0) ∧ Fr.get fr' 3 = some (.ptr M 0 0) ∧ Fr.get fr' 4 = some (.ptr i4 0 0) ∧ Fr.get fr' 7 = some (.sl true (namesT.map .str)) ∧ Fr.get fr' 8 = some (.int .i64 n) ∧ Fr.get fr' 9 = some (.int .i64 ((i + 1:Nat):Int)) := by
    simp only [← hw]
    simp [q5_D,stepE,nilv,pairs,fillE,cells_int,cells_str,cells_sl,cells_bool,cells_agg,trips,fill,Log.push,addrOf,findL,obeq_refl,t2,t3,t4,t7,t8,t9]
  obtain ⟨a1,b1,p1,r1⟩ := exec_seq_norm e1
  obtain ⟨a2,b2,p2,r2⟩ := exec_seq_norm r1
  obtain ⟨a3,b3,p3,r3⟩ := exec_seq_norm r2
  obtain ⟨a4,b4,p4,r4⟩ := exec_seq_norm e3
  refine ⟨fr4,k3,?_,⟨f2,f3,f4,f7,f8,f9⟩,line3,left3,tv3,ts ++ [z],S3,by simp; omega,fun w hw => ?_,by rw [cntT_snoc]; omega,l3⟩
  · rw [shape_50,exec_then p1]
    refine (exec_then (fr' := fr3) (h' := k3) (block_norm ?_)).trans e4
    rw [exec_then p2,exec_then p3]
    have:exec (call fns m) m (.seq q5_23 (.block 6 q5_sw)) a3 b3 = some (.norm,fr2,k2) := by rw [exec_then r3]; exact e2
    rw [exec_then this,exec_then p4]
    exact r4
  · rcases List.mem_append.1 hw with hw | hw
    · exact hs w hw
    · simp at hw; subst hw; exact hz
theorem threads5 (m:Nat) (hm:3000 ≤ m) {fl:Bool} {bs:List Int} {M T:Nat} {line:Int} {h0:H} {i2 i4:Nat} {dv:V} {ds:List Decl} {fr:Fr} {k:H} (F:F5 M i2 i4 fr) (s:S5 fl bs M T line (left0 bs) h0 i2 i4 dv (.sl true []) ds [] k) :
    ∃ (line left:Int) (tv:V) (ts:List Thread) (fr':Fr) (k':H),exec (call fns m) m (.seq s5_5 (.seq s5_6 (.seq s5_7 s5_8))) fr k = some (.norm,fr',k') ∧ Fr.get fr' 2 = some (.ptr i2 0 0) ∧ Fr.get fr' 4 = some (.ptr i4 0 0) ∧ S5 fl bs M T line left h0 i2 i4 dv tv ds ts k' ∧
      ts ≠ [] ∧ ts.length ≤ 5 ∧ (∀ x,x ∈ ts → x.Shaped) ∧ (cntT ts:Int) ≤ 70 := by
  obtain ⟨t2,t3,t4⟩ := F
  have hr := left0_range bs
  have kT := s.ls.ldT
  obtain ⟨c1,k1,e1,a0,a1,s1,st1,_⟩ := ok_11 m (by omega) s.ls 3 (by omega) (by omega)
  have S1 := s.step s1 st1
  have kT1 := S1.ls.ldT
  obtain ⟨c2,k2,e2,b0,b1,s2,st2,_⟩ := ok_11 m (by omega) S1.ls 12 (by omega) (by omega)
  have S2 := S1.step s2 st2
  obtain ⟨n,fr1,eA,n1,n5,f2,f3,f4,f7,f8,f9⟩:∃ (n:Int) (fr':Fr),exec (call fns m) m (.seq s5_5 (.seq s5_6 (.seq s5_7 p5_8))) fr k = some (.norm,fr',k2) ∧ 1 ≤ n ∧ n ≤ 5 ∧ Fr.get fr' 2 = some (.ptr i2 0 0) ∧ Fr.get fr' 3 = some (.ptr M 0 0) ∧ Fr.get fr' 4 = some (.ptr i4 0 0) ∧ Fr.get fr' 7 = some (.sl true (namesT.map .str)) ∧ Fr.get fr' 8 = some (.int .i64 n) ∧ Fr.get fr' 9 = some (.int .i64 ((0:Nat):Int)) := by
    by_cases h11:c2 = 11
    · subst h11
      refine ⟨5,?_⟩
      simp [s5_5,s5_6,s5_7,p5_8,stepE,nilv,pairs,fillE,cells_int,cells_str,cells_sl,cells_bool,cells_agg,trips,fill,Log.push,addrOf,findL,obeq_refl,t2,t3,t4,kT,e1,kT1,e2,namesT]
    · have hw:wrp .i64 (1 + c1) = 1 + c1 := wrp_i64 (by omega) (by omega)
      have q1:1 ≤ 1 + c1 := by omega
      have q5:1 + c1 ≤ 5 := by omega
      refine ⟨1 + c1,?_⟩
      simp [s5_5,s5_6,s5_7,p5_8,stepE,nilv,pairs,fillE,cells_int,cells_str,cells_sl,cells_bool,cells_agg,trips,fill,Log.push,addrOf,findL,obeq_refl,t2,t3,t4,kT,e1,kT1,e2,namesT,h11,hw,a0,q5]
      exact q1
  have L := loopN_ind (b := exec (call fns m) m b5_0) (n := n.toNat) (I := R5 fl bs M T h0 i2 i4 dv ds n) (Q := fun y fr' k' => y = .brk 4 ∧ R5 fl bs M T h0 i2 i4 dv ds n n.toNat fr' k')
    (fun i fr k hi hI => .inl (round5 m hm n5 i (by omega) fr k hI))
    (fun fr k hI => by
      have hI' := hI
      obtain ⟨⟨t2,t3,t4,t7,t8,t9⟩,ex⟩ := hI
      have hz:¬ ((n.toNat:Int) < n) := by omega
      obtain ⟨z,hzz⟩:∃ z:Int,z = (n.toNat:Int) := ⟨_,rfl⟩
      obtain ⟨fr',e,f2,f3,f4,f7,f8,f9⟩:∃ fr',exec (call fns m) m q5_A fr k = some (.brk 4,fr',k) ∧ Fr.get fr' 2 = some (.ptr i2 0 0) ∧ Fr.get fr' 3 = some (.ptr M 0 0) ∧ Fr.get fr' 4 = some (.ptr i4 0 0) ∧ Fr.get fr' 7 = some (.sl true (namesT.map .str)) ∧ Fr.get fr' 8 = some (.int .i64 n) ∧ Fr.get fr' 9 = some (.int .i64 z) := by
        rw [← hzz] at t9 hz
        simp [q5_A,stepE,nilv,pairs,fillE,cells_int,cells_str,cells_sl,cells_bool,cells_agg,trips,fill,Log.push,addrOf,findL,obeq_refl,t2,t3,t4,t7,t8,t9,hz]
      rw [hzz] at f9
      exact ⟨.brk 4,fr',k,by simp,by rw [shape_50]; exact exec_out (by simp) e,rfl,⟨f2,f3,f4,f7,f8,f9⟩,ex⟩)
    n.toNat 0 (by omega) (by omega) m (by omega)
  obtain ⟨y,fr2,k3,eL,rfl,⟨u2,u3,u4,u7,u8,u9⟩,line3,left3,tv,ts,S3,hl,hs,hc,h0l⟩ := L fr1 k2 ⟨⟨f2,f3,f4,f7,f8,f9⟩,line,left0 bs,.sl true [],[],S2,rfl,fun x hx => absurd hx (by simp),by simp [cntT],hr.1⟩
  obtain ⟨g1,h1,p1,r1⟩ := exec_seq_norm eA
  obtain ⟨g2,h2,p2,r2⟩ := exec_seq_norm r1
  obtain ⟨g3,h3,p3,r3⟩ := exec_seq_norm r2
  refine ⟨line3,left3,tv,ts,fr2,k3,?_,u2,u4,S3,by rintro rfl; simp at hl; omega,by omega,hs,by omega⟩
  rw [exec_then p1,exec_then p2,exec_then p3,seg_5_8,exec_then r3]
  exact exec_brk eL
theorem one_own {esz:Nat} {h:H} {v:V} {l:List V} (o:Own esz h v l):one v = true ∧ frz h v = frz1 h v := by
  rcases o with ⟨rfl,rfl⟩ | ⟨id,es,rfl,_⟩ <;> exact ⟨rfl,rfl⟩
theorem one_ownX {esz:Nat} {h:H} {v:V} {l:List V} (o:OwnX esz h v l):one v = true := by
  rcases o with o | ⟨id,rfl,_⟩
  · exact (one_own o).1
  · rfl
theorem ok_5 (n:Nat) (hn:3001 ≤ n) (fl:Bool) (bs:List Int) (hl:bs.length ≤ 300) (hb:∀ b,b ∈ bs → 0 ≤ b ∧ b < 256) (h:H) :
    ∃ (p:Prog) (h':H),call fns n 5 [.sl fl (bs.map (V.int .u8))] h = some (p.v,h') ∧ p.Shaped ∧ cntT p.threads < 2 ^ 30 ∧ Grow h h' := by
  obtain ⟨m,rfl⟩:∃ m,n = m + 1 := ⟨n - 1,by omega⟩
  obtain ⟨M,T,i2,i4,fr1,h1,e1,F1,S1⟩ := head5 (m := m) fl bs hl hb h
  obtain ⟨line2,dv2,ds2,fr2,h2,e2,F2,S2,hs2,hl2⟩ := decls5 m (by omega) F1 S1
  obtain ⟨line3,dv,ds,fr3,h3,e3,F3,S3,hs3,hl3⟩ := mored5 m (by omega) F2 S2 hs2 hl2
  obtain ⟨line4,left,tv,ts,fr4,h4,e4,f2,f4,S4,hne,hlt,hts,hct⟩ := threads5 m (by omega) F3 S3
  have hld:ldv h4 2 true (.ptr i4 0 0) = some (.agg [dv,tv]) := by simp [ldv,S4.b4,V.cells,cut,mk]
  have nd := S4.nd
  simp only [List.cons_append,List.nil_append,List.nodup_cons,List.nodup_append,List.mem_cons,List.mem_append,not_or] at nd
  obtain ⟨⟨n1,n2,n3,n4,n5⟩,⟨n6,n7,n8,n9⟩,⟨n10,n11,n12⟩,⟨n13,n14⟩,n15,n16,n17⟩ := nd
  let h5:H := h4.set i2 (.row [.agg [dv,tv]] 2 .rw)
  have hst:stv h4 2 (.ptr i2 0 0) (.agg [dv,tv]) = some h5 := by 
    have o1 := one_ownX S4.od
    have o2 := (one_own S4.ot).1
    simp [stv,S4.b2,zeroP,V.cells,o1,o2,splice,h5]
  have hld5:ldv h5 2 true (.ptr i2 0 0) = some (.agg [dv,tv]) := by simp [ldv,h5,H.get_set,V.cells,cut,mk]
  have od:OwnX 6 h5 dv (ds.map Decl.v) := S4.od.keep (fun j hj => by simp only [h5]; rw [H.get_set,if_neg (by rintro rfl; exact n11 hj)]) (Nat.le_refl _)
  have ot:Own 4 h5 tv (ts.map Thread.v) := S4.ot.keep (fun j hj => by simp only [h5]; rw [H.get_set,if_neg (by rintro rfl; exact n12 hj)]) (Nat.le_refl _)
  obtain ⟨fd,h6,ed,kd,nd6⟩ := od.freeze
  have ot6:Own 4 h6 tv (ts.map Thread.v) := ot.keep (fun j hj => kd j (fun q => n17 j q j hj rfl)) (by omega)
  obtain ⟨ft,h7,et,kt,nt7⟩ := ot6.freeze
  have hn5:h5.nx = h4.nx := rfl
  refine ⟨⟨fd,ds,ft,ts⟩,h7,?_,⟨⟨by show ds.length < 2 ^ 31; omega,by show ts.length < 2 ^ 31; omega,fun x hx => by have := (hts x hx).ll; omega⟩,hs3,hts,hne⟩,by show cntT ts < 2 ^ 30; omega,?_⟩
  · rw [call_succ]
    show call1 (call fns m) m f5 _ _ = _
    have q:exec (call fns m) m f5.body (enter 0 [.sl fl (bs.map (V.int .u8))]) h = exec (call fns m) m (.seq s5_9 s5_10) fr4 h4 := by
      obtain ⟨a1,b1,p1,r1⟩ := exec_seq_norm e1
      obtain ⟨a2,b2,p2,r2⟩ := exec_seq_norm r1
      obtain ⟨a3,b3,p3,r3⟩ := exec_seq_norm e4
      obtain ⟨a4,b4,p4,r4⟩ := exec_seq_norm r3
      obtain ⟨a5,b5,p5,r5⟩ := exec_seq_norm r4
      rw [body_5,exec_then p1,exec_then p2,exec_then r2,exec_then e2,exec_then e3,exec_then p3,exec_then p4,exec_then p5,exec_then r5]
    unfold call1
    rw [q]
    have hf:frz h5 (.agg [dv,tv]) = some (.agg [.sl fd (ds.map Decl.v),.sl ft (ts.map Thread.v)],h7) := by
      rw [(one_own ot6).2] at et
      simp [frz,frzL,ed,et]
    simp [s5_9,s5_10,stepE,nilv,pairs,fillE,cells_int,cells_str,cells_sl,cells_bool,cells_agg,trips,fill,Log.push,addrOf,findL,obeq_refl,f2,f4,hld,hst,res_5,fz_5,frzR,hld5,hf,Prog.v]
  · refine ⟨by have := S4.gr.1; omega,fun j hj => ?_⟩
    have L2 := (S4.lt i2 (by simp)).1
    have nd':j ∉ ids dv := fun q => by have := (S4.lt j (by simp [q])).1; omega
    have nt':j ∉ ids tv := fun q => by have := (S4.lt j (by simp [q])).1; omega
    rw [kt j nt',kd j nd']
    simp only [h5]
    rw [H.get_set,if_neg (by omega)]
    exact S4.gr.2 j hj
theorem ok_15z (n:Nat) (hn:20 ≤ n) (h:H):∃ h',call fns n 15 [zeroP] h = some (.bool false,h') ∧ Grow h h' := by
  obtain ⟨m,rfl⟩:∃ m,n = m + 1 + 1 := ⟨n - 2,by omega⟩
  let h1:H := ({ h with nx := h.nx + 1 }:H).set (h.nx * 256) (.row [zeroP] 2 .rw)
  have g1:Grow h h1 := ((Grow.refl h).up (h.nx + 1) (by omega)).set (Nat.le_refl _) _
  have hb:h1.get (h.nx * 256) = some (.row [zeroP] 2 .rw) := by simp [h1,H.get_set]
  have l0:ldv h1 1 false (.ptr (h.nx * 256) 0 0) = some (.sl true []) := by simp [ldv,hb,zeroP,V.cells,cut,mk]
  have l1:ldv h1 1 false (.ptr (h.nx * 256) 0 1) = some (.sl true []) := by simp [ldv,hb,zeroP,V.cells,cut,mk]
  refine ⟨h1,?_,g1⟩
  rw [call_succ]
  show call1 (call fns (m + 1)) (m + 1) f15 _ _ = _
  simp only [h1,zeroP] at l0 l1
  simp [f15,b15_1,b15_2,Fr.keep_cons',Fr.keep_nil,stepE,cells_int,cells_str,cells_sl,cells_bool,cells_agg,loopN,zeroP,l0,l1,h1,Fr.keep_cons',Fr.keep_nil]
theorem ok_6z (n:Nat) (hn:30 ≤ n) (h:H):∃ h',call fns n 6 [zeroP] h = some (.tup [.int .i64 3,.int .i64 0],h') ∧ Grow h h' := by
  obtain ⟨m,rfl⟩:∃ m,n = m + 1 := ⟨n - 1,by omega⟩
  let h1:H := ({ h with nx := h.nx + 1 }:H).set (h.nx * 256) (.row [zeroP] 2 .rw)
  have g1:Grow h h1 := ((Grow.refl h).up (h.nx + 1) (by omega)).set (Nat.le_refl _) _
  have hb:h1.get (h.nx * 256) = some (.row [zeroP] 2 .rw) := by simp [h1,H.get_set]
  have l0:ldv h1 2 true (.ptr (h.nx * 256) 0 0) = some zeroP := by simp [ldv,hb,zeroP,V.cells,cut,mk]
  obtain ⟨h2,e2,g2⟩ := ok_15z m (by omega) h1
  refine ⟨h2,?_,g1.trans g2⟩
  rw [call_succ]
  show call1 (call fns m) m f6 _ _ = _
  simp only [h1,zeroP] at l0 e2
  simp [f6,Fr.keep_cons',Fr.keep_nil,stepE,cells_int,cells_str,cells_sl,cells_bool,cells_agg,zeroP,l0,e2,Fr.keep_cons',Fr.keep_nil]
theorem ok_8 (n:Nat) (hn:40 ≤ n) (h:H):∃ h',call fns n 8 [] h = some (.bool true,h') ∧ Grow h h' := by
  obtain ⟨m,rfl⟩:∃ m,n = m + 1 := ⟨n - 1,by omega⟩
  obtain ⟨h2,e2,g2⟩ := ok_6z m (by omega) h
  refine ⟨h2,?_,g2⟩
  rw [call_succ]
  show call1 (call fns m) m f8 _ _ = _
  simp only [zeroP] at e2
  simp [f8,Fr.keep_cons',Fr.keep_nil,stepE,cells_int,cells_str,cells_sl,cells_bool,cells_agg,nilv,trips,fill,e2,Fr.keep_cons',Fr.keep_nil]
/-- CheckLoose. -/
theorem ok_3 (n:Nat) (hn:8589934800 ≤ n) (fl:Bool) (bs:List Int) (hb:∀ b,b ∈ bs → 0 ≤ b ∧ b < 256) (h:H) :
    ∃ h',call fns n 3 [.sl fl (bs.map (V.int .u8))] h = some (.bool true,h') ∧ Grow h h' := by
  obtain ⟨m,rfl⟩:∃ m,n = m + 1 := ⟨n - 1,by omega⟩
  rw [call_succ]
  show ∃ h',call1 (call fns m) m f3 _ _ = _ ∧ _
  by_cases hl:bs.length ≤ 300
  · have hl':¬ (300:Int) < (bs.length:Int) := by omega
    let hU:H := { h with nx := h.nx + 1 }
    have gU:Grow h hU := (Grow.refl h).up (h.nx + 1) (by omega)
    obtain ⟨p,h1,e5,hp,hc,g1⟩ := ok_5 m (by omega) fl bs hl hb hU
    have hg1 := g1.1
    have hU1:hU.nx = h.nx + 1 := rfl
    let h2:H := (h1.set (h.nx * 256 + 2) (.row [zeroP] 2 .rw)).set (h.nx * 256 + 2) (.row [p.v] 2 .rw)
    have G2:Grow h h2 := ((gU.trans g1).set (by omega) _).set (by omega) _
    have b2:h2.get (h.nx * 256 + 2) = some (.row [p.v] 2 .rw) := by simp [h2,H.get_set]
    have es:stv (h1.set (h.nx * 256 + 2) (.row [zeroP] 2 .rw)) 2 (.ptr (h.nx * 256 + 2) 0 0) p.v = some h2 := by
      simp [stv,H.get_set,zeroP,Prog.v,V.cells,one,splice,h2]
    have l2:h.nx * 256 + 2 < h2.nx * 256 := by show _ < h1.nx * 256; omega
    have kp2 := ldPv b2
    obtain ⟨h3,e6,g3⟩ := ok_6 m p (by omega) hp hc h2
    have b3 := gget g3 l2 b2
    have kp3 := ldPv b3
    obtain ⟨h4,e7,g4⟩ := ok_7 m p (by omega) hp hc h3
    obtain ⟨h5,e8,g5⟩ := ok_8 m (by omega) h4
    obtain ⟨pv,hpv⟩:∃ g,g = p.v := ⟨_,rfl⟩
    have hcell:pv.cells.length = 2 := by rw [hpv]; rfl
    rw [← hpv] at e5 es kp2 kp3 e6 e7
    simp only [hU] at e5
    simp only [zeroP] at es
    refine ⟨h5,?_,((G2.trans g3).trans g4).trans g5⟩
    simp [f3,Fr.keep_cons',Fr.keep_nil,stepE,cells_int,cells_str,cells_sl,cells_bool,cells_agg,hl',hcell,e5,es,kp2,kp3,e6,e7,e8,Fr.keep_cons',Fr.keep_nil]
  · have hl':(300:Int) < (bs.length:Int) := by omega
    refine ⟨h,?_,Grow.refl h⟩
    simp [f3,Fr.keep_cons',Fr.keep_nil,stepE,cells_int,cells_str,cells_sl,cells_bool,cells_agg,hl',Fr.keep_cons',Fr.keep_nil]
end Go.Proofs.Ytakahhnlbciicaa.Cl
