/-
  What the functions answer, in the evaluator's form. By an AI agent; no person has read it.
-/
import Derived.Test.YtakahhnlbciicaaClB
set_option linter.unusedSimpArgs false
set_option linter.unusedVariables false
set_option linter.unusedSectionVars false
namespace Go.Proofs.Ytakahhnlbciicaa.Cl
open Go Go.Proofs.Ytakahhnlbciicaa.Ai
set_option maxRecDepth 100000
set_option maxHeartbeats 4000000
def q16_4:IC := (rT 4 [mq 0 17 15,oq 1 18 (.iad 6 (.t 13) (.t 15)),lq 2 19 6 true 18,oq 3 9 (.alloc (.agg [.int .i64 0,.int .i64 0,.str [],.int .i64 0,.int .i64 0,.str []])),mq 4 8 17,sq 5 6 9 (.t 19)] ma11)
def q16_5:IC := (rF 5 [fq 0 20 1 0,lq 1 21 1 false 20,mq 2 22 8,oq 3 23 (.slc 6 (.t 21) none (some (.t 22))),mq 4 10 23] ma11)
def q16_6:IC := (.seq (rF 6 [mq 0 24 10,oq 1 25 (.mkf 32 [] [.t 9]),cq 2 26 31 [.t 24,.t 25]] ma11) (.cond (.t 26) (.seq (rF 7 [fq 0 27 9 1,lq 1 28 1 false 27,oq 2 2 (.mv (ic 4)),mq 3 3 28] ma11) .ret) .skip))
def q16_8:IC := (.seq (rF 8 [fq 0 29 9 3,lq 1 30 1 false 29,bq 2 31 .gtr (.t 30) (ic 4)] ma11) (.cond (.t 31) (.seq (rF 9 [fq 0 32 9 1,lq 1 33 1 false 32,oq 2 2 (.mv (ic 2)),mq 3 3 33] ma11) .ret) .skip))
def q16_10:IC := (.seq (rF 10 [fq 0 34 9 0,lq 1 35 1 false 34] ma11) (.block 2 (.seq (.seq (rF 11 [bq 0 37 .eql (.t 35) (ic 1),mq 1 36 37] ma11) (.cond (.t 36) .skip (rF 12 [bq 0 38 .eql (.t 35) (ic 2),mq 1 36 38] ma11))) (.cond (.t 36) (rF 13 [mq 0 39 4,fq 1 40 9 3,lq 2 41 1 false 40,oq 3 42 (.mx [.t 41,ic 1]),bq 4 43 .add (.t 39) (.t 42),mq 5 4 43] ma11) (.seq (.seq (rF 14 [bq 0 45 .eql (.t 35) (ic 3),mq 1 44 45] ma11) (.cond (.t 44) .skip (rF 15 [bq 0 46 .eql (.t 35) (ic 4),mq 1 44 46] ma11))) (.cond (.t 44) (rF 16 [mq 0 47 5,bq 1 48 .add (.t 47) (ic 1),mq 2 5 48] ma11) (.seq (rF 17 [bq 0 50 .eql (.t 35) (ic 5),mq 1 49 50] ma11) (.cond (.t 49) (rF 18 [mq 0 51 6,bq 1 52 .add (.t 51) (ic 1),mq 2 6 52] ma11) (.seq (rF 19 [bq 0 54 .eql (.t 35) (ic 6),mq 1 53 54] ma11) (.cond (.t 53) (rF 20 [mq 0 55 7,bq 1 56 .add (.t 55) (ic 1),mq 2 7 56] ma11) .skip))))))))))
def q16_21:IC := (.seq (rF 21 [mq 0 57 4,bq 1 58 .gtr (.t 57) (ic 12),mq 2 59 58,⟨3,some 60,.mv (.t 5),(some (59,false))⟩,⟨4,some 61,.bin .gtr (.t 60) (ic 4),(some (59,false))⟩,oq 5 62 (.pick (.t 59) (.c (.bool true)) (.t 61)),mq 6 63 62,⟨7,some 64,.mv (.t 6),(some (63,false))⟩,⟨8,some 65,.bin .gtr (.t 64) (ic 2),(some (63,false))⟩,oq 9 66 (.pick (.t 63) (.c (.bool true)) (.t 65)),mq 10 67 66,⟨11,some 68,.mv (.t 7),(some (67,false))⟩,⟨12,some 69,.bin .gtr (.t 68) (ic 2),(some (67,false))⟩,oq 13 70 (.pick (.t 67) (.c (.bool true)) (.t 69))] ma11) (.cond (.t 70) (.seq (rF 22 [fq 0 71 9 1,lq 1 72 1 false 71,oq 2 2 (.mv (ic 2)),mq 3 3 72] ma11) .ret) .skip))
def q16_23:IC := (.seq (rF 23 [fq 0 73 9 0,lq 1 74 1 false 73,bq 2 75 .neq (.t 74) (ic 5)] ma11) (.cond (.t 75) (.exit 1) .skip))
def q16_24:IC := (rF 24 [mq 0 76 10,oq 1 77 (.mkf 34 [] [.t 9]),cq 2 78 33 [.t 76,.t 77],mq 3 11 78] ma11)
def q16_25:IC := (.block 3 (.seq (rF 25 [mq 0 80 11,bq 1 81 .lss (.t 80) (ic 0),mq 2 79 81] ma11) (.cond (.t 79) (.seq (rF 26 [fq 0 82 9 1,lq 1 83 1 false 82,oq 2 2 (.mv (ic 5)),mq 3 3 83] ma11) .ret) (.seq (rF 27 [mq 0 85 10,mq 1 86 11,oq 2 87 (.iad 6 (.t 85) (.t 86)),fq 3 88 87 0,lq 4 89 1 false 88,bq 5 90 .neq (.t 89) (ic 3),mq 6 84 90] ma11) (.cond (.t 84) (.seq (rF 28 [fq 0 91 9 1,lq 1 92 1 false 91,oq 2 2 (.mv (ic 6)),mq 3 3 92] ma11) .ret) .skip)))))
def q16_A:IC := (.seq (rF 3 [bq 0 16 .lss (.t 15) (.t 14)] ma11) (.cond (.t 16) .skip (.exit 0)))
def q16_D:IC := (rF 29 [bq 0 93 .add (.t 15) (ic 1),mq 1 15 93] ma11)
def q21_5:IC := (rT 5 [mq 0 17 0,mq 1 18 8,oq 2 19 (.iad 6 (.t 17) (.t 18)),lq 3 20 6 true 19,oq 4 9 (.alloc (.agg [.int .i64 0,.int .i64 0,.str [],.int .i64 0,.int .i64 0,.str []])),sq 5 6 9 (.t 20)] ma16)
def q21_6:IC := (.seq (rF 6 [mq 0 21 0,mq 1 22 8,oq 2 23 (.slc 6 (.t 21) none (some (.t 22))),fq 3 24 9 2,lq 4 25 1 false 24,cq 5 26 43 [.t 23,.t 25],bq 6 27 .geq (.t 26) (ic 0)] ma16) (.cond (.t 27) (.seq (rF 7 [fq 0 28 9 1,lq 1 29 1 false 28,oq 2 2 (.mv (ic 4)),mq 3 3 29] ma16) .ret) .skip))
def q21_8:IC := (.seq (rF 8 [fq 0 30 9 3,lq 1 31 1 false 30,bq 2 32 .gtr (.t 31) (ic 4)] ma16) (.cond (.t 32) (.seq (rF 9 [fq 0 33 9 1,lq 1 34 1 false 33,oq 2 2 (.mv (ic 2)),mq 3 3 34] ma16) .ret) .skip))
def q21_10:IC := (.seq (rF 10 [fq 0 35 9 0,lq 1 36 1 false 35] ma16) (.block 2 (.seq (.seq (rF 12 [bq 0 40 .eql (.t 36) (ic 1),mq 1 39 40] ma16) (.cond (.t 39) .skip (rF 13 [bq 0 41 .eql (.t 36) (ic 2),mq 1 39 41] ma16))) (.cond (.t 39) (rF 14 [mq 0 42 4,fq 1 43 9 3,lq 2 44 1 false 43,oq 3 45 (.mx [.t 44,ic 1]),bq 4 46 .add (.t 42) (.t 45),mq 5 4 46] ma16) (.seq (.seq (rF 15 [bq 0 48 .eql (.t 36) (ic 3),mq 1 47 48] ma16) (.cond (.t 47) .skip (rF 16 [bq 0 49 .eql (.t 36) (ic 4),mq 1 47 49] ma16))) (.cond (.t 47) (rF 17 [mq 0 50 5,bq 1 51 .add (.t 50) (ic 1),mq 2 5 51] ma16) (.seq (rF 18 [bq 0 53 .eql (.t 36) (ic 5),mq 1 52 53] ma16) (.cond (.t 52) (rF 19 [mq 0 54 6,bq 1 55 .add (.t 54) (ic 1),mq 2 6 55] ma16) (rF 11 [mq 0 37 7,bq 1 38 .add (.t 37) (ic 1),mq 2 7 38] ma16)))))))))
def q21_20:IC := (.seq (rF 20 [mq 0 56 4,bq 1 57 .gtr (.t 56) (ic 12),mq 2 58 57,⟨3,some 59,.mv (.t 5),(some (58,false))⟩,⟨4,some 60,.bin .gtr (.t 59) (ic 4),(some (58,false))⟩,oq 5 61 (.pick (.t 58) (.c (.bool true)) (.t 60)),mq 6 62 61,⟨7,some 63,.mv (.t 6),(some (62,false))⟩,⟨8,some 64,.bin .gtr (.t 63) (ic 2),(some (62,false))⟩,oq 9 65 (.pick (.t 62) (.c (.bool true)) (.t 64)),mq 10 66 65,⟨11,some 67,.mv (.t 7),(some (66,false))⟩,⟨12,some 68,.bin .gtr (.t 67) (ic 2),(some (66,false))⟩,oq 13 69 (.pick (.t 66) (.c (.bool true)) (.t 68))] ma16) (.cond (.t 69) (.seq (rF 21 [fq 0 70 9 1,lq 1 71 1 false 70,oq 2 2 (.mv (ic 2)),mq 3 3 71] ma16) .ret) .skip))
def q21_22:IC := (.seq (rF 22 [fq 0 72 9 0,lq 1 73 1 false 72,bq 2 74 .eql (.t 73) (ic 5)] ma16) (.cond (.t 74) (.seq (rF 23 [mq 0 75 0,mq 1 76 8,oq 2 77 (.slc 6 (.t 75) none (some (.t 76))),fq 3 78 9 5,lq 4 79 1 false 78,cq 5 80 43 [.t 77,.t 79],mq 6 10 80] ma16) (.seq (.seq (rF 24 [mq 0 81 10,bq 1 82 .lss (.t 81) (ic 0)] ma16) (.cond (.t 82) (.seq (rF 25 [fq 0 83 9 1,lq 1 84 1 false 83,oq 2 2 (.mv (ic 5)),mq 3 3 84] ma16) .ret) .skip)) (.seq (rF 26 [mq 0 85 0,mq 1 86 10,oq 2 87 (.iad 6 (.t 85) (.t 86)),fq 3 88 87 0,lq 4 89 1 false 88,bq 5 90 .neq (.t 89) (ic 3)] ma16) (.cond (.t 90) (.seq (rF 27 [fq 0 91 9 1,lq 1 92 1 false 91,oq 2 2 (.mv (ic 6)),mq 3 3 92] ma16) .ret) .skip)))) .skip))
def q21_A:IC := (.seq (rF 3 [mq 0 11 8,mq 1 12 0,zq 2 13 false 12,bq 3 14 .lss (.t 11) (.t 13)] ma16) (.cond (.t 14) .skip (.exit 0)))
def q21_D:IC := (rF 4 [mq 0 15 8,bq 1 16 .add (.t 15) (ic 1),mq 2 8 16] ma16)
theorem shape_21:b21_0 = .seq q21_A (.seq (.block 1 (.seq q21_5 (.seq q21_6 (.seq q21_8 (.seq q21_10 (.seq q21_20 q21_22)))))) q21_D) := rfl
/-! ### Declarations -/
def addC (d:Decl) (c:Int):Int := if d.kind = 1 ∨ d.kind = 2 then c + (if 1 > d.size then 1 else d.size) else c
def addL (d:Decl) (c:Int):Int := if d.kind = 3 ∨ d.kind = 4 then c + 1 else c
def addO (d:Decl) (c:Int):Int := if d.kind = 5 then c + 1 else c
def addF (d:Decl) (c:Int):Int := if d.kind = 6 then c + 1 else c
def full4 (c l o f:Int):Bool := decide (c > 12) || (decide (l > 4) || (decide (o > 2) || decide (f > 2)))
def onErr (b:List Decl) (d:Decl):Int := if d.kind = 5 then (match b.find? (fun x => x.name == d.on) with
  | none => 5
  | some e => if e.kind = 3 then 0 else 6) else 0
/-- P4.2,item 2: what the next declaration says,behind those of b. -/
def declE (b:List Decl) (d:Decl) (c l o f:Int):Int :=
  if b.any (fun x => x.name == d.name) then 4 else if d.size > 4 then 2 else if full4 (addC d c) (addL d l) (addO d o) (addF d f) then 2 else onErr b d
def declsE (all:List Decl):List Decl → Nat → Int → Int → Int → Int → Int × Int
  | [],_,_,_,_,_ => (0,0)
  | d :: r,i,c,l,o,f => if declE (all.take i) d c l o f = 0 then declsE all r (i + 1) (addC d c) (addL d l) (addO d o) (addF d f) else (declE (all.take i) d c l o f,d.line)
structure Decl.Kd (d:Decl):Prop where
  k1:1 ≤ d.kind
  k6:d.kind ≤ 6
  sz:0 ≤ d.size
structure Cnt (c l o f:Int):Prop where
  c0:0 ≤ c
  c1:c ≤ 12
  l0:0 ≤ l
  l1:l ≤ 4
  o0:0 ≤ o
  o1:o ≤ 2
  f0:0 ≤ f
  f1:f ≤ 2
theorem Cnt.next {c l o f:Int} (q:Cnt c l o f) (d:Decl) (hd:d.Kd) (hs:¬ d.size > 4) (hf:full4 (addC d c) (addL d l) (addO d o) (addF d f) = false):Cnt (addC d c) (addL d l) (addO d o) (addF d f) := by
  obtain ⟨c0,c1,l0,l1,o0,o1,f0,f1⟩ := q
  have h0 := hd.sz
  simp only [full4,Bool.or_eq_false_iff,decide_eq_false_iff_not,Int.not_lt,gt_iff_lt] at hf
  obtain ⟨h1,h2,h3,h4⟩ := hf
  refine ⟨?_,h1,?_,h2,?_,h3,?_,h4⟩
  · unfold addC; split <;> (try split) <;> omega
  · unfold addL; split <;> omega
  · unfold addO; split <;> omega
  · unfold addF; split <;> omega
theorem headB_decl (l:List Decl):headB 6 (l.map Decl.v) = true := by
  cases l with
  | nil => rfl
  | cons d l => simp [headB,Decl.v,V.cells]
theorem slc_decl (f:Bool) (l:List Decl) (i:Nat) (hi:i < l.length):slcv 6 (.sl f (l.map Decl.v)) none (some (i:Int)) = some (.sl false ((l.take i).map Decl.v)) := by
  have h1:(i:Int) ≤ (l.length:Int) := by omega
  have h2:¬ (i:Int) = (l.length:Int) := by omega
  have h3:0 ≤ (i:Int) := by omega
  simp [slcv,headB_decl,h1,h2,h3,List.map_take]
/-- The switch on the kind,and the question on the sums: both sides. -/
structure F16 (i1:Nat) (tl ls ln:V) (i:Nat) (c l o f:Int) (id:Nat) (fr:Fr):Prop where
  t1:Fr.get fr 1 = some (.ptr i1 0 0)
  t10:Fr.get fr 10 = some (tl)
  t13:Fr.get fr 13 = some (ls)
  t14:Fr.get fr 14 = some (ln)
  t15:Fr.get fr 15 = some (.int .i64 i)
  tc:Fr.get fr 4 = some (.int .i64 c)
  tl:Fr.get fr 5 = some (.int .i64 l)
  to:Fr.get fr 6 = some (.int .i64 o)
  tf:Fr.get fr 7 = some (.int .i64 f)
  t9:Fr.get fr 9 = some (.ptr id 0 0)
theorem size_16 (cf:CallF) (m:Nat) (i1:Nat) (tl ls ln:V) (i:Nat) {c l o f:Int} {id:Nat} {fr:Fr} (F:F16 i1 tl ls ln i c l o f id fr) {h:H} {d:Decl} {kd:Kind} (hg:h.get id = some (.row [d.v] 6 kd)) :
    (d.size > 4 → ∃ fr',exec cf m q16_8 fr h = some (.ret,fr',h) ∧ Fr.get fr' 2 = some (.int .i64 2) ∧ Fr.get fr' 3 = some (.int .i64 d.line)) ∧
    (¬ d.size > 4 → ∃ fr',exec cf m q16_8 fr h = some (.norm,fr',h) ∧ F16 i1 tl ls ln i c l o f id fr') := by
  obtain ⟨t1,t10,t13,t14,t15,tc,tl',to,tf,t9⟩ := F
  have k1 := ldD1 hg
  have k3 := ldD3 hg
  refine ⟨fun hs => ?_,fun hs => ?_⟩
  · have hs':4 < d.size := hs
    simp [q16_8,t1,t10,t13,t14,t15,tc,tl',to,tf,t9,k1,k3,hs']
  · have hs':¬ 4 < d.size := hs
    simp [q16_8,t1,t10,t13,t14,t15,tc,tl',to,tf,t9,k1,k3,hs']
    exact ⟨by simp [t1],by simp [t10],by simp [t13],by simp [t14],by simp [t15],by simp [tc],by simp [tl'],by simp [to],by simp [tf],by simp [t9]⟩
theorem switch_16 (cf:CallF) (m:Nat) (i1:Nat) (tl ls ln:V) (i:Nat) {c l o f:Int} {id:Nat} {fr:Fr} (F:F16 i1 tl ls ln i c l o f id fr) {h:H} {d:Decl} {kd:Kind} (hg:h.get id = some (.row [d.v] 6 kd)) (hk:d.Kd) (hs:¬ d.size > 4) (hc:Cnt c l o f) :
    ∃ fr',exec cf m q16_10 fr h = some (.norm,fr',h) ∧ F16 i1 tl ls ln i (addC d c) (addL d l) (addO d o) (addF d f) id fr' := by
  obtain ⟨t1,t10,t13,t14,t15,tc,tl',to,tf,t9⟩ := F
  have k0 := ldD0 hg
  have k3 := ldD3 hg
  obtain ⟨c0,c1,l0,l1,o0,o1,f0,f1⟩ := hc
  have h0 := hk.sz
  have hm:foldv mxv (.int .i64 d.size) [.int .i64 1] = some (.int .i64 (if 1 > d.size then 1 else d.size)) := by simp only [foldv,mxv]
  have hb:(if 1 > d.size then 1 else d.size) ≤ 4 ∧ 0 ≤ (if 1 > d.size then 1 else d.size) := by split <;> omega
  generalize hM:(if 1 > d.size then 1 else d.size) = M at hm hb
  have w1:wrp .i64 (c + M) = c + M := wrp_i64 (by omega) (by omega)
  have w2:wrp .i64 (l + 1) = l + 1 := wrp_i64 (by omega) (by omega)
  have w3:wrp .i64 (o + 1) = o + 1 := wrp_i64 (by omega) (by omega)
  have w4:wrp .i64 (f + 1) = f + 1 := wrp_i64 (by omega) (by omega)
  have hk':d.kind = 1 ∨ d.kind = 2 ∨ d.kind = 3 ∨ d.kind = 4 ∨ d.kind = 5 ∨ d.kind = 6 := by have := hk.k1; have := hk.k6; omega
  simp only [addC,addL,addO,addF,hM]
  rcases hk' with hk | hk | hk | hk | hk | hk <;> rw [hk] at k0 <;> simp [q16_10,t1,t10,t13,t14,t15,tc,tl',to,tf,t9,k0,k3,hm,w1,w2,w3,w4,hk]
  · exact ⟨by simp [t1],by simp [t10],by simp [t13],by simp [t14],by simp [t15],by simp [tc],by simp [tl'],by simp [to],by simp [tf],by simp [t9]⟩
  · exact ⟨by simp [t1],by simp [t10],by simp [t13],by simp [t14],by simp [t15],by simp [tc],by simp [tl'],by simp [to],by simp [tf],by simp [t9]⟩
  · exact ⟨by simp [t1],by simp [t10],by simp [t13],by simp [t14],by simp [t15],by simp [tc],by simp [tl'],by simp [to],by simp [tf],by simp [t9]⟩
  · exact ⟨by simp [t1],by simp [t10],by simp [t13],by simp [t14],by simp [t15],by simp [tc],by simp [tl'],by simp [to],by simp [tf],by simp [t9]⟩
  · exact ⟨by simp [t1],by simp [t10],by simp [t13],by simp [t14],by simp [t15],by simp [tc],by simp [tl'],by simp [to],by simp [tf],by simp [t9]⟩
  · exact ⟨by simp [t1],by simp [t10],by simp [t13],by simp [t14],by simp [t15],by simp [tc],by simp [tl'],by simp [to],by simp [tf],by simp [t9]⟩
theorem sum_16 (cf:CallF) (m:Nat) (i1:Nat) (tl ls ln:V) (i:Nat) {c l o f:Int} {id:Nat} {fr:Fr} (F:F16 i1 tl ls ln i c l o f id fr) {h:H} {d:Decl} {kd:Kind} (hg:h.get id = some (.row [d.v] 6 kd)) :
    (full4 c l o f = true → ∃ fr',exec cf m q16_21 fr h = some (.ret,fr',h) ∧ Fr.get fr' 2 = some (.int .i64 2) ∧ Fr.get fr' 3 = some (.int .i64 d.line)) ∧
    (full4 c l o f = false → ∃ fr',exec cf m q16_21 fr h = some (.norm,fr',h) ∧ F16 i1 tl ls ln i c l o f id fr') := by
  obtain ⟨t1,t10,t13,t14,t15,tc,tl',to,tf,t9⟩ := F
  have k1 := ldD1 hg
  unfold full4
  refine ⟨fun hs => ?_,fun hs => ?_⟩
  · by_cases h1:12 < c
    · simp [q16_21,t1,t10,t13,t14,t15,tc,tl',to,tf,t9,k1,h1]
    · by_cases h2:4 < l
      · simp [q16_21,t1,t10,t13,t14,t15,tc,tl',to,tf,t9,k1,h1,h2]
      · by_cases h3:2 < o
        · simp [q16_21,t1,t10,t13,t14,t15,tc,tl',to,tf,t9,k1,h1,h2,h3]
        · by_cases h4:2 < f
          · simp [q16_21,t1,t10,t13,t14,t15,tc,tl',to,tf,t9,k1,h1,h2,h3,h4]
          · simp [h1,h2,h3,h4] at hs
  · simp only [Bool.or_eq_false_iff,decide_eq_false_iff_not,gt_iff_lt] at hs
    obtain ⟨h1,h2,h3,h4⟩ := hs
    simp [q16_21,t1,t10,t13,t14,t15,tc,tl',to,tf,t9,k1,h1,h2,h3,h4]
    exact ⟨by simp [t1],by simp [t10],by simp [t13],by simp [t14],by simp [t15],by simp [tc],by simp [tl'],by simp [to],by simp [tf],by simp [t9]⟩
structure F21 (ls:V) (i:Nat) (c l o f:Int) (id:Nat) (fr:Fr):Prop where
  t0:Fr.get fr 0 = some (ls)
  t8:Fr.get fr 8 = some (.int .i64 i)
  tc:Fr.get fr 4 = some (.int .i64 c)
  tl:Fr.get fr 5 = some (.int .i64 l)
  to:Fr.get fr 6 = some (.int .i64 o)
  tf:Fr.get fr 7 = some (.int .i64 f)
  t9:Fr.get fr 9 = some (.ptr id 0 0)
theorem size_21 (cf:CallF) (m:Nat) (ls:V) (i:Nat) {c l o f:Int} {id:Nat} {fr:Fr} (F:F21 ls i c l o f id fr) {h:H} {d:Decl} {kd:Kind} (hg:h.get id = some (.row [d.v] 6 kd)) :
    (d.size > 4 → ∃ fr',exec cf m q21_8 fr h = some (.ret,fr',h) ∧ Fr.get fr' 2 = some (.int .i64 2) ∧ Fr.get fr' 3 = some (.int .i64 d.line)) ∧
    (¬ d.size > 4 → ∃ fr',exec cf m q21_8 fr h = some (.norm,fr',h) ∧ F21 ls i c l o f id fr') := by
  obtain ⟨t0,t8,tc,tl',to,tf,t9⟩ := F
  have k1 := ldD1 hg
  have k3 := ldD3 hg
  refine ⟨fun hs => ?_,fun hs => ?_⟩
  · have hs':4 < d.size := hs
    simp [q21_8,t0,t8,tc,tl',to,tf,t9,k1,k3,hs']
  · have hs':¬ 4 < d.size := hs
    simp [q21_8,t0,t8,tc,tl',to,tf,t9,k1,k3,hs']
    exact ⟨by simp [t0],by simp [t8],by simp [tc],by simp [tl'],by simp [to],by simp [tf],by simp [t9]⟩
theorem switch_21 (cf:CallF) (m:Nat) (ls:V) (i:Nat) {c l o f:Int} {id:Nat} {fr:Fr} (F:F21 ls i c l o f id fr) {h:H} {d:Decl} {kd:Kind} (hg:h.get id = some (.row [d.v] 6 kd)) (hk:d.Kd) (hs:¬ d.size > 4) (hc:Cnt c l o f) :
    ∃ fr',exec cf m q21_10 fr h = some (.norm,fr',h) ∧ F21 ls i (addC d c) (addL d l) (addO d o) (addF d f) id fr' := by
  obtain ⟨t0,t8,tc,tl',to,tf,t9⟩ := F
  have k0 := ldD0 hg
  have k3 := ldD3 hg
  obtain ⟨c0,c1,l0,l1,o0,o1,f0,f1⟩ := hc
  have h0 := hk.sz
  have hm:foldv mxv (.int .i64 d.size) [.int .i64 1] = some (.int .i64 (if 1 > d.size then 1 else d.size)) := by simp only [foldv,mxv]
  have hb:(if 1 > d.size then 1 else d.size) ≤ 4 ∧ 0 ≤ (if 1 > d.size then 1 else d.size) := by split <;> omega
  generalize hM:(if 1 > d.size then 1 else d.size) = M at hm hb
  have w1:wrp .i64 (c + M) = c + M := wrp_i64 (by omega) (by omega)
  have w2:wrp .i64 (l + 1) = l + 1 := wrp_i64 (by omega) (by omega)
  have w3:wrp .i64 (o + 1) = o + 1 := wrp_i64 (by omega) (by omega)
  have w4:wrp .i64 (f + 1) = f + 1 := wrp_i64 (by omega) (by omega)
  have hk':d.kind = 1 ∨ d.kind = 2 ∨ d.kind = 3 ∨ d.kind = 4 ∨ d.kind = 5 ∨ d.kind = 6 := by have := hk.k1; have := hk.k6; omega
  simp only [addC,addL,addO,addF,hM]
  rcases hk' with hk | hk | hk | hk | hk | hk <;> rw [hk] at k0 <;> simp [q21_10,t0,t8,tc,tl',to,tf,t9,k0,k3,hm,w1,w2,w3,w4,hk]
  · exact ⟨by simp [t0],by simp [t8],by simp [tc],by simp [tl'],by simp [to],by simp [tf],by simp [t9]⟩
  · exact ⟨by simp [t0],by simp [t8],by simp [tc],by simp [tl'],by simp [to],by simp [tf],by simp [t9]⟩
  · exact ⟨by simp [t0],by simp [t8],by simp [tc],by simp [tl'],by simp [to],by simp [tf],by simp [t9]⟩
  · exact ⟨by simp [t0],by simp [t8],by simp [tc],by simp [tl'],by simp [to],by simp [tf],by simp [t9]⟩
  · exact ⟨by simp [t0],by simp [t8],by simp [tc],by simp [tl'],by simp [to],by simp [tf],by simp [t9]⟩
  · exact ⟨by simp [t0],by simp [t8],by simp [tc],by simp [tl'],by simp [to],by simp [tf],by simp [t9]⟩
theorem sum_21 (cf:CallF) (m:Nat) (ls:V) (i:Nat) {c l o f:Int} {id:Nat} {fr:Fr} (F:F21 ls i c l o f id fr) {h:H} {d:Decl} {kd:Kind} (hg:h.get id = some (.row [d.v] 6 kd)) :
    (full4 c l o f = true → ∃ fr',exec cf m q21_20 fr h = some (.ret,fr',h) ∧ Fr.get fr' 2 = some (.int .i64 2) ∧ Fr.get fr' 3 = some (.int .i64 d.line)) ∧
    (full4 c l o f = false → ∃ fr',exec cf m q21_20 fr h = some (.norm,fr',h) ∧ F21 ls i c l o f id fr') := by
  obtain ⟨t0,t8,tc,tl',to,tf,t9⟩ := F
  have k1 := ldD1 hg
  unfold full4
  refine ⟨fun hs => ?_,fun hs => ?_⟩
  · by_cases h1:12 < c
    · simp [q21_20,t0,t8,tc,tl',to,tf,t9,k1,h1]
    · by_cases h2:4 < l
      · simp [q21_20,t0,t8,tc,tl',to,tf,t9,k1,h1,h2]
      · by_cases h3:2 < o
        · simp [q21_20,t0,t8,tc,tl',to,tf,t9,k1,h1,h2,h3]
        · by_cases h4:2 < f
          · simp [q21_20,t0,t8,tc,tl',to,tf,t9,k1,h1,h2,h3,h4]
          · simp [h1,h2,h3,h4] at hs
  · simp only [Bool.or_eq_false_iff,decide_eq_false_iff_not,gt_iff_lt] at hs
    obtain ⟨h1,h2,h3,h4⟩ := hs
    simp [q21_20,t0,t8,tc,tl',to,tf,t9,k1,h1,h2,h3,h4]
    exact ⟨by simp [t0],by simp [t8],by simp [tc],by simp [tl'],by simp [to],by simp [tf],by simp [t9]⟩

theorem take_at {α:Type} {l:List α} {i j:Nat} {x:α} (h:(l.take i)[j]? = some x):l[j]? = some x := by
  rw [List.getElem?_take] at h
  split at h
  · exact h
  · exact absurd h (by simp)
theorem onErr_cases (b:List Decl) (d:Decl) (hk:d.kind = 5):(∃ (j:Nat) (e:Decl),idxOf (fun x:Decl => x.name == d.on) b 0 = (j:Int) ∧ b[j]? = some e ∧ onErr b d = if e.kind = 3 then 0 else 6) ∨ (idxOf (fun x:Decl => x.name == d.on) b 0 = -1 ∧ onErr b d = 5) := by
  rcases idxOf_find (fun x:Decl => x.name == d.on) b with ⟨j,e,h1,h2,h3,h4⟩ | ⟨h1,h2⟩
  · exact .inl ⟨j,e,h2,h3,by unfold onErr; rw [if_pos hk,h1]⟩
  · exact .inr ⟨h2,by unfold onErr; rw [if_pos hk,h1]⟩
theorem ldKind (d:Decl) (h:H):ldv h 1 false (.vptr d.v.cells) = some (.int .i64 d.kind) := by simp [ldv,Decl.v,V.cells,cut,mk]
structure G16 (p:Prog) (i1 i:Nat) (c l o f:Int) (fr:Fr):Prop where
  t1:Fr.get fr 1 = some (.ptr i1 0 0)
  t13:Fr.get fr 13 = some (.sl p.fd (p.decls.map Decl.v))
  t14:Fr.get fr 14 = some (.int .i64 p.decls.length)
  t15:Fr.get fr 15 = some (.int .i64 i)
  tc:Fr.get fr 4 = some (.int .i64 c)
  tl:Fr.get fr 5 = some (.int .i64 l)
  to:Fr.get fr 6 = some (.int .i64 o)
  tf:Fr.get fr 7 = some (.int .i64 f)
theorem open16 (m:Nat) (p:Prog) (hp:p.Small) (i1 i:Nat) (c l o f:Int) (fr:Fr) (k:H) (G:G16 p i1 i c l o f fr) (d:Decl) (hd:p.decls[i]? = some d) (h1:k.get i1 = some (.row [p.v] 2 .rw)) (hl1:i1 < k.nx * 256) :
    ∃ fr' k' id,exec (call fns m) m (.seq q16_A (.seq q16_4 q16_5)) fr k = some (.norm,fr',k') ∧ F16 i1 (.sl false ((p.decls.take i).map Decl.v)) (.sl p.fd (p.decls.map Decl.v)) (.int .i64 p.decls.length) i c l o f id fr' ∧ k'.get id = some (.row [d.v] 6 .rw) ∧ id < k'.nx * 256 ∧ Grow k k' := by
  obtain ⟨t1,t13,t14,t15,tc,tl,to,tf⟩ := G
  obtain ⟨hi,_⟩ := List.getElem?_eq_some_iff.1 hd
  have hi':(i:Int) < (p.decls.length:Int) := by omega
  let k0:H := (({ k with nx := k.nx + 1 }:H).set (k.nx * 256 + 3) (.row [.agg [.int .i64 0,.int .i64 0,.str [],.int .i64 0,.int .i64 0,.str []]] 6 .rw))
  let k1:H := k0.set (k.nx * 256 + 3) (.row [d.v] 6 .rw)
  have g1:Grow k k1 := (((Grow.refl k).up (k.nx + 1) (by omega)).set (by omega) _).set (by omega) _
  have es:stv k0 6 (.ptr (k.nx * 256 + 3) 0 0) d.v = some k1 := stvD (by simp [k0,H.get_set])
  have hk1:k1.get (k.nx * 256 + 3) = some (.row [d.v] 6 .rw) := by simp [k1,H.get_set]
  have kd := ldPd (gget g1 hl1 h1)
  have sl := slc_decl p.fd p.decls i hi
  have ed := ld_33 d
  have el := len_33 d
  simp only [k0] at es
  obtain ⟨fr',e,F⟩:∃ fr',exec (call fns m) m (.seq q16_A (.seq q16_4 q16_5)) fr k = some (.norm,fr',k1) ∧ F16 i1 (.sl false ((p.decls.take i).map Decl.v)) (.sl p.fd (p.decls.map Decl.v)) (.int .i64 p.decls.length) i c l o f (k.nx * 256 + 3) fr' := by
    simp [q16_A,q16_4,q16_5,iadv,stepE,cells_agg,oint,t1,t13,t14,t15,tc,tl,to,tf,hi',hd,es,ed,el,kd,sl]
    exact ⟨by simp [t1],by simp,by simp [t13],by simp [t14],by simp [t15],by simp [tc],by simp [tl],by simp [to],by simp [tf],by simp⟩
  exact ⟨fr',k1,_,e,F,hk1,by show _ < (k.nx + 1) * 256; omega,g1⟩
theorem dup16 (m:Nat) (p:Prog) (hm:p.decls.length + 30 ≤ m) (hp:p.Small) (i1 i:Nat) (ls ln:V) (c l o f:Int) (id:Nat) (fr:Fr) (k:H) (F:F16 i1 (.sl false ((p.decls.take i).map Decl.v)) ls ln i c l o f id fr) (d:Decl) (hg:k.get id = some (.row [d.v] 6 .rw)) (hid:id < k.nx * 256) :
    ∃ k',Grow k k' ∧ ((((p.decls.take i).any fun x => x.name == d.name) = true ∧ ∃ fr',exec (call fns m) m q16_6 fr k = some (.ret,fr',k') ∧ Fr.get fr' 2 = some (.int .i64 4) ∧ Fr.get fr' 3 = some (.int .i64 d.line)) ∨
      (((p.decls.take i).any fun x => x.name == d.name) = false ∧ ∃ fr',exec (call fns m) m q16_6 fr k = some (.norm,fr',k') ∧ F16 i1 (.sl false ((p.decls.take i).map Decl.v)) ls ln i c l o f id fr')) := by
  obtain ⟨t1,t10,t13,t14,t15,tc,tl,to,tf,t9⟩ := F
  obtain ⟨m,rfl⟩:∃ q,m = q + 2 := ⟨m - 2,by omega⟩
  have hpd := hp.d
  have hle:(p.decls.take i).length ≤ p.decls.length := by rw [List.length_take]; omega
  obtain ⟨k',e,g⟩ := ok_31 m false (p.decls.take i) 32 [.ptr id 0 0] (fun x => x.name == d.name) (by omega) (by omega) k (fun x _ q gq => ok_32 m (by omega) x d id .rw q (by have := gq.1; omega) (gget gq hid hg))
  have k1 := ldD1 (gget g hid hg)
  rw [List.map_take] at e
  refine ⟨k',g,?_⟩
  cases hb:(p.decls.take i).any fun x => x.name == d.name with
  | true =>
    rw [hb] at e
    refine .inl ⟨rfl,?_⟩
    simp [q16_6,t1,t9,t10,e,k1]
  | false =>
    rw [hb] at e
    refine .inr ⟨rfl,?_⟩
    simp [q16_6,t1,t9,t10,e,k1]
    exact ⟨by simp [t1],by simp [t10],by simp [t13],by simp [t14],by simp [t15],by simp [tc],by simp [tl],by simp [to],by simp [tf],by simp [t9]⟩
theorem on16 (m:Nat) (p:Prog) (hm:p.decls.length + 30 ≤ m) (hp:p.Small) (i1 i:Nat) (c l o f:Int) (id:Nat) (fr:Fr) (k:H) (F:F16 i1 (.sl false ((p.decls.take i).map Decl.v)) (.sl p.fd (p.decls.map Decl.v)) (.int .i64 p.decls.length) i c l o f id fr) (d:Decl) (hg:k.get id = some (.row [d.v] 6 .rw)) (hid:id < k.nx * 256) :
    ∃ k',Grow k k' ∧ ((onErr (p.decls.take i) d ≠ 0 ∧ ∃ fr',exec (call fns m) m (.seq q16_23 (.seq q16_24 q16_25)) fr k = some (.ret,fr',k') ∧ Fr.get fr' 2 = some (.int .i64 (onErr (p.decls.take i) d)) ∧ Fr.get fr' 3 = some (.int .i64 d.line)) ∨
      (onErr (p.decls.take i) d = 0 ∧ ∃ fr' y,(y = .norm ∨ y = .brk 1) ∧ exec (call fns m) m (.seq q16_23 (.seq q16_24 q16_25)) fr k = some (y,fr',k') ∧ G16 p i1 i c l o f fr')) := by
  obtain ⟨t1,t10,t13,t14,t15,tc,tl,to,tf,t9⟩ := F
  obtain ⟨m,rfl⟩:∃ q,m = q + 2 := ⟨m - 2,by omega⟩
  have hpd := hp.d
  have hle:(p.decls.take i).length ≤ p.decls.length := by rw [List.length_take]; omega
  obtain ⟨k',e,g⟩ := ok_33 (m + 1) false (p.decls.take i) 34 [.ptr id 0 0] (fun x => x.name == d.on) (by omega) (by omega) k (fun x _ q gq => ok_34 (m + 1) (by omega) x d id .rw q (by have := gq.1; omega) (gget gq hid hg))
  have k0 := ldD0 hg
  have k1 := ldD1 (gget g hid hg)
  rw [List.map_take] at e
  change call fns (m + 2) 33 _ _ = _ at e
  by_cases hk:d.kind = 5
  · rw [hk] at k0
    refine ⟨k',g,?_⟩
    rcases onErr_cases (p.decls.take i) d hk with ⟨j,x,h1,h2,h3⟩ | ⟨h1,h3⟩
    · rw [h1] at e
      rw [h3]
      have lk := ldKind x k'
      have el := len_33 x
      have h2':(List.take i (p.decls.map Decl.v))[j]? = some x.v := by rw [← List.map_take,List.getElem?_map,h2]; rfl
      have hj0:¬ (j:Int) < 0 := by omega
      have hj1:0 ≤ (j:Int) := by omega
      have hz:∀ cs:List V,x.v.cells = cs → ldv k' 1 false (.vptr cs) = some (.int .i64 x.kind) := fun cs h => by rw [← h]; exact lk
      by_cases hx:x.kind = 3
      · rw [hx] at lk
        refine .inr ⟨by simp [hx],?_⟩
        obtain ⟨fr',e',G⟩:∃ fr',exec (call fns (m + 2)) (m + 2) (.seq q16_23 (.seq q16_24 q16_25)) fr k = some (.norm,fr',k') ∧ G16 p i1 i c l o f fr' := by
          simp [q16_23,q16_24,q16_25,iadv,t1,t9,t10,e,k0,k1,h2',el,lk,hj0,hj1]
          exact ⟨by simp [t1],by simp [t13],by simp [t14],by simp [t15],by simp [tc],by simp [tl],by simp [to],by simp [tf]⟩
        exact ⟨fr',.norm,.inl rfl,e',G⟩
      · refine .inl ⟨by simp [hx],?_⟩
        simp [q16_23,q16_24,q16_25,iadv,t1,t9,t10,e,k0,k1,h2',el,lk,hj0,hj1,hx]
    · rw [h1] at e
      rw [h3]
      refine .inl ⟨by simp,?_⟩
      simp [q16_23,q16_24,q16_25,iadv,t1,t9,t10,e,k0,k1]
  · have h3:onErr (p.decls.take i) d = 0 := by unfold onErr; rw [if_neg hk]
    refine ⟨k,Grow.refl k,.inr ⟨h3,?_⟩⟩
    obtain ⟨fr',e',G⟩:∃ fr',exec (call fns (m + 2)) (m + 2) (.seq q16_23 (.seq q16_24 q16_25)) fr k = some (.brk 1,fr',k) ∧ G16 p i1 i c l o f fr' := by
      simp [q16_23,q16_24,q16_25,iadv,t1,t9,t10,k0,hk]
      exact ⟨by simp [t1],by simp [t13],by simp [t14],by simp [t15],by simp [tc],by simp [tl],by simp [to],by simp [tf]⟩
    exact ⟨fr',.brk 1,.inr rfl,e',G⟩
theorem end16 (cf:CallF) (m:Nat) (p:Prog) (hp:p.Small) (i1 i:Nat) (hi:i < p.decls.length) (c l o f:Int) (fr:Fr) (k:H) (G:G16 p i1 i c l o f fr):∃ fr',exec cf m q16_D fr k = some (.norm,fr',k) ∧ G16 p i1 (i + 1) c l o f fr' := by
  obtain ⟨t1,t13,t14,t15,tc,tl,to,tf⟩ := G
  have hpd := hp.d
  have hw:wrp .i64 ((i:Int) + 1) = (i:Int) + 1 := wrp_i64 (by omega) (by omega)
  simp [q16_D,t15,hw]
  exact ⟨by simp [t1],by simp [t13],by simp [t14],by simp,by simp [tc],by simp [tl],by simp [to],by simp [tf]⟩
def q16_A0:IC := (rF 3 [bq 0 16 .lss (.t 15) (.t 14)] ma11)
def q16_A1:IC := (.cond (.t 16) .skip (.exit 0))
theorem shape_16':b16_0 = .seq q16_A0 (.seq q16_A1 (.seq (.block 1 (.seq q16_4 (.seq q16_5 (.seq q16_6 (.seq q16_8 (.seq q16_10 (.seq q16_21 (.seq q16_23 (.seq q16_24 q16_25))))))))) q16_D)) := rfl
theorem A16:q16_A = .seq q16_A0 q16_A1 := rfl
theorem exec_blkb {cf:CallF} {k:Nat} {b:IC} {d:Nat} {fr fr':Fr} {h h':H} (e:exec cf k b fr h = some (.brk d,fr',h')):exec cf k (.block d b) fr h = some (.norm,fr',h') := by
  simp only [exec,e,if_true]
structure R16 (p:Prog) (i1:Nat) (h:H) (i:Nat) (fr:Fr) (k:H):Prop where
  gr:Grow h k
  ex:∃ c l o f,G16 p i1 i c l o f fr ∧ Cnt c l o f ∧ declsE p.decls p.decls 0 0 0 0 0 = declsE p.decls (p.decls.drop i) i c l o f
def Q16 (p:Prog) (h:H) (y:X) (fr:Fr) (k:H):Prop :=
  (y = .ret ∧ Fr.get fr 2 = some (.int .i64 (declsE p.decls p.decls 0 0 0 0 0).1) ∧ Fr.get fr 3 = some (.int .i64 (declsE p.decls p.decls 0 0 0 0 0).2) ∧ Grow h k) ∨ (y = .brk 0 ∧ declsE p.decls p.decls 0 0 0 0 0 = (0,0) ∧ Grow h k)
theorem dropD {l:List Decl} {i:Nat} {x:Decl} (h:l[i]? = some x):l.drop i = x :: l.drop (i + 1) := by
  obtain ⟨hi,rfl⟩ := List.getElem?_eq_some_iff.1 h
  exact List.drop_eq_getElem_cons hi
theorem round16 (m:Nat) (p:Prog) (hm:p.decls.length + 30 ≤ m) (hp:p.Small) (hk:∀ d,d ∈ p.decls → d.Kd) (i1:Nat) (h:H) (h1:h.get i1 = some (.row [p.v] 2 .rw)) (hl1:i1 < h.nx * 256) (i:Nat) (hi:i < p.decls.length) (fr:Fr) (k:H) (hI:R16 p i1 h i fr k) :
    (∃ fr' k',exec (call fns m) m b16_0 fr k = some (.norm,fr',k') ∧ R16 p i1 h (i + 1) fr' k') ∨ (∃ y fr' k',y ≠ .norm ∧ exec (call fns m) m b16_0 fr k = some (y,fr',k') ∧ Q16 p h y fr' k') := by
  obtain ⟨gr,c,l,o,f,G,hc,hsp⟩ := hI
  obtain ⟨d,hd⟩:∃ d,p.decls[i]? = some d := ⟨_,List.getElem?_eq_getElem hi⟩
  have hkd := hk d (List.mem_of_getElem? hd)
  rw [dropD hd,declsE] at hsp
  have hgk := gget gr hl1 h1
  have hlk:i1 < k.nx * 256 := by have := gr.1; omega
  obtain ⟨fr1,k1,id,e1,F1,hg1,hid1,g1⟩ := open16 m p hp i1 i c l o f fr k G d hd hgk hlk
  rw [A16] at e1
  obtain ⟨_,_,eA,e1⟩ := exec_seq_norm e1
  obtain ⟨_,_,eA0,eA1⟩ := exec_seq_norm eA
  obtain ⟨_,_,e4,e5⟩ := exec_seq_norm e1
  obtain ⟨k2,g2,hdup⟩ := dup16 m p hm hp i1 i _ _ c l o f id fr1 k1 F1 d hg1 hid1
  have hg2 := gget g2 hid1 hg1
  have hid2:id < k2.nx * 256 := by have := g2.1; omega
  have outR:∀ fr' k',exec (call fns m) m (.seq q16_6 (.seq q16_8 (.seq q16_10 (.seq q16_21 (.seq q16_23 (.seq q16_24 q16_25)))))) fr1 k1 = some (.ret,fr',k') → exec (call fns m) m b16_0 fr k = some (.ret,fr',k') := by
    intro fr' k' e
    rw [shape_16',exec_then eA0,exec_then eA1]
    refine exec_out (by simp) (exec_blk rfl ?_)
    rw [exec_then e4,exec_then e5]
    exact e
  have outN:∀ y fr' k',(y = .norm ∨ y = .brk 1) → exec (call fns m) m (.seq q16_6 (.seq q16_8 (.seq q16_10 (.seq q16_21 (.seq q16_23 (.seq q16_24 q16_25)))))) fr1 k1 = some (y,fr',k') → exec (call fns m) m b16_0 fr k = exec (call fns m) m q16_D fr' k' := by
    intro y fr' k' hy e
    rw [shape_16',exec_then eA0,exec_then eA1]
    rcases hy with rfl | rfl
    · exact exec_then (exec_blk rfl (by rw [exec_then e4,exec_then e5]; exact e))
    · exact exec_then (exec_blkb (by rw [exec_then e4,exec_then e5]; exact e))
  have bad:∀ E fr' k',declE (p.decls.take i) d c l o f = E → E ≠ 0 → exec (call fns m) m (.seq q16_6 (.seq q16_8 (.seq q16_10 (.seq q16_21 (.seq q16_23 (.seq q16_24 q16_25)))))) fr1 k1 = some (.ret,fr',k') → Fr.get fr' 2 = some (.int .i64 E) → Fr.get fr' 3 = some (.int .i64 d.line) → Grow h k' →
      (∃ fr' k',exec (call fns m) m b16_0 fr k = some (.norm,fr',k') ∧ R16 p i1 h (i + 1) fr' k') ∨ (∃ y fr' k',y ≠ .norm ∧ exec (call fns m) m b16_0 fr k = some (y,fr',k') ∧ Q16 p h y fr' k') := by
    rintro E fr' k' rfl hne e q2 q3 g
    rw [if_neg hne] at hsp
    exact .inr ⟨.ret,fr',k',by simp,outR _ _ e,.inl ⟨rfl,by rw [hsp]; exact q2,by rw [hsp]; exact q3,g⟩⟩
  rcases hdup with ⟨hb,fr2,e6,q2,q3⟩ | ⟨hb,fr2,e6,F2⟩
  · exact bad 4 fr2 k2 (by simp only [declE,hb,if_true]) (by simp) (exec_out (by simp) e6) q2 q3 ((gr.trans g1).trans g2)
  obtain ⟨s1,s2⟩ := size_16 (call fns m) m i1 _ _ _ i F2 hg2
  by_cases hs:d.size > 4
  · obtain ⟨fr3,e8,q2,q3⟩ := s1 hs
    exact bad 2 fr3 k2 (by simp [declE,hb,hs]) (by simp) (by rw [exec_then e6]; exact exec_out (by simp) e8) q2 q3 ((gr.trans g1).trans g2)
  obtain ⟨fr3,e8,F3⟩ := s2 hs
  obtain ⟨fr4,e10,F4⟩ := switch_16 (call fns m) m i1 _ _ _ i F3 hg2 hkd hs hc
  obtain ⟨u1,u2⟩ := sum_16 (call fns m) m i1 _ _ _ i F4 hg2
  cases hf:full4 (addC d c) (addL d l) (addO d o) (addF d f) with
  | true =>
    obtain ⟨fr5,e21,q2,q3⟩ := u1 hf
    exact bad 2 fr5 k2 (by simp [declE,hb,hs,hf]) (by simp) (by rw [exec_then e6,exec_then e8,exec_then e10]; exact exec_out (by simp) e21) q2 q3 ((gr.trans g1).trans g2)
  | false =>
    obtain ⟨fr5,e21,F5⟩ := u2 hf
    obtain ⟨k3,g3,hon⟩ := on16 m p hm hp i1 i _ _ _ _ id fr5 k2 F5 d hg2 hid2
    have G3 := ((gr.trans g1).trans g2).trans g3
    have hE:declE (p.decls.take i) d c l o f = onErr (p.decls.take i) d := by simp [declE,hb,hs,hf]
    rcases hon with ⟨hne,fr6,e23,q2,q3⟩ | ⟨h0,fr6,y,hy,e23,G6⟩
    · exact bad _ fr6 k3 hE hne (by rw [exec_then e6,exec_then e8,exec_then e10,exec_then e21]; exact e23) q2 q3 G3
    · obtain ⟨fr7,e7,G7⟩ := end16 (call fns m) m p hp i1 i hi _ _ _ _ fr6 k3 G6
      rw [if_pos (by rw [hE]; exact h0)] at hsp
      refine .inl ⟨fr7,k3,?_,G3,_,_,_,_,G7,hc.next d hkd hs hf,hsp⟩
      rw [outN y fr6 k3 hy (by rw [exec_then e6,exec_then e8,exec_then e10,exec_then e21]; exact e23)]
      exact e7
theorem ok_16 (n:Nat) (p:Prog) (hn:2 ^ 31 + 60 ≤ n) (hp:p.Small) (hk:∀ d,d ∈ p.decls → d.Kd) (h:H) :
    ∃ h',call fns n 16 [p.v] h = some (.tup [.int .i64 (declsE p.decls p.decls 0 0 0 0 0).1,.int .i64 (declsE p.decls p.decls 0 0 0 0 0).2],h') ∧ Grow h h' := by
  obtain ⟨m,rfl⟩:∃ m,n = m + 1 := ⟨n - 1,by omega⟩
  have hpd := hp.d
  let h1:H := ({ h with nx := h.nx + 1 }:H).set (h.nx * 256) (.row [p.v] 2 .rw)
  have g1:Grow h h1 := ((Grow.refl h).up (h.nx + 1) (by omega)).set (Nat.le_refl _) _
  have hb1:h1.get (h.nx * 256) = some (.row [p.v] 2 .rw) := by simp [h1,H.get_set]
  have kd := ldPd hb1
  obtain ⟨fr3,e3,G3⟩:∃ fr3,exec (call fns m) m (.seq s16_0 (.seq s16_1 p16_2)) (enter 0 [p.v]) h = some (.norm,fr3,h1) ∧ G16 p (h.nx * 256) 0 0 0 0 0 fr3 := by
    have hc2:p.v.cells.length = 2 := rfl
    simp only [h1] at kd ⊢
    simp [s16_0,s16_1,p16_2,Fr.keep_cons',Fr.keep_nil,stepE,hc2,kd]
    exact ⟨by simp,by simp,by simp,by simp,by simp,by simp,by simp,by simp⟩
  have L := loopN_ind (b := exec (call fns m) m b16_0) (n := p.decls.length) (I := R16 p (h.nx * 256) h1) (Q := Q16 p h1)
    (fun i fr k hi hI => round16 m p (by omega) hp hk _ h1 hb1 (by show _ < (h.nx + 1) * 256; omega) i hi fr k hI)
    (fun fr k hI => by
      obtain ⟨gr,c,l,o,f,⟨t1,t13,t14,t15,tc,tl,to,tf⟩,hc,hsp⟩ := hI
      rw [List.drop_length,declsE] at hsp
      obtain ⟨fr',e⟩:∃ fr',exec (call fns m) m b16_0 fr k = some (.brk 0,fr',k) := by
        simp [b16_0,t1,t13,t14,t15]
      exact ⟨.brk 0,fr',k,by simp,e,.inr ⟨rfl,hsp,gr⟩⟩)
    p.decls.length 0 (by omega) (by omega) m (by omega)
  obtain ⟨y,fr4,h4,e4,q⟩ := L fr3 h1 ⟨Grow.refl _,0,0,0,0,G3,⟨by omega,by omega,by omega,by omega,by omega,by omega,by omega,by omega⟩,by simp⟩
  rcases q with ⟨rfl,q1,q2,g⟩ | ⟨rfl,q1,g⟩
  · refine ⟨h4,?_,g1.trans g⟩
    rw [call_succ]
    show call1 (call fns m) m f16 _ _ = _
    obtain ⟨_,_,e31,e32⟩ := exec_seq_norm e3
    obtain ⟨_,_,e33,e34⟩ := exec_seq_norm e32
    have q:exec (call fns m) m f16.body (enter 0 [p.v]) h = some (.ret,fr4,h4) := by
      rw [body_16,seg_16_2,exec_then e31,exec_then e33,exec_assoc,exec_then e34]
      exact exec_out (by simp) (exec_bret e4)
    unfold call1
    rw [q]
    simp [res_16,fz_16,q1,q2]
  · refine ⟨h4,?_,g1.trans g⟩
    rw [call_succ]
    show call1 (call fns m) m f16 _ _ = _
    have q:exec (call fns m) m f16.body (enter 0 [p.v]) h = exec (call fns m) m (.seq s16_3 s16_4) fr4 h4 := by
      rw [body_16,seg_16_2]
      exact glue3 e3 (exec_brk e4)
    unfold call1
    rw [q]
    simp [s16_3,s16_4,iadv,ldv,cut,mk,V.cells,q1,res_16,fz_16]

structure G21 (p:Prog) (i:Nat) (c l o f:Int) (fr:Fr):Prop where
  t0:Fr.get fr 0 = some (.sl p.fd (p.decls.map Decl.v))
  t8:Fr.get fr 8 = some (.int .i64 i)
  tc:Fr.get fr 4 = some (.int .i64 c)
  tl:Fr.get fr 5 = some (.int .i64 l)
  to:Fr.get fr 6 = some (.int .i64 o)
  tf:Fr.get fr 7 = some (.int .i64 f)
theorem open21 (m:Nat) (p:Prog) (i:Nat) (c l o f:Int) (fr:Fr) (k:H) (G:G21 p i c l o f fr) (d:Decl) (hd:p.decls[i]? = some d) :
    ∃ fr' k' id,exec (call fns m) m (.seq q21_A q21_5) fr k = some (.norm,fr',k') ∧ F21 (.sl p.fd (p.decls.map Decl.v)) i c l o f id fr' ∧ k'.get id = some (.row [d.v] 6 .rw) ∧ id < k'.nx * 256 ∧ Grow k k' := by
  obtain ⟨t0,t8,tc,tl,to,tf⟩ := G
  obtain ⟨hi,_⟩ := List.getElem?_eq_some_iff.1 hd
  have hi':(i:Int) < (p.decls.length:Int) := by omega
  let k0:H := (({ k with nx := k.nx + 1 }:H).set (k.nx * 256 + 4) (.row [.agg [.int .i64 0,.int .i64 0,.str [],.int .i64 0,.int .i64 0,.str []]] 6 .rw))
  let k1:H := k0.set (k.nx * 256 + 4) (.row [d.v] 6 .rw)
  have g1:Grow k k1 := (((Grow.refl k).up (k.nx + 1) (by omega)).set (by omega) _).set (by omega) _
  have es:stv k0 6 (.ptr (k.nx * 256 + 4) 0 0) d.v = some k1 := stvD (by simp [k0,H.get_set])
  have hk1:k1.get (k.nx * 256 + 4) = some (.row [d.v] 6 .rw) := by simp [k1,H.get_set]
  have ed := ld_33 d
  have el := len_33 d
  simp only [k0] at es
  obtain ⟨fr',e,F⟩:∃ fr',exec (call fns m) m (.seq q21_A q21_5) fr k = some (.norm,fr',k1) ∧ F21 (.sl p.fd (p.decls.map Decl.v)) i c l o f (k.nx * 256 + 4) fr' := by
    simp [q21_A,q21_5,iadv,stepE,cells_agg,t0,t8,tc,tl,to,tf,hi',hd,es,ed,el]
    exact ⟨by simp [t0],by simp [t8],by simp [tc],by simp [tl],by simp [to],by simp [tf],by simp⟩
  exact ⟨fr',k1,_,e,F,hk1,by show _ < (k.nx + 1) * 256; omega,g1⟩
theorem dup21 (m:Nat) (p:Prog) (hm:p.decls.length + 30 ≤ m) (hp:p.Small) (i:Nat) (hi:i < p.decls.length) (c l o f:Int) (id:Nat) (fr:Fr) (k:H) (F:F21 (.sl p.fd (p.decls.map Decl.v)) i c l o f id fr) (d:Decl) (hg:k.get id = some (.row [d.v] 6 .rw)) :
    (((p.decls.take i).any fun x => x.name == d.name) = true ∧ ∃ fr',exec (call fns m) m q21_6 fr k = some (.ret,fr',k) ∧ Fr.get fr' 2 = some (.int .i64 4) ∧ Fr.get fr' 3 = some (.int .i64 d.line)) ∨
      (((p.decls.take i).any fun x => x.name == d.name) = false ∧ ∃ fr',exec (call fns m) m q21_6 fr k = some (.norm,fr',k) ∧ F21 (.sl p.fd (p.decls.map Decl.v)) i c l o f id fr') := by
  obtain ⟨t0,t8,tc,tl,to,tf,t9⟩ := F
  have hpd := hp.d
  have hle:(p.decls.take i).length ≤ p.decls.length := by rw [List.length_take]; omega
  have e := ok_43 m false (p.decls.take i) d.name (by omega) (by omega) k
  have hge := idxOf_ge (fun x:Decl => x.name == d.name) (p.decls.take i)
  have k1 := ldD1 hg
  have k2 := ldD2 hg
  have sl := slc_decl p.fd p.decls i hi
  rw [List.map_take] at e sl
  cases hb:(p.decls.take i).any fun x => x.name == d.name with
  | true =>
    rw [hb] at hge
    have hge':0 ≤ idxOf (fun x:Decl => x.name == d.name) (p.decls.take i) 0 := by simpa using hge
    refine .inl ⟨rfl,?_⟩
    simp [q21_6,oint,t0,t8,t9,e,k1,k2,sl,hge']
  | false =>
    rw [hb] at hge
    have hge':¬ 0 ≤ idxOf (fun x:Decl => x.name == d.name) (p.decls.take i) 0 := by simpa using hge
    refine .inr ⟨rfl,?_⟩
    simp [q21_6,oint,t0,t8,t9,e,k1,k2,sl,hge']
    exact ⟨by simp [t0],by simp [t8],by simp [tc],by simp [tl],by simp [to],by simp [tf],by simp [t9]⟩
theorem on21 (m:Nat) (p:Prog) (hm:p.decls.length + 30 ≤ m) (hp:p.Small) (i:Nat) (hi:i < p.decls.length) (c l o f:Int) (id:Nat) (fr:Fr) (k:H) (F:F21 (.sl p.fd (p.decls.map Decl.v)) i c l o f id fr) (d:Decl) (hg:k.get id = some (.row [d.v] 6 .rw)) :
    (onErr (p.decls.take i) d ≠ 0 ∧ ∃ fr',exec (call fns m) m q21_22 fr k = some (.ret,fr',k) ∧ Fr.get fr' 2 = some (.int .i64 (onErr (p.decls.take i) d)) ∧ Fr.get fr' 3 = some (.int .i64 d.line)) ∨
      (onErr (p.decls.take i) d = 0 ∧ ∃ fr',exec (call fns m) m q21_22 fr k = some (.norm,fr',k) ∧ G21 p i c l o f fr') := by
  obtain ⟨t0,t8,tc,tl,to,tf,t9⟩ := F
  have hpd := hp.d
  have hle:(p.decls.take i).length ≤ p.decls.length := by rw [List.length_take]; omega
  have e := ok_43 m false (p.decls.take i) d.on (by omega) (by omega) k
  have k0 := ldD0 hg
  have k1 := ldD1 hg
  have k5 := ldD5 hg
  have sl := slc_decl p.fd p.decls i hi
  rw [List.map_take] at e sl
  by_cases hk:d.kind = 5
  · rw [hk] at k0
    rcases onErr_cases (p.decls.take i) d hk with ⟨j,x,h1,h2,h3⟩ | ⟨h1,h3⟩
    · rw [h1] at e
      rw [h3]
      have lk := ldKind x k
      have el := len_33 x
      have h2':p.decls[j]? = some x := take_at h2
      have hj0:¬ (j:Int) < 0 := by omega
      have hj1:0 ≤ (j:Int) := by omega
      by_cases hx:x.kind = 3
      · rw [hx] at lk
        refine .inr ⟨by simp [hx],?_⟩
        simp [q21_22,oint,iadv,t0,t8,t9,e,k0,k1,k5,sl,h2',el,lk,hj0,hj1]
        exact ⟨by simp [t0],by simp [t8],by simp [tc],by simp [tl],by simp [to],by simp [tf]⟩
      · refine .inl ⟨by simp [hx],?_⟩
        simp [q21_22,oint,iadv,t0,t8,t9,e,k0,k1,k5,sl,h2',el,lk,hj0,hj1,hx]
    · rw [h1] at e
      rw [h3]
      refine .inl ⟨by simp,?_⟩
      simp [q21_22,oint,iadv,t0,t8,t9,e,k0,k1,k5,sl]
  · have h3:onErr (p.decls.take i) d = 0 := by unfold onErr; rw [if_neg hk]
    refine .inr ⟨h3,?_⟩
    simp [q21_22,iadv,t0,t8,t9,k0,hk]
    exact ⟨by simp [t0],by simp [t8],by simp [tc],by simp [tl],by simp [to],by simp [tf]⟩
theorem end21 (cf:CallF) (m:Nat) (p:Prog) (hp:p.Small) (i:Nat) (hi:i < p.decls.length) (c l o f:Int) (fr:Fr) (k:H) (G:G21 p i c l o f fr):∃ fr',exec cf m q21_D fr k = some (.norm,fr',k) ∧ G21 p (i + 1) c l o f fr' := by
  obtain ⟨t0,t8,tc,tl,to,tf⟩ := G
  have hpd := hp.d
  have hw:wrp .i64 ((i:Int) + 1) = (i:Int) + 1 := wrp_i64 (by omega) (by omega)
  simp [q21_D,t8,hw]
  exact ⟨by simp [t0],by simp,by simp [tc],by simp [tl],by simp [to],by simp [tf]⟩
structure R21 (p:Prog) (h:H) (i:Nat) (fr:Fr) (k:H):Prop where
  gr:Grow h k
  ex:∃ c l o f,G21 p i c l o f fr ∧ Cnt c l o f ∧ declsE p.decls p.decls 0 0 0 0 0 = declsE p.decls (p.decls.drop i) i c l o f
theorem round21 (m:Nat) (p:Prog) (hm:p.decls.length + 30 ≤ m) (hp:p.Small) (hk:∀ d,d ∈ p.decls → d.Kd) (h:H) (i:Nat) (hi:i < p.decls.length) (fr:Fr) (k:H) (hI:R21 p h i fr k) :
    (∃ fr' k',exec (call fns m) m b21_0 fr k = some (.norm,fr',k') ∧ R21 p h (i + 1) fr' k') ∨ (∃ y fr' k',y ≠ .norm ∧ exec (call fns m) m b21_0 fr k = some (y,fr',k') ∧ Q16 p h y fr' k') := by
  obtain ⟨gr,c,l,o,f,G,hc,hsp⟩ := hI
  obtain ⟨d,hd⟩:∃ d,p.decls[i]? = some d := ⟨_,List.getElem?_eq_getElem hi⟩
  have hkd := hk d (List.mem_of_getElem? hd)
  rw [dropD hd,declsE] at hsp
  obtain ⟨fr1,k1,id,e1,F1,hg1,hid1,g1⟩ := open21 m p i c l o f fr k G d hd
  obtain ⟨_,_,eA,e5⟩ := exec_seq_norm e1
  have outR:∀ fr' k',exec (call fns m) m (.seq q21_6 (.seq q21_8 (.seq q21_10 (.seq q21_20 q21_22)))) fr1 k1 = some (.ret,fr',k') → exec (call fns m) m b21_0 fr k = some (.ret,fr',k') := by
    intro fr' k' e
    rw [shape_21,exec_then eA]
    refine exec_out (by simp) (exec_blk rfl ?_)
    rw [exec_then e5]
    exact e
  have outN:∀ fr' k',exec (call fns m) m (.seq q21_6 (.seq q21_8 (.seq q21_10 (.seq q21_20 q21_22)))) fr1 k1 = some (.norm,fr',k') → exec (call fns m) m b21_0 fr k = exec (call fns m) m q21_D fr' k' := by
    intro fr' k' e
    rw [shape_21,exec_then eA]
    exact exec_then (exec_blk rfl (by rw [exec_then e5]; exact e))
  have bad:∀ E fr' k',declE (p.decls.take i) d c l o f = E → E ≠ 0 → exec (call fns m) m (.seq q21_6 (.seq q21_8 (.seq q21_10 (.seq q21_20 q21_22)))) fr1 k1 = some (.ret,fr',k') → Fr.get fr' 2 = some (.int .i64 E) → Fr.get fr' 3 = some (.int .i64 d.line) → Grow h k' →
      (∃ fr' k',exec (call fns m) m b21_0 fr k = some (.norm,fr',k') ∧ R21 p h (i + 1) fr' k') ∨ (∃ y fr' k',y ≠ .norm ∧ exec (call fns m) m b21_0 fr k = some (y,fr',k') ∧ Q16 p h y fr' k') := by
    rintro E fr' k' rfl hne e q2 q3 g
    rw [if_neg hne] at hsp
    exact .inr ⟨.ret,fr',k',by simp,outR _ _ e,.inl ⟨rfl,by rw [hsp]; exact q2,by rw [hsp]; exact q3,g⟩⟩
  have G1 := gr.trans g1
  rcases dup21 m p hm hp i hi c l o f id fr1 k1 F1 d hg1 with ⟨hb,fr2,e6,q2,q3⟩ | ⟨hb,fr2,e6,F2⟩
  · exact bad 4 fr2 k1 (by simp only [declE,hb,if_true]) (by simp) (exec_out (by simp) e6) q2 q3 G1
  obtain ⟨s1,s2⟩ := size_21 (call fns m) m _ i F2 hg1
  by_cases hs:d.size > 4
  · obtain ⟨fr3,e8,q2,q3⟩ := s1 hs
    exact bad 2 fr3 k1 (by simp [declE,hb,hs]) (by simp) (by rw [exec_then e6]; exact exec_out (by simp) e8) q2 q3 G1
  obtain ⟨fr3,e8,F3⟩ := s2 hs
  obtain ⟨fr4,e10,F4⟩ := switch_21 (call fns m) m _ i F3 hg1 hkd hs hc
  obtain ⟨u1,u2⟩ := sum_21 (call fns m) m _ i F4 hg1
  cases hf:full4 (addC d c) (addL d l) (addO d o) (addF d f) with
  | true =>
    obtain ⟨fr5,e21,q2,q3⟩ := u1 hf
    exact bad 2 fr5 k1 (by simp [declE,hb,hs,hf]) (by simp) (by rw [exec_then e6,exec_then e8,exec_then e10]; exact exec_out (by simp) e21) q2 q3 G1
  | false =>
    obtain ⟨fr5,e21,F5⟩ := u2 hf
    have hE:declE (p.decls.take i) d c l o f = onErr (p.decls.take i) d := by simp [declE,hb,hs,hf]
    rcases on21 m p hm hp i hi _ _ _ _ id fr5 k1 F5 d hg1 with ⟨hne,fr6,e23,q2,q3⟩ | ⟨h0,fr6,e23,G6⟩
    · exact bad _ fr6 k1 hE hne (by rw [exec_then e6,exec_then e8,exec_then e10,exec_then e21]; exact e23) q2 q3 G1
    · obtain ⟨fr7,e7,G7⟩ := end21 (call fns m) m p hp i hi _ _ _ _ fr6 k1 G6
      rw [if_pos (by rw [hE]; exact h0)] at hsp
      refine .inl ⟨fr7,k1,?_,G1,_,_,_,_,G7,hc.next d hkd hs hf,hsp⟩
      rw [outN fr6 k1 (by rw [exec_then e6,exec_then e8,exec_then e10,exec_then e21]; exact e23)]
      exact e7
theorem ok_21 (n:Nat) (p:Prog) (hn:2 ^ 31 + 60 ≤ n) (hp:p.Small) (hk:∀ d,d ∈ p.decls → d.Kd) (h:H) :
    ∃ h',call fns n 21 [.sl p.fd (p.decls.map Decl.v)] h = some (.tup [.int .i64 (declsE p.decls p.decls 0 0 0 0 0).1,.int .i64 (declsE p.decls p.decls 0 0 0 0 0).2],h') ∧ Grow h h' := by
  obtain ⟨m,rfl⟩:∃ m,n = m + 1 := ⟨n - 1,by omega⟩
  have hpd := hp.d
  obtain ⟨fr3,e3,G3⟩:∃ fr3,exec (call fns m) m (.seq s21_0 (.seq s21_1 p21_2)) (enter 0 [.sl p.fd (p.decls.map Decl.v)]) h = some (.norm,fr3,h) ∧ G21 p 0 0 0 0 0 fr3 := by
    simp [s21_0,s21_1,p21_2,Fr.keep_cons',Fr.keep_nil]
    exact ⟨by simp,by simp,by simp,by simp,by simp,by simp⟩
  have L := loopN_ind (b := exec (call fns m) m b21_0) (n := p.decls.length) (I := R21 p h) (Q := Q16 p h)
    (fun i fr k hi hI => round21 m p (by omega) hp hk h i hi fr k hI)
    (fun fr k hI => by
      obtain ⟨gr,c,l,o,f,⟨t0,t8,tc,tl,to,tf⟩,hc,hsp⟩ := hI
      rw [List.drop_length,declsE] at hsp
      obtain ⟨fr',e⟩:∃ fr',exec (call fns m) m b21_0 fr k = some (.brk 0,fr',k) := by
        simp [b21_0,t0,t8]
      exact ⟨.brk 0,fr',k,by simp,e,.inr ⟨rfl,hsp,gr⟩⟩)
    p.decls.length 0 (by omega) (by omega) m (by omega)
  obtain ⟨y,fr4,h4,e4,q⟩ := L fr3 h ⟨Grow.refl _,0,0,0,0,G3,⟨by omega,by omega,by omega,by omega,by omega,by omega,by omega,by omega⟩,by simp⟩
  rcases q with ⟨rfl,q1,q2,g⟩ | ⟨rfl,q1,g⟩
  · refine ⟨h4,?_,g⟩
    rw [call_succ]
    show call1 (call fns m) m f21 _ _ = _
    obtain ⟨_,_,e31,e32⟩ := exec_seq_norm e3
    obtain ⟨_,_,e33,e34⟩ := exec_seq_norm e32
    have q:exec (call fns m) m f21.body (enter 0 [.sl p.fd (p.decls.map Decl.v)]) h = some (.ret,fr4,h4) := by
      rw [body_21,seg_21_2,exec_then e31,exec_then e33,exec_assoc,exec_then e34]
      exact exec_out (by simp) (exec_bret e4)
    unfold call1
    rw [q]
    simp [res_21,fz_21,q1,q2]
  · refine ⟨h4,?_,g⟩
    rw [call_succ]
    show call1 (call fns m) m f21 _ _ = _
    have q:exec (call fns m) m f21.body (enter 0 [.sl p.fd (p.decls.map Decl.v)]) h = exec (call fns m) m (.seq s21_3 s21_4) fr4 h4 := by
      rw [body_21,seg_21_2]
      exact glue3 e3 (exec_brk e4)
    unfold call1
    rw [q]
    simp [s21_3,s21_4,iadv,ldv,cut,mk,V.cells,q1,res_21,fz_21]

/-! ### Threads -/
def thDup (p:Prog) (i:Nat) (x:Thread):Bool := p.decls.any (fun d => d.name == x.name) || (p.threads.take i).any (fun y => y.name == x.name)
def threads1 (p:Prog):List Thread → Nat → Int × Int
  | [],_ => (0,0)
  | x :: r,i => if thDup p i x = true then (4,x.line) else threads1 p r (i + 1)
def locBad (p:Prog) (x:Thread) (k:Nat) (s:List Nat):Bool := (x.locals.take k).any (fun y => s == y) || (p.decls.any (fun d => d.name == s) || p.threads.any (fun y => y.name == s))
def locAt (p:Prog) (x:Thread) (k:Nat):Bool := match x.locals[k]? with
  | some s => locBad p x k s
  | none => false
def anyBad (p:Prog) (x:Thread):Bool := (List.range x.locals.length).any (locAt p x)
def threads2 (p:Prog):List Thread → Int × Int
  | [] => (0,0)
  | x :: r => if x.locals.length > 4 then (2,x.line) else if anyBad p x = true then (4,x.line) else threads2 p r
theorem idxOf_lt {α:Type} (q:α → Bool):∀ (l:List α) (k i:Nat) (x:α),l[i]? = some x → q x = true → (decide (idxOf q l k < ((k + i:Nat):Int)) = (l.take i).any q ∧ 0 ≤ idxOf q l k)
  | [],k,i,x,h,_ => by simp at h
  | y :: l,k,0,x,h,hq => by
    simp at h; subst h
    simp [idxOf,hq]
  | y :: l,k,i + 1,x,h,hq => by
    cases hy:q y with
    | true => simp [idxOf,hy]; omega
    | false =>
      have := idxOf_lt q l (k + 1) i x (by simpa using h) hq
      simp only [idxOf,hy,Bool.false_eq_true,if_false,List.take_succ_cons,List.any_cons,Bool.false_or]
      rw [← this.1]
      refine ⟨?_,this.2⟩
      congr 1
      rw [show k + (i + 1) = k + 1 + i by omega]
theorem tailMean_zero (p:Prog) (s:List Nat):decide (tailMean p s = 0) = !(p.decls.any (fun d => d.name == s) || p.threads.any (fun y => y.name == s)) := by
  unfold tailMean
  cases hf:p.decls.find? (fun d => d.name == s) with
  | some d =>
    have h1:p.decls.any (fun d => d.name == s) = true := by
      rw [List.any_eq_true]; exact ⟨d,List.mem_of_find?_eq_some hf,List.find?_some (p := fun d:Decl => d.name == s) hf⟩
    have h2 := declared_range d
    have h3:¬ declared d = 0 := by omega
    simp [h1,h3]
  | none =>
    have h1:p.decls.any (fun d => d.name == s) = false := by
      rw [List.any_eq_false]; intro x hx; exact by simpa using List.find?_eq_none.1 hf x hx
    simp only [h1,Bool.false_or]
    cases p.threads.any (fun y => y.name == s) <;> simp
theorem meaning_neg (p:Prog) (s:List Nat):meaning p (-1) s = tailMean p s := by
  apply meaning_tail
  simp [localAt]
theorem headB_thread (l:List Thread):headB 4 (l.map Thread.v) = true := by
  cases l with
  | nil => rfl
  | cons d l => simp [headB,Thread.v,V.cells]
theorem headB_str (l:List (List Nat)):headB 1 (l.map V.str) = true := by
  cases l with
  | nil => rfl
  | cons d l => simp [headB,V.cells]
theorem slc_thread (f:Bool) (l:List Thread) (i:Nat) (hi:i < l.length):slcv 4 (.sl f (l.map Thread.v)) none (some (i:Int)) = some (.sl false ((l.take i).map Thread.v)) := by
  have h1:(i:Int) ≤ (l.length:Int) := by omega
  have h2:¬ (i:Int) = (l.length:Int) := by omega
  have h3:0 ≤ (i:Int) := by omega
  simp [slcv,headB_thread,h1,h2,h3,List.map_take]
theorem slc_str (f:Bool) (l:List (List Nat)) (i:Nat) (hi:i < l.length):slcv 1 (.sl f (l.map V.str)) none (some (i:Int)) = some (.sl false ((l.take i).map V.str)) := by
  have h1:(i:Int) ≤ (l.length:Int) := by omega
  have h2:¬ (i:Int) = (l.length:Int) := by omega
  have h3:0 ≤ (i:Int) := by omega
  simp [slcv,headB_str,h1,h2,h3,List.map_take]
theorem dropT {l:List Thread} {i:Nat} {x:Thread} (h:l[i]? = some x):l.drop i = x :: l.drop (i + 1) := by
  obtain ⟨hi,rfl⟩ := List.getElem?_eq_some_iff.1 h
  exact List.drop_eq_getElem_cons hi
def QT (E:Int × Int) (d:Nat) (S:Fr → Prop) (h:H) (y:X) (fr:Fr) (k:H):Prop :=
  (y = .ret ∧ E.1 ≠ 0 ∧ Fr.get fr 2 = some (.int .i64 E.1) ∧ Fr.get fr 3 = some (.int .i64 E.2) ∧ Grow h k) ∨ (y = .brk d ∧ E = (0,0) ∧ S fr ∧ Grow h k)
structure A17 (p:Prog) (i1:Nat) (h:H) (i:Nat) (fr:Fr) (k:H):Prop where
  gr:Grow h k
  t1:Fr.get fr 1 = some (.ptr i1 0 0)
  t12:Fr.get fr 12 = some (.sl p.ft (p.threads.map Thread.v))
  t13:Fr.get fr 13 = some (.int .i64 p.threads.length)
  t14:Fr.get fr 14 = some (.int .i64 i)
  sp:threads1 p p.threads 0 = threads1 p (p.threads.drop i) i
theorem roundA17 (m:Nat) (p:Prog) (hm:2 ^ 31 + 30 ≤ m) (hp:p.Small) (i1:Nat) (h:H) (h1:h.get i1 = some (.row [p.v] 2 .rw)) (hl1:i1 < h.nx * 256) (i:Nat) (hi:i < p.threads.length) (fr:Fr) (k:H) (hI:A17 p i1 h i fr k) :
    (∃ fr' k',exec (call fns m) m b17_2 fr k = some (.norm,fr',k') ∧ A17 p i1 h (i + 1) fr' k') ∨ (∃ y fr' k',y ≠ .norm ∧ exec (call fns m) m b17_2 fr k = some (y,fr',k') ∧ QT (threads1 p p.threads 0) 0 (fun fr => Fr.get fr 1 = some (.ptr i1 0 0)) h y fr' k') := by
  obtain ⟨gr,t1,t12,t13,t14,sp⟩ := hI
  obtain ⟨m,rfl⟩:∃ q,m = q + 2 := ⟨m - 2,by omega⟩
  obtain ⟨x,hx⟩:∃ x,p.threads[i]? = some x := ⟨_,List.getElem?_eq_getElem hi⟩
  rw [dropT hx,threads1] at sp
  have hi':(i:Int) < (p.threads.length:Int) := by omega
  have hpt := hp.t
  have hpd := hp.d
  have hwi:wrp .i64 ((i:Int) + 1) = (i:Int) + 1 := wrp_i64 (by omega) (by omega)
  let k0:H := (({ k with nx := k.nx + 1 }:H).set (k.nx * 256 + 3) (.row [.agg [.str [],.int .i64 0,.sl true [],.sl true []]] 4 .rw))
  let k1:H := k0.set (k.nx * 256 + 3) (.row [x.v] 4 .rw)
  have g1:Grow k k1 := (((Grow.refl k).up (k.nx + 1) (by omega)).set (by omega) _).set (by omega) _
  have es:stv k0 4 (.ptr (k.nx * 256 + 3) 0 0) x.v = some k1 := stvT (by simp [k0,H.get_set])
  have b1:k1.get (k.nx * 256 + 3) = some (.row [x.v] 4 .rw) := by simp [k1,H.get_set]
  have l1:k.nx * 256 + 3 < k1.nx * 256 := by show _ < (k.nx + 1) * 256; omega
  have p1 := gget (gr.trans g1) hl1 h1
  have lp1:i1 < k1.nx * 256 := by have := gr.1; have := g1.1; omega
  have kd1 := ldPd p1
  obtain ⟨k2,e31,g2⟩ := ok_31 m p.fd p.decls 35 [.ptr (k.nx * 256 + 3) 0 0] (fun d => d.name == x.name) (by omega) (by omega) k1 (fun d _ q gq => ok_35 m (by omega) d x _ .rw q (by have := gq.1; omega) (gget gq l1 b1))
  have p2 := gget g2 lp1 p1
  have b2 := gget g2 l1 b1
  have kp2 := ldPv p2
  have n2 := ldT0 b2
  have ln2 := ldT1 b2
  obtain ⟨k3,e36,g3⟩ := ok_36 m p x.name (by omega) hpt k2
  have b3 := gget g3 (by have := g2.1; omega) b2
  have ln3 := ldT1 b3
  have hlt := (idxOf_lt (fun t:Thread => t.name == x.name) p.threads 0 i x hx (by simp)).1
  simp only [Nat.zero_add] at hlt
  have ed := ld_55 x
  have el := len_55 x
  simp only [k0] at es
  have G2 := (gr.trans g1).trans g2
  unfold thDup at sp
  cases hb:p.decls.any (fun d => d.name == x.name) with
  | true =>
    rw [hb] at e31
    simp only [hb,Bool.true_or,if_true] at sp
    refine .inr ⟨.ret,?_⟩
    obtain ⟨fr',e,f2,f3⟩:∃ fr',exec (call fns (m + 2)) (m + 2) b17_2 fr k = some (.ret,fr',k2) ∧ Fr.get fr' 2 = some (.int .i64 4) ∧ Fr.get fr' 3 = some (.int .i64 x.line) := by
      simp [b17_2,iadv,stepE,cells_agg,t1,t12,t13,t14,hi',hx,es,ed,el,kd1,e31,ln2]
    exact ⟨fr',k2,by simp,e,.inl ⟨rfl,by rw [sp]; simp,by rw [sp]; exact f2,by rw [sp]; exact f3,G2⟩⟩
  | false =>
    rw [hb] at e31
    simp only [hb,Bool.false_or] at sp
    rw [← hlt] at sp
    by_cases hc:idxOf (fun t:Thread => t.name == x.name) p.threads 0 < (i:Int)
    · rw [if_pos (by simpa using hc)] at sp
      refine .inr ⟨.ret,?_⟩
      obtain ⟨fr',e,f2,f3⟩:∃ fr',exec (call fns (m + 2)) (m + 2) b17_2 fr k = some (.ret,fr',k3) ∧ Fr.get fr' 2 = some (.int .i64 4) ∧ Fr.get fr' 3 = some (.int .i64 x.line) := by
        simp [b17_2,iadv,stepE,cells_agg,t1,t12,t13,t14,hi',hx,es,ed,el,kd1,e31,kp2,n2,e36,ln3,hc]
      exact ⟨fr',k3,by simp,e,.inl ⟨rfl,by rw [sp]; simp,by rw [sp]; exact f2,by rw [sp]; exact f3,G2.trans g3⟩⟩
    · rw [if_neg (by simpa using hc)] at sp
      refine .inl ?_
      obtain ⟨fr',e,f1,f12,f13,f14⟩:∃ fr',exec (call fns (m + 2)) (m + 2) b17_2 fr k = some (.norm,fr',k3) ∧ Fr.get fr' 1 = some (.ptr i1 0 0) ∧ Fr.get fr' 12 = some (.sl p.ft (p.threads.map Thread.v)) ∧ Fr.get fr' 13 = some (.int .i64 p.threads.length) ∧ Fr.get fr' 14 = some (.int .i64 ((i + 1:Nat):Int)) := by
        simp [b17_2,iadv,stepE,cells_agg,t1,t12,t13,t14,hi',hx,es,ed,el,kd1,e31,kp2,n2,e36,hc,hwi]
      exact ⟨fr',k3,e,G2.trans g3,f1,f12,f13,f14,sp⟩
structure A22 (p:Prog) (i1:Nat) (h:H) (i:Nat) (fr:Fr) (k:H):Prop where
  gr:Grow h k
  t1:Fr.get fr 1 = some (.ptr i1 0 0)
  t4:Fr.get fr 4 = some (.int .i64 i)
  sp:threads1 p p.threads 0 = threads1 p (p.threads.drop i) i
theorem roundA22 (m:Nat) (p:Prog) (hm:2 ^ 31 + 30 ≤ m) (hp:p.Small) (i1:Nat) (h:H) (h1:h.get i1 = some (.row [p.v] 2 .rw)) (hl1:i1 < h.nx * 256) (i:Nat) (hi:i < p.threads.length) (fr:Fr) (k:H) (hI:A22 p i1 h i fr k) :
    (∃ fr' k',exec (call fns m) m b22_2 fr k = some (.norm,fr',k') ∧ A22 p i1 h (i + 1) fr' k') ∨ (∃ y fr' k',y ≠ .norm ∧ exec (call fns m) m b22_2 fr k = some (y,fr',k') ∧ QT (threads1 p p.threads 0) 0 (fun fr => Fr.get fr 1 = some (.ptr i1 0 0)) h y fr' k') := by
  obtain ⟨gr,t1,t4,sp⟩ := hI
  obtain ⟨x,hx⟩:∃ x,p.threads[i]? = some x := ⟨_,List.getElem?_eq_getElem hi⟩
  rw [dropT hx,threads1] at sp
  have hi':(i:Int) < (p.threads.length:Int) := by omega
  have hpt := hp.t
  have hpd := hp.d
  have hwi:wrp .i64 ((i:Int) + 1) = (i:Int) + 1 := wrp_i64 (by omega) (by omega)
  have kt := ldPt (gget gr hl1 h1)
  let q1:H := { k with nx := k.nx + 1 }
  have gq:Grow k q1 := (Grow.refl k).up (k.nx + 1) (by omega)
  let k0:H := q1.set (k.nx * 256 + 5) (.row [.agg [.str [],.int .i64 0,.sl true [],.sl true []]] 4 .rw)
  let k1:H := k0.set (k.nx * 256 + 5) (.row [x.v] 4 .rw)
  have g1:Grow k k1 := (gq.set (by omega) _).set (by omega) _
  have es:stv k0 4 (.ptr (k.nx * 256 + 5) 0 0) x.v = some k1 := stvT (by simp [k0,H.get_set])
  have b1:k1.get (k.nx * 256 + 5) = some (.row [x.v] 4 .rw) := by simp [k1,H.get_set]
  have kt0:ldv q1 1 false (.ptr i1 0 1) = some (.sl p.ft (p.threads.map Thread.v)) := ldPt (gget (gr.trans gq) hl1 h1)
  have p1 := gget (gr.trans g1) hl1 h1
  have kd1 := ldPd p1
  have kt1 := ldPt p1
  have n1 := ldT0 b1
  have ln1 := ldT1 b1
  have e43 := ok_43 m p.fd p.decls x.name (by omega) hpd k1
  have g43 := idxOf_ge (fun d:Decl => d.name == x.name) p.decls
  have hle:(p.threads.take i).length ≤ p.threads.length := by rw [List.length_take]; omega
  have e44 := ok_44 m false (p.threads.take i) x.name (by omega) (by omega) k1
  have g44 := idxOf_ge (fun d:Thread => d.name == x.name) (p.threads.take i)
  have sl := slc_thread p.ft p.threads i hi
  rw [List.map_take] at e44 sl
  have ed := ld_55 x
  have el := len_55 x
  simp only [k0,q1] at es kt0
  have G1 := gr.trans g1
  unfold thDup at sp
  cases hb:p.decls.any (fun d => d.name == x.name) with
  | true =>
    rw [hb] at g43
    have g43':0 ≤ idxOf (fun d:Decl => d.name == x.name) p.decls 0 := by simpa using g43
    simp only [hb,Bool.true_or,if_true] at sp
    refine .inr ⟨.ret,?_⟩
    obtain ⟨fr',e,f2,f3⟩:∃ fr',exec (call fns m) m b22_2 fr k = some (.ret,fr',k1) ∧ Fr.get fr' 2 = some (.int .i64 4) ∧ Fr.get fr' 3 = some (.int .i64 x.line) := by
      simp [b22_2,iadv,stepE,cells_agg,oint,t1,t4,hi',hx,es,ed,el,kt,kt0,kd1,kt1,n1,ln1,e43,g43']
    exact ⟨fr',k1,by simp,e,.inl ⟨rfl,by rw [sp]; simp,by rw [sp]; exact f2,by rw [sp]; exact f3,G1⟩⟩
  | false =>
    rw [hb] at g43
    have g43':¬ 0 ≤ idxOf (fun d:Decl => d.name == x.name) p.decls 0 := by simpa using g43
    simp only [hb,Bool.false_or] at sp
    rw [← g44] at sp
    by_cases hc:0 ≤ idxOf (fun d:Thread => d.name == x.name) (p.threads.take i) 0
    · rw [if_pos (by simpa using hc)] at sp
      refine .inr ⟨.ret,?_⟩
      obtain ⟨fr',e,f2,f3⟩:∃ fr',exec (call fns m) m b22_2 fr k = some (.ret,fr',k1) ∧ Fr.get fr' 2 = some (.int .i64 4) ∧ Fr.get fr' 3 = some (.int .i64 x.line) := by
        simp [b22_2,iadv,stepE,cells_agg,oint,t1,t4,hi',hx,es,ed,el,kt,kt0,kd1,kt1,n1,ln1,e43,e44,sl,g43',hc]
      exact ⟨fr',k1,by simp,e,.inl ⟨rfl,by rw [sp]; simp,by rw [sp]; exact f2,by rw [sp]; exact f3,G1⟩⟩
    · rw [if_neg (by simpa using hc)] at sp
      refine .inl ?_
      obtain ⟨fr',e,f1,f4⟩:∃ fr',exec (call fns m) m b22_2 fr k = some (.norm,fr',k1) ∧ Fr.get fr' 1 = some (.ptr i1 0 0) ∧ Fr.get fr' 4 = some (.int .i64 ((i + 1:Nat):Int)) := by
        simp [b22_2,iadv,stepE,cells_agg,oint,t1,t4,hi',hx,es,ed,el,kt,kt0,kd1,kt1,n1,ln1,e43,e44,sl,g43',hc,hwi]
      exact ⟨fr',k1,e,G1,f1,f4,sp⟩
def q17_A0:IC := (rF 9 [bq 0 39 .lss (.t 38) (.t 37)] ma12)
def q17_A1:IC := (.cond (.t 39) .skip (.exit 2))
def q17_10:IC := (rT 10 [oq 0 40 (.iad 4 (.t 36) (.t 38)),lq 1 41 4 true 40,oq 2 8 (.alloc (.agg [.str [],.int .i64 0,.sl true [],.sl true []])),sq 3 4 8 (.t 41)] ma12)
def q17_11:IC := (.seq (rF 11 [fq 0 42 8 2,lq 1 43 1 false 42,zq 2 44 false 43,bq 3 45 .gtr (.t 44) (ic 4)] ma12) (.cond (.t 45) (.seq (rF 12 [fq 0 46 8 1,lq 1 47 1 false 46,oq 2 2 (.mv (ic 2)),mq 3 3 47] ma12) .ret) .skip))
def q17_13:IC := (rF 13 [fq 0 48 8 2,lq 1 49 1 false 48,zq 2 50 false 49,oq 3 51 (.mv (ic 0))] ma12)
def q17_D:IC := (rF 19 [bq 0 71 .add (.t 38) (ic 1),mq 1 38 71] ma12)
theorem shape_17:b17_1 = .seq q17_A0 (.seq q17_A1 (.seq (.block 3 (.seq q17_10 (.seq q17_11 (.seq q17_13 (.block 4 (.loop b17_0)))))) q17_D)) := rfl
def q22_A:IC := (.seq (rF 8 [mq 0 40 6,fq 1 41 1 1,lq 2 42 1 false 41,zq 3 43 false 42,bq 4 44 .lss (.t 40) (.t 43)] ma17) (.cond (.t 44) .skip (.exit 2)))
def q22_10:IC := (rT 10 [fq 0 47 1 1,lq 1 48 1 false 47,mq 2 49 6,oq 3 50 (.iad 4 (.t 48) (.t 49)),lq 4 51 4 true 50,oq 5 7 (.alloc (.agg [.str [],.int .i64 0,.sl true [],.sl true []])),sq 6 4 7 (.t 51)] ma17)
def q22_11:IC := (.seq (rF 11 [fq 0 52 7 2,lq 1 53 1 false 52,zq 2 54 false 53,bq 3 55 .gtr (.t 54) (ic 4)] ma17) (.cond (.t 55) (.seq (rF 12 [fq 0 56 7 1,lq 1 57 1 false 56,oq 2 2 (.mv (ic 2)),mq 3 3 57] ma17) .ret) .skip))
def q22_13:IC := (rF 13 [oq 0 8 (.mv (ic 0))] ma17)
def q22_D:IC := (rF 9 [mq 0 45 6,bq 1 46 .add (.t 45) (ic 1),mq 2 6 46] ma17)
theorem shape_22:b22_1 = .seq q22_A (.seq (.block 3 (.seq q22_10 (.seq q22_11 (.seq q22_13 (.block 4 (.loop b22_0)))))) q22_D) := rfl
structure O17 (p:Prog) (i1 i:Nat) (fr:Fr):Prop where
  t1:Fr.get fr 1 = some (.ptr i1 0 0)
  t36:Fr.get fr 36 = some (.sl p.ft (p.threads.map Thread.v))
  t37:Fr.get fr 37 = some (.int .i64 p.threads.length)
  t38:Fr.get fr 38 = some (.int .i64 i)
structure N17 (p:Prog) (i1 i:Nat) (x:Thread) (id:Nat) (h:H) (j:Nat) (fr:Fr) (k:H):Prop where
  gr:Grow h k
  o:O17 p i1 i fr
  t8:Fr.get fr 8 = some (.ptr id 0 0)
  t49:Fr.get fr 49 = some (.sl x.fl (x.locals.map .str))
  t50:Fr.get fr 50 = some (.int .i64 x.locals.length)
  t51:Fr.get fr 51 = some (.int .i64 j)
theorem inner17 (m:Nat) (p:Prog) (hm:2 ^ 31 + 40 ≤ m) (hp:p.Small) (i1:Nat) (h:H) (h1:h.get i1 = some (.row [p.v] 2 .rw)) (hl1:i1 < h.nx * 256) (i:Nat) (x:Thread) (hxl:x.locals.length ≤ 4) (id:Nat) (hb:h.get id = some (.row [x.v] 4 .rw)) (hid:id < h.nx * 256)
    (j:Nat) (hj:j < x.locals.length) (fr:Fr) (k:H) (hI:N17 p i1 i x id h j fr k) :
    (locAt p x j = true → ∃ fr' k',exec (call fns m) m b17_0 fr k = some (.ret,fr',k') ∧ Grow h k' ∧ Fr.get fr' 2 = some (.int .i64 4) ∧ Fr.get fr' 3 = some (.int .i64 x.line)) ∧
    (locAt p x j = false → ∃ fr' k',exec (call fns m) m b17_0 fr k = some (.norm,fr',k') ∧ N17 p i1 i x id h (j + 1) fr' k') := by
  obtain ⟨gr,⟨t1,t36,t37,t38⟩,t8,t49,t50,t51⟩ := hI
  obtain ⟨s,hs⟩:∃ s,x.locals[j]? = some s := ⟨_,List.getElem?_eq_getElem hj⟩
  have hj':(j:Int) < (x.locals.length:Int) := by omega
  have hpt := hp.t
  have hpd := hp.d
  have hwj:wrp .i64 ((j:Int) + 1) = (j:Int) + 1 := wrp_i64 (by omega) (by omega)
  have pk := gget gr hl1 h1
  have bk := gget gr hid hb
  have kl := ldT2 bk
  have kln := ldT1 bk
  have kp := ldPv pk
  have kd := ldPd pk
  have kt := ldPt pk
  have hle:(x.locals.take j).length ≤ x.locals.length := by rw [List.length_take]; omega
  have sl := slc_str x.fl x.locals j hj
  have lds:∀ h,ldv h 1 false (.vptr [V.str s]) = some (.str s) := fun h => by simp [ldv,V.cells,cut,mk]
  rw [List.map_take] at sl
  have hloc:locAt p x j = locBad p x j s := by simp [locAt,hs]
  rw [hloc]
  unfold locBad
  have e37 := ok_37 m false (x.locals.take j) s (by omega) (by omega) k
  rw [List.map_take] at e37
  obtain ⟨k2,e38,g2⟩ := ok_38 m (by unfold Big; omega) (by omega) p hp (-1) s k
  rw [meaning_neg] at e38
  have hz := tailMean_zero p s
  have bk2 := gget g2 (by have := gr.1; omega) bk
  have kln2 := ldT1 bk2
  cases hc:(x.locals.take j).any (fun y => s == y) with
  | true =>
    rw [hc] at e37
    refine ⟨fun _ => ?_,fun hh => by simp at hh⟩
    simp [b17_0,iadv,oint,cells_str,t1,t36,t37,t38,t8,t49,t50,t51,hj',hs,lds,kl,kln,kp,sl,e37]
    exact ⟨_,_,⟨rfl,rfl⟩,gr,by simp,by simp⟩
  | false =>
    rw [hc] at e37
    by_cases h0:tailMean p s = 0
    · have hz':(p.decls.any (fun d => d.name == s) || p.threads.any (fun y => y.name == s)) = false := by
        simpa [h0] using hz
      rw [hz']
      refine ⟨fun hh => by simp at hh,fun _ => ?_⟩
      rw [h0] at e38
      simp [b17_0,iadv,oint,cells_str,t1,t36,t37,t38,t8,t49,t50,t51,hj',hs,lds,kl,kln,kp,sl,e37,e38,hwj]
      exact ⟨_,_,⟨rfl,rfl⟩,gr.trans g2,⟨by simp [t1],by simp [t36],by simp [t37],by simp [t38]⟩,by simp [t8],by simp [t49],by simp [t50],by simp⟩
    · have hz':(p.decls.any (fun d => d.name == s) || p.threads.any (fun y => y.name == s)) = true := by
        have:decide (tailMean p s = 0) = false := by simp [h0]
        rw [this] at hz
        revert hz
        cases (p.decls.any (fun d => d.name == s) || p.threads.any (fun y => y.name == s)) <;> intro hz <;> first | rfl | exact absurd hz (by decide)
      rw [hz']
      refine ⟨fun _ => ?_,fun hh => by simp at hh⟩
      simp [b17_0,iadv,oint,cells_str,t1,t36,t37,t38,t8,t49,t50,t51,hj',hs,lds,kl,kln,kp,sl,e37,e38,kln2,h0]
      exact ⟨_,_,⟨rfl,rfl⟩,gr.trans g2,by simp,by simp⟩
theorem innerL17 (m:Nat) (p:Prog) (hm:2 ^ 31 + 40 ≤ m) (hp:p.Small) (i1:Nat) (h:H) (h1:h.get i1 = some (.row [p.v] 2 .rw)) (hl1:i1 < h.nx * 256) (i:Nat) (x:Thread) (hxl:x.locals.length ≤ 4) (id:Nat) (hb:h.get id = some (.row [x.v] 4 .rw)) (hid:id < h.nx * 256)
    (fr:Fr) (hI:N17 p i1 i x id h 0 fr h) :
    (anyBad p x = true ∧ ∃ fr' k',exec (call fns m) m (.block 4 (.loop b17_0)) fr h = some (.ret,fr',k') ∧ Grow h k' ∧ Fr.get fr' 2 = some (.int .i64 4) ∧ Fr.get fr' 3 = some (.int .i64 x.line)) ∨
    (anyBad p x = false ∧ ∃ fr' k',exec (call fns m) m (.block 4 (.loop b17_0)) fr h = some (.norm,fr',k') ∧ Grow h k' ∧ O17 p i1 i fr') := by
  have L := loopN_find (b := exec (call fns m) m b17_0) (n := x.locals.length) (inv := N17 p i1 i x id h) (P := locAt p x) (Q := fun _ fr' k' => Grow h k' ∧ Fr.get fr' 2 = some (.int .i64 4) ∧ Fr.get fr' 3 = some (.int .i64 x.line)) (R := fun fr' k' => Grow h k' ∧ O17 p i1 i fr') (d := 4)
    (fun j fr k hj hI hP => (inner17 m p hm hp i1 h h1 hl1 i x hxl id hb hid j hj fr k hI).1 hP)
    (fun j fr k hj hI hP => (inner17 m p hm hp i1 h h1 hl1 i x hxl id hb hid j hj fr k hI).2 hP)
    (fun fr k hI => by
      obtain ⟨gr,⟨t1,t36,t37,t38⟩,t8,t49,t50,t51⟩ := hI
      have kl := ldT2 (gget gr hid hb)
      simp [b17_0,t1,t36,t37,t38,t8,t49,t50,t51,kl]
      exact ⟨_,_,⟨rfl,rfl⟩,gr,⟨by simp [t1],by simp [t36],by simp [t37],by simp [t38]⟩⟩)
    m (by omega) fr h hI
  unfold anyBad
  rcases L with ⟨j,fr',k',hj,hP,_,e,q⟩ | ⟨hall,fr',k',e,q⟩
  · refine .inl ⟨?_,fr',k',exec_bret e,q⟩
    rw [List.any_eq_true]
    exact ⟨j,by simpa using hj,hP⟩
  · refine .inr ⟨?_,fr',k',exec_brk e,q⟩
    rw [List.any_eq_false]
    intro j hj
    rw [hall j (by simpa using hj)]
    simp
structure B17 (p:Prog) (i1:Nat) (h:H) (i:Nat) (fr:Fr) (k:H):Prop where
  gr:Grow h k
  o:O17 p i1 i fr
  sp:threads2 p p.threads = threads2 p (p.threads.drop i)
theorem roundB17 (m:Nat) (p:Prog) (hm:2 ^ 31 + 40 ≤ m) (hp:p.Small) (i1:Nat) (h:H) (h1:h.get i1 = some (.row [p.v] 2 .rw)) (hl1:i1 < h.nx * 256) (i:Nat) (hi:i < p.threads.length) (fr:Fr) (k:H) (hI:B17 p i1 h i fr k) :
    (∃ fr' k',exec (call fns m) m b17_1 fr k = some (.norm,fr',k') ∧ B17 p i1 h (i + 1) fr' k') ∨ (∃ y fr' k',y ≠ .norm ∧ exec (call fns m) m b17_1 fr k = some (y,fr',k') ∧ QT (threads2 p p.threads) 2 (fun _ => True) h y fr' k') := by
  obtain ⟨gr,⟨t1,t36,t37,t38⟩,sp⟩ := hI
  obtain ⟨x,hx⟩:∃ x,p.threads[i]? = some x := ⟨_,List.getElem?_eq_getElem hi⟩
  rw [dropT hx,threads2] at sp
  have hi':(i:Int) < (p.threads.length:Int) := by omega
  have hpt := hp.t
  have hwi:wrp .i64 ((i:Int) + 1) = (i:Int) + 1 := wrp_i64 (by omega) (by omega)
  let k0:H := (({ k with nx := k.nx + 1 }:H).set (k.nx * 256 + 2) (.row [.agg [.str [],.int .i64 0,.sl true [],.sl true []]] 4 .rw))
  let k1:H := k0.set (k.nx * 256 + 2) (.row [x.v] 4 .rw)
  have g1:Grow k k1 := (((Grow.refl k).up (k.nx + 1) (by omega)).set (by omega) _).set (by omega) _
  have es:stv k0 4 (.ptr (k.nx * 256 + 2) 0 0) x.v = some k1 := stvT (by simp [k0,H.get_set])
  have b1:k1.get (k.nx * 256 + 2) = some (.row [x.v] 4 .rw) := by simp [k1,H.get_set]
  have l1:k.nx * 256 + 2 < k1.nx * 256 := by show _ < (k.nx + 1) * 256; omega
  have kl := ldT2 b1
  have kln := ldT1 b1
  have ed := ld_55 x
  have el := len_55 x
  have p1 := gget (gr.trans g1) hl1 h1
  have lp1:i1 < k1.nx * 256 := by have := gr.1; have := g1.1; omega
  simp only [k0] at es
  have G1 := gr.trans g1
  obtain ⟨fr1,e10,f1,f36,f37,f38,fid⟩:∃ fr1,exec (call fns m) m (.seq q17_A0 (.seq q17_A1 q17_10)) fr k = some (.norm,fr1,k1) ∧ Fr.get fr1 1 = some (.ptr i1 0 0) ∧ Fr.get fr1 36 = some (.sl p.ft (p.threads.map Thread.v)) ∧ Fr.get fr1 37 = some (.int .i64 p.threads.length) ∧ Fr.get fr1 38 = some (.int .i64 i) ∧ Fr.get fr1 8 = some (.ptr (k.nx * 256 + 2) 0 0) := by
    simp [q17_A0,q17_A1,q17_10,iadv,stepE,cells_agg,t1,t36,t37,t38,hi',hx,es,ed,el]
  obtain ⟨_,_,eA0,eB⟩ := exec_seq_norm e10
  obtain ⟨_,_,eA1,e10⟩ := exec_seq_norm eB
  have outR:∀ fr' k',exec (call fns m) m (.seq q17_11 (.seq q17_13 (.block 4 (.loop b17_0)))) fr1 k1 = some (.ret,fr',k') → exec (call fns m) m b17_1 fr k = some (.ret,fr',k') := by
    intro fr' k' e
    rw [shape_17,exec_then eA0,exec_then eA1]
    refine exec_out (by simp) (exec_blk rfl ?_)
    rw [exec_then e10]
    exact e
  have outN:∀ fr' k',exec (call fns m) m (.seq q17_11 (.seq q17_13 (.block 4 (.loop b17_0)))) fr1 k1 = some (.norm,fr',k') → exec (call fns m) m b17_1 fr k = exec (call fns m) m q17_D fr' k' := by
    intro fr' k' e
    rw [shape_17,exec_then eA0,exec_then eA1]
    exact exec_then (exec_blk rfl (by rw [exec_then e10]; exact e))
  by_cases h4:x.locals.length > 4
  · rw [if_pos h4] at sp
    have h4':(4:Int) < (x.locals.length:Int) := by omega
    obtain ⟨fr2,e11,q2,q3⟩:∃ fr2,exec (call fns m) m q17_11 fr1 k1 = some (.ret,fr2,k1) ∧ Fr.get fr2 2 = some (.int .i64 2) ∧ Fr.get fr2 3 = some (.int .i64 x.line) := by
      simp [q17_11,fid,kl,kln,h4']
    exact .inr ⟨.ret,fr2,k1,by simp,outR _ _ (exec_out (by simp) e11),.inl ⟨rfl,by rw [sp]; simp,by rw [sp]; exact q2,by rw [sp]; exact q3,G1⟩⟩
  · rw [if_neg h4] at sp
    have h4':¬ (4:Int) < (x.locals.length:Int) := by omega
    obtain ⟨fr2,e11,N⟩:∃ fr2,exec (call fns m) m (.seq q17_11 q17_13) fr1 k1 = some (.norm,fr2,k1) ∧ N17 p i1 i x (k.nx * 256 + 2) k1 0 fr2 k1 := by
      simp [q17_11,q17_13,f1,f36,f37,f38,fid,kl,kln,h4']
      exact ⟨Grow.refl _,⟨by simp [f1],by simp [f36],by simp [f37],by simp [f38]⟩,by simp [fid],by simp,by simp,by simp⟩
    obtain ⟨_,_,e11,e13⟩ := exec_seq_norm e11
    rcases innerL17 m p hm hp i1 k1 p1 lp1 i x (by omega) _ b1 l1 fr2 N with ⟨hb,fr3,k3,e,g3,q2,q3⟩ | ⟨hb,fr3,k3,e,g3,⟨t1,t36,t37,t38⟩⟩
    · rw [if_pos hb] at sp
      exact .inr ⟨.ret,fr3,k3,by simp,outR _ _ (by rw [exec_then e11,exec_then e13]; exact e),.inl ⟨rfl,by rw [sp]; simp,by rw [sp]; exact q2,by rw [sp]; exact q3,G1.trans g3⟩⟩
    · rw [if_neg (by rw [hb]; simp)] at sp
      obtain ⟨fr4,eD,O4⟩:∃ fr4,exec (call fns m) m q17_D fr3 k3 = some (.norm,fr4,k3) ∧ O17 p i1 (i + 1) fr4 := by
        simp [q17_D,t1,t36,t37,t38,hwi]
        exact ⟨by simp [t1],by simp [t36],by simp [t37],by simp⟩
      exact .inl ⟨fr4,k3,by rw [outN _ _ (by rw [exec_then e11,exec_then e13]; exact e)]; exact eD,G1.trans g3,O4,sp⟩
structure O22 (p:Prog) (i1 i:Nat) (fr:Fr):Prop where
  t1:Fr.get fr 1 = some (.ptr i1 0 0)
  t6:Fr.get fr 6 = some (.int .i64 i)
structure N22 (p:Prog) (i1 i:Nat) (x:Thread) (id:Nat) (h:H) (j:Nat) (fr:Fr) (k:H):Prop where
  gr:Grow h k
  o:O22 p i1 i fr
  t7:Fr.get fr 7 = some (.ptr id 0 0)
  t8:Fr.get fr 8 = some (.int .i64 j)
theorem inner22 (m:Nat) (p:Prog) (hm:2 ^ 31 + 40 ≤ m) (hp:p.Small) (i1:Nat) (h:H) (h1:h.get i1 = some (.row [p.v] 2 .rw)) (hl1:i1 < h.nx * 256) (i:Nat) (x:Thread) (hxl:x.locals.length ≤ 4) (id:Nat) (hb:h.get id = some (.row [x.v] 4 .rw)) (hid:id < h.nx * 256)
    (j:Nat) (hj:j < x.locals.length) (fr:Fr) (k:H) (hI:N22 p i1 i x id h j fr k) :
    (locAt p x j = true → ∃ fr' k',exec (call fns m) m b22_0 fr k = some (.ret,fr',k') ∧ Grow h k' ∧ Fr.get fr' 2 = some (.int .i64 4) ∧ Fr.get fr' 3 = some (.int .i64 x.line)) ∧
    (locAt p x j = false → ∃ fr' k',exec (call fns m) m b22_0 fr k = some (.norm,fr',k') ∧ N22 p i1 i x id h (j + 1) fr' k') := by
  obtain ⟨gr,⟨t1,t6⟩,t7,t8⟩ := hI
  obtain ⟨s,hs⟩:∃ s,x.locals[j]? = some s := ⟨_,List.getElem?_eq_getElem hj⟩
  have hj':(j:Int) < (x.locals.length:Int) := by omega
  have hpt := hp.t
  have hpd := hp.d
  have hwj:wrp .i64 ((j:Int) + 1) = (j:Int) + 1 := wrp_i64 (by omega) (by omega)
  have pk := gget gr hl1 h1
  have bk := gget gr hid hb
  have kl := ldT2 bk
  have kln := ldT1 bk
  have kp := ldPv pk
  have kd := ldPd pk
  have kt := ldPt pk
  have hle:(x.locals.take j).length ≤ x.locals.length := by rw [List.length_take]; omega
  have sl := slc_str x.fl x.locals j hj
  have lds:∀ h,ldv h 1 false (.vptr [V.str s]) = some (.str s) := fun h => by simp [ldv,V.cells,cut,mk]
  rw [List.map_take] at sl
  have hloc:locAt p x j = locBad p x j s := by simp [locAt,hs]
  rw [hloc]
  unfold locBad
  have e43 := ok_43 m p.fd p.decls s (by omega) hpd k
  have g43 := idxOf_ge (fun d:Decl => d.name == s) p.decls
  have e44 := ok_44 m p.ft p.threads s (by omega) hpt k
  have g44 := idxOf_ge (fun d:Thread => d.name == s) p.threads
  have e45 := ok_45 m false (x.locals.take j) s (by omega) (by omega) k
  have g45 := idxOf_ge (fun y:List Nat => y == s) (x.locals.take j)
  rw [List.map_take] at e45
  rw [any_swap] at g45
  rw [← g43,← g44,← g45]
  by_cases c1:0 ≤ idxOf (fun d:Decl => d.name == s) p.decls 0
  · refine ⟨fun _ => ?_,fun hh => by simp [c1] at hh⟩
    simp [b22_0,iadv,oint,cells_str,t1,t6,t7,t8,hj',hs,lds,kl,kln,kd,kt,sl,e43,c1]
    exact ⟨_,_,⟨rfl,rfl⟩,gr,by simp,by simp⟩
  · by_cases c2:0 ≤ idxOf (fun d:Thread => d.name == s) p.threads 0
    · refine ⟨fun _ => ?_,fun hh => by simp [c2] at hh⟩
      simp [b22_0,iadv,oint,cells_str,t1,t6,t7,t8,hj',hs,lds,kl,kln,kd,kt,sl,e43,e44,c1,c2]
      exact ⟨_,_,⟨rfl,rfl⟩,gr,by simp,by simp⟩
    · by_cases c3:0 ≤ idxOf (fun y:List Nat => y == s) (x.locals.take j) 0
      · refine ⟨fun _ => ?_,fun hh => by simp [c3] at hh⟩
        simp [b22_0,iadv,oint,cells_str,t1,t6,t7,t8,hj',hs,lds,kl,kln,kd,kt,sl,e43,e44,e45,c1,c2,c3]
        exact ⟨_,_,⟨rfl,rfl⟩,gr,by simp,by simp⟩
      · refine ⟨fun hh => by simp [c1,c2,c3] at hh,fun _ => ?_⟩
        simp [b22_0,iadv,oint,cells_str,t1,t6,t7,t8,hj',hs,lds,kl,kln,kd,kt,sl,e43,e44,e45,c1,c2,c3,hwj]
        exact ⟨_,_,⟨rfl,rfl⟩,gr,⟨by simp [t1],by simp [t6]⟩,by simp [t7],by simp⟩
theorem innerL22 (m:Nat) (p:Prog) (hm:2 ^ 31 + 40 ≤ m) (hp:p.Small) (i1:Nat) (h:H) (h1:h.get i1 = some (.row [p.v] 2 .rw)) (hl1:i1 < h.nx * 256) (i:Nat) (x:Thread) (hxl:x.locals.length ≤ 4) (id:Nat) (hb:h.get id = some (.row [x.v] 4 .rw)) (hid:id < h.nx * 256)
    (fr:Fr) (hI:N22 p i1 i x id h 0 fr h) :
    (anyBad p x = true ∧ ∃ fr' k',exec (call fns m) m (.block 4 (.loop b22_0)) fr h = some (.ret,fr',k') ∧ Grow h k' ∧ Fr.get fr' 2 = some (.int .i64 4) ∧ Fr.get fr' 3 = some (.int .i64 x.line)) ∨
    (anyBad p x = false ∧ ∃ fr' k',exec (call fns m) m (.block 4 (.loop b22_0)) fr h = some (.norm,fr',k') ∧ Grow h k' ∧ O22 p i1 i fr') := by
  have L := loopN_find (b := exec (call fns m) m b22_0) (n := x.locals.length) (inv := N22 p i1 i x id h) (P := locAt p x) (Q := fun _ fr' k' => Grow h k' ∧ Fr.get fr' 2 = some (.int .i64 4) ∧ Fr.get fr' 3 = some (.int .i64 x.line)) (R := fun fr' k' => Grow h k' ∧ O22 p i1 i fr') (d := 4)
    (fun j fr k hj hI hP => (inner22 m p hm hp i1 h h1 hl1 i x hxl id hb hid j hj fr k hI).1 hP)
    (fun j fr k hj hI hP => (inner22 m p hm hp i1 h h1 hl1 i x hxl id hb hid j hj fr k hI).2 hP)
    (fun fr k hI => by
      obtain ⟨gr,⟨t1,t6⟩,t7,t8⟩ := hI
      have kl := ldT2 (gget gr hid hb)
      simp [b22_0,t1,t6,t7,t8,kl]
      exact ⟨_,_,⟨rfl,rfl⟩,gr,⟨by simp [t1],by simp [t6]⟩⟩)
    m (by omega) fr h hI
  unfold anyBad
  rcases L with ⟨j,fr',k',hj,hP,_,e,q⟩ | ⟨hall,fr',k',e,q⟩
  · refine .inl ⟨?_,fr',k',exec_bret e,q⟩
    rw [List.any_eq_true]
    exact ⟨j,by simpa using hj,hP⟩
  · refine .inr ⟨?_,fr',k',exec_brk e,q⟩
    rw [List.any_eq_false]
    intro j hj
    rw [hall j (by simpa using hj)]
    simp
structure B22 (p:Prog) (i1:Nat) (h:H) (i:Nat) (fr:Fr) (k:H):Prop where
  gr:Grow h k
  o:O22 p i1 i fr
  sp:threads2 p p.threads = threads2 p (p.threads.drop i)
theorem roundB22 (m:Nat) (p:Prog) (hm:2 ^ 31 + 40 ≤ m) (hp:p.Small) (i1:Nat) (h:H) (h1:h.get i1 = some (.row [p.v] 2 .rw)) (hl1:i1 < h.nx * 256) (i:Nat) (hi:i < p.threads.length) (fr:Fr) (k:H) (hI:B22 p i1 h i fr k) :
    (∃ fr' k',exec (call fns m) m b22_1 fr k = some (.norm,fr',k') ∧ B22 p i1 h (i + 1) fr' k') ∨ (∃ y fr' k',y ≠ .norm ∧ exec (call fns m) m b22_1 fr k = some (y,fr',k') ∧ QT (threads2 p p.threads) 2 (fun _ => True) h y fr' k') := by
  obtain ⟨gr,⟨t1,t6⟩,sp⟩ := hI
  obtain ⟨x,hx⟩:∃ x,p.threads[i]? = some x := ⟨_,List.getElem?_eq_getElem hi⟩
  rw [dropT hx,threads2] at sp
  have hi':(i:Int) < (p.threads.length:Int) := by omega
  have hpt := hp.t
  have hwi:wrp .i64 ((i:Int) + 1) = (i:Int) + 1 := wrp_i64 (by omega) (by omega)
  have kt := ldPt (gget gr hl1 h1)
  let q1:H := { k with nx := k.nx + 1 }
  have gq:Grow k q1 := (Grow.refl k).up (k.nx + 1) (by omega)
  let k0:H := q1.set (k.nx * 256 + 5) (.row [.agg [.str [],.int .i64 0,.sl true [],.sl true []]] 4 .rw)
  let k1:H := k0.set (k.nx * 256 + 5) (.row [x.v] 4 .rw)
  have g1:Grow k k1 := (gq.set (by omega) _).set (by omega) _
  have kt0:ldv q1 1 false (.ptr i1 0 1) = some (.sl p.ft (p.threads.map Thread.v)) := ldPt (gget (gr.trans gq) hl1 h1)
  have es:stv k0 4 (.ptr (k.nx * 256 + 5) 0 0) x.v = some k1 := stvT (by simp [k0,H.get_set])
  have b1:k1.get (k.nx * 256 + 5) = some (.row [x.v] 4 .rw) := by simp [k1,H.get_set]
  have l1:k.nx * 256 + 5 < k1.nx * 256 := by show _ < (k.nx + 1) * 256; omega
  have kl := ldT2 b1
  have kln := ldT1 b1
  have ed := ld_55 x
  have el := len_55 x
  have p1 := gget (gr.trans g1) hl1 h1
  have lp1:i1 < k1.nx * 256 := by have := gr.1; have := g1.1; omega
  simp only [k0,q1] at es kt0
  have G1 := gr.trans g1
  obtain ⟨fr1,e10,f1,f6,fid⟩:∃ fr1,exec (call fns m) m (.seq q22_A q22_10) fr k = some (.norm,fr1,k1) ∧ Fr.get fr1 1 = some (.ptr i1 0 0) ∧ Fr.get fr1 6 = some (.int .i64 i) ∧ Fr.get fr1 7 = some (.ptr (k.nx * 256 + 5) 0 0) := by
    simp [q22_A,q22_10,iadv,stepE,cells_agg,t1,t6,hi',hx,es,ed,el,kt,kt0]
  obtain ⟨_,_,eA,e10⟩ := exec_seq_norm e10
  have outR:∀ fr' k',exec (call fns m) m (.seq q22_11 (.seq q22_13 (.block 4 (.loop b22_0)))) fr1 k1 = some (.ret,fr',k') → exec (call fns m) m b22_1 fr k = some (.ret,fr',k') := by
    intro fr' k' e
    rw [shape_22,exec_then eA]
    refine exec_out (by simp) (exec_blk rfl ?_)
    rw [exec_then e10]
    exact e
  have outN:∀ fr' k',exec (call fns m) m (.seq q22_11 (.seq q22_13 (.block 4 (.loop b22_0)))) fr1 k1 = some (.norm,fr',k') → exec (call fns m) m b22_1 fr k = exec (call fns m) m q22_D fr' k' := by
    intro fr' k' e
    rw [shape_22,exec_then eA]
    exact exec_then (exec_blk rfl (by rw [exec_then e10]; exact e))
  by_cases h4:x.locals.length > 4
  · rw [if_pos h4] at sp
    have h4':(4:Int) < (x.locals.length:Int) := by omega
    obtain ⟨fr2,e11,q2,q3⟩:∃ fr2,exec (call fns m) m q22_11 fr1 k1 = some (.ret,fr2,k1) ∧ Fr.get fr2 2 = some (.int .i64 2) ∧ Fr.get fr2 3 = some (.int .i64 x.line) := by
      simp [q22_11,fid,kl,kln,h4']
    exact .inr ⟨.ret,fr2,k1,by simp,outR _ _ (exec_out (by simp) e11),.inl ⟨rfl,by rw [sp]; simp,by rw [sp]; exact q2,by rw [sp]; exact q3,G1⟩⟩
  · rw [if_neg h4] at sp
    have h4':¬ (4:Int) < (x.locals.length:Int) := by omega
    obtain ⟨fr2,e11,N⟩:∃ fr2,exec (call fns m) m (.seq q22_11 q22_13) fr1 k1 = some (.norm,fr2,k1) ∧ N22 p i1 i x (k.nx * 256 + 5) k1 0 fr2 k1 := by
      simp [q22_11,q22_13,f1,f6,fid,kl,kln,h4']
      exact ⟨Grow.refl _,⟨by simp [f1],by simp [f6]⟩,by simp [fid],by simp⟩
    obtain ⟨_,_,e11,e13⟩ := exec_seq_norm e11
    rcases innerL22 m p hm hp i1 k1 p1 lp1 i x (by omega) _ b1 l1 fr2 N with ⟨hb,fr3,k3,e,g3,q2,q3⟩ | ⟨hb,fr3,k3,e,g3,⟨t1,t6⟩⟩
    · rw [if_pos hb] at sp
      exact .inr ⟨.ret,fr3,k3,by simp,outR _ _ (by rw [exec_then e11,exec_then e13]; exact e),.inl ⟨rfl,by rw [sp]; simp,by rw [sp]; exact q2,by rw [sp]; exact q3,G1.trans g3⟩⟩
    · rw [if_neg (by rw [hb]; simp)] at sp
      obtain ⟨fr4,eD,O4⟩:∃ fr4,exec (call fns m) m q22_D fr3 k3 = some (.norm,fr4,k3) ∧ O22 p i1 (i + 1) fr4 := by
        simp [q22_D,t1,t6,hwi]
        exact ⟨by simp [t1],by simp⟩
      exact .inl ⟨fr4,k3,by rw [outN _ _ (by rw [exec_then e11,exec_then e13]; exact e)]; exact eD,G1.trans g3,O4,sp⟩

def threadsE (p:Prog):Int × Int := if (threads1 p p.threads 0).1 = 0 then threads2 p p.threads else threads1 p p.threads 0
theorem QT.split {E:Int × Int} {d:Nat} {S:Fr → Prop} {h:H} {y:X} {fr:Fr} {k:H} (q:QT E d S h y fr k):(y = .ret ∧ E.1 ≠ 0 ∧ Fr.get fr 2 = some (.int .i64 E.1) ∧ Fr.get fr 3 = some (.int .i64 E.2) ∧ Grow h k) ∨ (y = .brk d ∧ E = (0,0) ∧ S fr ∧ Grow h k) := q
theorem ok_17 (n:Nat) (p:Prog) (hn:2 ^ 31 + 60 ≤ n) (hp:p.Small) (h:H) :
    ∃ h',call fns n 17 [p.v] h = some (.tup [.int .i64 (threadsE p).1,.int .i64 (threadsE p).2],h') ∧ Grow h h' := by
  obtain ⟨m,rfl⟩:∃ m,n = m + 1 := ⟨n - 1,by omega⟩
  have hpt := hp.t
  let h1:H := ({ h with nx := h.nx + 1 }:H).set (h.nx * 256) (.row [p.v] 2 .rw)
  have g1:Grow h h1 := ((Grow.refl h).up (h.nx + 1) (by omega)).set (Nat.le_refl _) _
  have hb1:h1.get (h.nx * 256) = some (.row [p.v] 2 .rw) := by simp [h1,H.get_set]
  have hl1:h.nx * 256 < h1.nx * 256 := by show _ < (h.nx + 1) * 256; omega
  have kt := ldPt hb1
  have hc2:p.v.cells.length = 2 := rfl
  obtain ⟨fr3,e3,A3⟩:∃ fr3,exec (call fns m) m (.seq s17_0 p17_1) (enter 0 [p.v]) h = some (.norm,fr3,h1) ∧ A17 p (h.nx * 256) h1 0 fr3 h1 := by
    simp only [h1] at kt ⊢
    simp [s17_0,p17_1,Fr.keep_cons',Fr.keep_nil,stepE,hc2,kt]
    exact ⟨Grow.refl _,by simp,by simp,by simp,by simp,by simp⟩
  obtain ⟨_,_,e31,e32⟩ := exec_seq_norm e3
  have L1 := loopN_ind (b := exec (call fns m) m b17_2) (n := p.threads.length) (I := A17 p (h.nx * 256) h1) (Q := QT (threads1 p p.threads 0) 0 (fun fr => Fr.get fr 1 = some (.ptr (h.nx * 256) 0 0)) h1)
    (fun i fr k hi hI => roundA17 m p (by omega) hp _ h1 hb1 hl1 i hi fr k hI)
    (fun fr k hI => by
      obtain ⟨gr,t1,t12,t13,t14,sp⟩ := hI
      rw [List.drop_length,threads1] at sp
      have kt' := ldPt (gget gr hl1 hb1)
      obtain ⟨fr',e,f1⟩:∃ fr',exec (call fns m) m b17_2 fr k = some (.brk 0,fr',k) ∧ Fr.get fr' 1 = some (.ptr (h.nx * 256) 0 0) := by
        simp [b17_2,t1,t12,t13,t14,kt']
      exact ⟨.brk 0,fr',k,by simp,e,.inr ⟨rfl,sp,f1,gr⟩⟩)
    p.threads.length 0 (by omega) (by omega) m (by omega)
  obtain ⟨y,fr4,h4,e4,q⟩ := L1 fr3 h1 A3
  rcases q.split with ⟨rfl,q0,q1,q2,g⟩ | ⟨rfl,q0,f1,g⟩
  · have hE:threadsE p = threads1 p p.threads 0 := by unfold threadsE; rw [if_neg q0]
    refine ⟨h4,?_,g1.trans g⟩
    rw [call_succ]
    show call1 (call fns m) m f17 _ _ = _
    have q:exec (call fns m) m f17.body (enter 0 [p.v]) h = some (.ret,fr4,h4) := by
      rw [body_17,seg_17_1,exec_then e31,exec_assoc,exec_then e32]
      exact exec_out (by simp) (exec_bret e4)
    unfold call1
    rw [q,hE]
    simp [res_17,fz_17,q1,q2]
  · have hE:threadsE p = threads2 p p.threads := by unfold threadsE; rw [if_pos (by rw [q0])]
    have hb4 := gget g hl1 hb1
    have hl4:h.nx * 256 < h4.nx * 256 := by have := g.1; omega
    have kt4 := ldPt hb4
    obtain ⟨fr5,e5,O5⟩:∃ fr5,exec (call fns m) m p17_2 fr4 h4 = some (.norm,fr5,h4) ∧ O17 p (h.nx * 256) 0 fr5 := by
      simp [p17_2,f1,kt4]
      exact ⟨by simp [f1],by simp,by simp,by simp⟩
    have L2 := loopN_ind (b := exec (call fns m) m b17_1) (n := p.threads.length) (I := B17 p (h.nx * 256) h4) (Q := QT (threads2 p p.threads) 2 (fun _ => True) h4)
      (fun i fr k hi hI => roundB17 m p (by omega) hp _ h4 hb4 hl4 i hi fr k hI)
      (fun fr k hI => by
        obtain ⟨gr,⟨t1,t36,t37,t38⟩,sp⟩ := hI
        rw [List.drop_length,threads2] at sp
        have kt' := ldPt (gget gr hl4 hb4)
        obtain ⟨fr',e⟩:∃ fr',exec (call fns m) m b17_1 fr k = some (.brk 2,fr',k) := by
          simp [b17_1,t1,t36,t37,t38,kt']
        exact ⟨.brk 2,fr',k,by simp,e,.inr ⟨rfl,sp,trivial,gr⟩⟩)
      p.threads.length 0 (by omega) (by omega) m (by omega)
    obtain ⟨y,fr6,h6,e6,q'⟩ := L2 fr5 h4 ⟨Grow.refl _,O5,by simp⟩
    have q3:∀ fr' k',exec (call fns m) m (.block 2 (.loop b17_1)) fr5 h4 = some (.ret,fr',k') → exec (call fns m) m f17.body (enter 0 [p.v]) h = some (.ret,fr',k') := by
      intro fr' k' e
      rw [body_17,seg_17_1,exec_then e31,exec_assoc,exec_then e32,exec_then (exec_brk e4),seg_17_2,exec_assoc,exec_then e5]
      exact exec_out (by simp) e
    have q4:∀ fr' k',exec (call fns m) m (.block 2 (.loop b17_1)) fr5 h4 = some (.norm,fr',k') → exec (call fns m) m f17.body (enter 0 [p.v]) h = exec (call fns m) m (.seq s17_3 s17_4) fr' k' := by
      intro fr' k' e
      rw [body_17,seg_17_1,exec_then e31,exec_assoc,exec_then e32,exec_then (exec_brk e4),seg_17_2,exec_assoc,exec_then e5,exec_then e]
    rcases q'.split with ⟨rfl,_,q1,q2,g'⟩ | ⟨rfl,q1,_,g'⟩
    · refine ⟨h6,?_,(g1.trans g).trans g'⟩
      rw [call_succ]
      show call1 (call fns m) m f17 _ _ = _
      unfold call1
      rw [q3 _ _ (exec_bret e6),hE]
      simp [res_17,fz_17,q1,q2]
    · refine ⟨h6,?_,(g1.trans g).trans g'⟩
      rw [call_succ]
      show call1 (call fns m) m f17 _ _ = _
      unfold call1
      rw [q4 _ _ (exec_brk e6),hE]
      simp [s17_3,s17_4,iadv,ldv,cut,mk,V.cells,q1,res_17,fz_17]
theorem ok_22 (n:Nat) (p:Prog) (hn:2 ^ 31 + 60 ≤ n) (hp:p.Small) (h:H) :
    ∃ h',call fns n 22 [p.v] h = some (.tup [.int .i64 (threadsE p).1,.int .i64 (threadsE p).2],h') ∧ Grow h h' := by
  obtain ⟨m,rfl⟩:∃ m,n = m + 1 := ⟨n - 1,by omega⟩
  have hpt := hp.t
  let h1:H := ({ h with nx := h.nx + 1 }:H).set (h.nx * 256) (.row [p.v] 2 .rw)
  have g1:Grow h h1 := ((Grow.refl h).up (h.nx + 1) (by omega)).set (Nat.le_refl _) _
  have hb1:h1.get (h.nx * 256) = some (.row [p.v] 2 .rw) := by simp [h1,H.get_set]
  have hl1:h.nx * 256 < h1.nx * 256 := by show _ < (h.nx + 1) * 256; omega
  have kt := ldPt hb1
  have hc2:p.v.cells.length = 2 := rfl
  obtain ⟨fr3,e3,A3⟩:∃ fr3,exec (call fns m) m (.seq s22_0 p22_1) (enter 0 [p.v]) h = some (.norm,fr3,h1) ∧ A22 p (h.nx * 256) h1 0 fr3 h1 := by
    simp only [h1] at kt ⊢
    simp [s22_0,p22_1,Fr.keep_cons',Fr.keep_nil,stepE,hc2,kt]
    exact ⟨Grow.refl _,by simp,by simp,by simp⟩
  obtain ⟨_,_,e31,e32⟩ := exec_seq_norm e3
  have L1 := loopN_ind (b := exec (call fns m) m b22_2) (n := p.threads.length) (I := A22 p (h.nx * 256) h1) (Q := QT (threads1 p p.threads 0) 0 (fun fr => Fr.get fr 1 = some (.ptr (h.nx * 256) 0 0)) h1)
    (fun i fr k hi hI => roundA22 m p (by omega) hp _ h1 hb1 hl1 i hi fr k hI)
    (fun fr k hI => by
      obtain ⟨gr,t1,t4,sp⟩ := hI
      rw [List.drop_length,threads1] at sp
      have kt' := ldPt (gget gr hl1 hb1)
      obtain ⟨fr',e,f1⟩:∃ fr',exec (call fns m) m b22_2 fr k = some (.brk 0,fr',k) ∧ Fr.get fr' 1 = some (.ptr (h.nx * 256) 0 0) := by
        simp [b22_2,t1,t4,kt']
      exact ⟨.brk 0,fr',k,by simp,e,.inr ⟨rfl,sp,f1,gr⟩⟩)
    p.threads.length 0 (by omega) (by omega) m (by omega)
  obtain ⟨y,fr4,h4,e4,q⟩ := L1 fr3 h1 A3
  rcases q.split with ⟨rfl,q0,q1,q2,g⟩ | ⟨rfl,q0,f1,g⟩
  · have hE:threadsE p = threads1 p p.threads 0 := by unfold threadsE; rw [if_neg q0]
    refine ⟨h4,?_,g1.trans g⟩
    rw [call_succ]
    show call1 (call fns m) m f22 _ _ = _
    have q:exec (call fns m) m f22.body (enter 0 [p.v]) h = some (.ret,fr4,h4) := by
      rw [body_22,seg_22_1,exec_then e31,exec_assoc,exec_then e32]
      exact exec_out (by simp) (exec_bret e4)
    unfold call1
    rw [q,hE]
    simp [res_22,fz_22,q1,q2]
  · have hE:threadsE p = threads2 p p.threads := by unfold threadsE; rw [if_pos (by rw [q0])]
    have hb4 := gget g hl1 hb1
    have hl4:h.nx * 256 < h4.nx * 256 := by have := g.1; omega
    have kt4 := ldPt hb4
    obtain ⟨fr5,e5,O5⟩:∃ fr5,exec (call fns m) m p22_2 fr4 h4 = some (.norm,fr5,h4) ∧ O22 p (h.nx * 256) 0 fr5 := by
      simp [p22_2,f1,kt4]
      exact ⟨by simp [f1],by simp⟩
    have L2 := loopN_ind (b := exec (call fns m) m b22_1) (n := p.threads.length) (I := B22 p (h.nx * 256) h4) (Q := QT (threads2 p p.threads) 2 (fun _ => True) h4)
      (fun i fr k hi hI => roundB22 m p (by omega) hp _ h4 hb4 hl4 i hi fr k hI)
      (fun fr k hI => by
        obtain ⟨gr,⟨t1,t6⟩,sp⟩ := hI
        rw [List.drop_length,threads2] at sp
        have kt' := ldPt (gget gr hl4 hb4)
        obtain ⟨fr',e⟩:∃ fr',exec (call fns m) m b22_1 fr k = some (.brk 2,fr',k) := by
          simp [b22_1,t1,t6,kt']
        exact ⟨.brk 2,fr',k,by simp,e,.inr ⟨rfl,sp,trivial,gr⟩⟩)
      p.threads.length 0 (by omega) (by omega) m (by omega)
    obtain ⟨y,fr6,h6,e6,q'⟩ := L2 fr5 h4 ⟨Grow.refl _,O5,by simp⟩
    have q3:∀ fr' k',exec (call fns m) m (.block 2 (.loop b22_1)) fr5 h4 = some (.ret,fr',k') → exec (call fns m) m f22.body (enter 0 [p.v]) h = some (.ret,fr',k') := by
      intro fr' k' e
      rw [body_22,seg_22_1,exec_then e31,exec_assoc,exec_then e32,exec_then (exec_brk e4),seg_22_2,exec_assoc,exec_then e5]
      exact exec_out (by simp) e
    have q4:∀ fr' k',exec (call fns m) m (.block 2 (.loop b22_1)) fr5 h4 = some (.norm,fr',k') → exec (call fns m) m f22.body (enter 0 [p.v]) h = exec (call fns m) m (.seq s22_3 s22_4) fr' k' := by
      intro fr' k' e
      rw [body_22,seg_22_1,exec_then e31,exec_assoc,exec_then e32,exec_then (exec_brk e4),seg_22_2,exec_assoc,exec_then e5,exec_then e]
    rcases q'.split with ⟨rfl,_,q1,q2,g'⟩ | ⟨rfl,q1,_,g'⟩
    · refine ⟨h6,?_,(g1.trans g).trans g'⟩
      rw [call_succ]
      show call1 (call fns m) m f22 _ _ = _
      unfold call1
      rw [q3 _ _ (exec_bret e6),hE]
      simp [res_22,fz_22,q1,q2]
    · refine ⟨h6,?_,(g1.trans g).trans g'⟩
      rw [call_succ]
      show call1 (call fns m) m f22 _ _ = _
      unfold call1
      rw [q4 _ _ (exec_brk e6),hE]
      simp [s22_3,s22_4,iadv,ldv,cut,mk,V.cells,q1,res_22,fz_22]

/-! ### Shapes -/
structure NameOk (s:List Nat):Prop where
  nm:isName s = true
  asc:Ascii s
  short:s.length < 1000
theorem E29 (m:Nat) (hm:2 ^ 31 ≤ m) (s:List Nat) (hs:NameOk s) (h:H):∃ h',call fns m 29 [.str s] h = some (.bool true,h') ∧ Grow h h' := by
  have := ok_29 m s (by have := hs.short; omega) hs.asc (by have := hs.short; omega) h
  rw [hs.nm] at this; exact this
theorem E41 (m:Nat) (hm:2 ^ 31 ≤ m) (s:List Nat) (hs:NameOk s) (h:H):call fns m 41 [.str s] h = some (.bool true,h) := by
  have := ok_41 m s (by have := hs.short; omega) (by have := hs.short; omega) h
  rw [hs.nm] at this; exact this
theorem E50 (m:Nat) (hm:2 ^ 31 ≤ m) (s:List Nat) (hs:NameOk s) (h:H):∃ h',call fns m 50 [.str s,.bool true] h = some (.bool true,h') ∧ Grow h h' := by
  have := ok_50_yes m s (by have := hs.short; omega) hs.asc (by have := hs.short; omega) h
  rw [hs.nm] at this; exact this
theorem E75 (m:Nat) (hm:4294967400 ≤ m) (e:Expr) (he:e.Fine) (h:H):∃ h',call fns m 75 [e.v] h = some (.bool true,h') ∧ Grow h h' := by
  have hdn := Expr.depth_le_nodes e.depth e (Nat.le_refl _)
  exact ok_75' e.depth e (Nat.le_refl _) he.1 m (by have := he.2; omega) he.2 h
theorem E88 (m:Nat) (hm:4294967400 ≤ m) (e:Expr) (he:e.Fine) (h:H):∃ h',call fns m 88 [e.v] h = some (.bool true,h') ∧ Grow h h' := by
  have hdn := Expr.depth_le_nodes e.depth e (Nat.le_refl _)
  exact ok_88' e.depth e (Nat.le_refl _) he.1 m (by have := he.2; omega) he.2 h
structure Expr.Zero (e:Expr):Prop where
  op:e.op = 0
  num:e.num = 0
  nm:e.nm = []
  l:e.l = []
theorem ok_76 (n:Nat) (hn:1 ≤ n) (e:Expr) (he:e.Zero) (h:H):∃ h',call fns n 76 [e.v] h = some (.bool true,h') ∧ Grow h h' := by
  obtain ⟨m,rfl⟩:∃ m,n = m + 1 := ⟨n - 1,by omega⟩
  refine ⟨({ h with nx := h.nx + 1 }:H).set (h.nx * 256) (.row [e.v] 4 .rw),?_,((Grow.refl h).up (h.nx + 1) (by omega)).set (Nat.le_refl _) _⟩
  rw [call_succ]
  show call1 (call fns m) m f76 _ _ = _
  rw [Expr.v_eq,he.op,he.num,he.nm,he.l]
  simp [f76,Fr.keep_cons',Fr.keep_nil,stepE,H.get_set,ldv,cut,mk,V.cells]
theorem ok_89 (n:Nat) (hn:1 ≤ n) (e:Expr) (he:e.Zero) (h:H):∃ h',call fns n 89 [e.v] h = some (.bool true,h') ∧ Grow h h' := by
  obtain ⟨m,rfl⟩:∃ m,n = m + 1 := ⟨n - 1,by omega⟩
  refine ⟨({ h with nx := h.nx + 1 }:H).set (h.nx * 256) (.row [e.v] 4 .rw),?_,((Grow.refl h).up (h.nx + 1) (by omega)).set (Nat.le_refl _) _⟩
  rw [call_succ]
  show call1 (call fns m) m f89 _ _ = _
  rw [Expr.v_eq,he.op,he.num,he.nm,he.l]
  simp [f89,Fr.keep_cons',Fr.keep_nil,stepE,H.get_set,ldv,cut,mk,V.cells]
structure Decl.Shaped (d:Decl):Prop where
  k1:1 ≤ d.kind
  k6:d.kind ≤ 6
  nm:NameOk d.name
  sz:0 ≤ d.size
  sz1:d.kind ≠ 1 → d.size = 0
  init:-9223372036854775808 < d.init
  init1:d.kind ≠ 1 → d.kind ≠ 2 → d.init = 0
  on5:d.kind = 5 → NameOk d.on
  on0:d.kind ≠ 5 → d.on = []
theorem boxD (h:H) (x:Decl):∃ h1,h1 = ({ h with nx := h.nx + 1 }:H).set (h.nx * 256) (.row [x.v] 6 .rw) ∧ Grow h h1 ∧ h1.get (h.nx * 256) = some (.row [x.v] 6 .rw) ∧ h.nx * 256 < h1.nx * 256 :=
  ⟨_,rfl,((Grow.refl h).up (h.nx + 1) (by omega)).set (Nat.le_refl _) _,by simp [H.get_set],by show h.nx * 256 < (h.nx + 1) * 256; omega⟩
theorem ok_28 (n:Nat) (hn:2 ^ 31 + 10 ≤ n) (d:Decl) (hd:d.Shaped) (h:H):∃ h',call fns n 28 [d.v] h = some (.bool true,h') ∧ Grow h h' := by
  obtain ⟨m,rfl⟩:∃ m,n = m + 1 := ⟨n - 1,by omega⟩
  obtain ⟨h1,hh1,g1,b1,l1⟩ := boxD h d
  have el := len_33 d
  have d0a := ldD0 b1
  have d2a := ldD2 b1
  have d3a := ldD3 b1
  have d4a := ldD4 b1
  have d5a := ldD5 b1
  obtain ⟨h2,e2,g2⟩ := E29 m (by omega) d.name hd.nm h1
  have b2 := gget g2 l1 b1
  have l2:h.nx * 256 < h2.nx * 256 := by have := g2.1; omega
  have d0b := ldD0 b2
  have d2b := ldD2 b2
  have d3b := ldD3 b2
  have d4b := ldD4 b2
  have d5b := ldD5 b2
  have hsz := hd.sz
  have hin := hd.init
  have hsz':¬ d.size < 0 := by omega
  have en := fun h => ok_50_no m (by omega) h
  rw [call_succ]
  show ∃ h',call1 (call fns m) m f28 _ _ = _ ∧ _
  have hk':d.kind = 1 ∨ d.kind = 2 ∨ d.kind = 5 ∨ (d.kind = 3 ∨ d.kind = 4 ∨ d.kind = 6) := by have := hd.k1; have := hd.k6; omega
  simp only [hh1] at e2 d0a d2a d3a d4a d5a
  rcases hk' with hk | hk | hk | hk
  · refine ⟨h2,?_,g1.trans g2⟩
    have ho := hd.on0 (by omega)
    by_cases hs:d.size = 0 <;> by_cases hi:d.init = 0 <;> simp [f28,Fr.keep_cons',Fr.keep_nil,stepE,el,d0a,d2a,d3a,d4a,d5a,d0b,d2b,d3b,d4b,d5b,e2,en,hk,ho,hs,hi,hin,hsz']
  · refine ⟨h2,?_,g1.trans g2⟩
    have ho := hd.on0 (by omega)
    have hs := hd.sz1 (by omega)
    by_cases hi:d.init = 0 <;> simp [f28,Fr.keep_cons',Fr.keep_nil,stepE,el,d0a,d2a,d3a,d4a,d5a,d0b,d2b,d3b,d4b,d5b,e2,en,hk,ho,hs,hi,hin]
  · obtain ⟨h3,e3,g3⟩ := E50 m (by omega) d.on (hd.on5 hk) h2
    have b3 := gget g3 l2 b2
    have d0c := ldD0 b3
    have d2c := ldD2 b3
    have d3c := ldD3 b3
    have d4c := ldD4 b3
    have d5c := ldD5 b3
    refine ⟨h3,?_,(g1.trans g2).trans g3⟩
    have hs := hd.sz1 (by omega)
    have hi := hd.init1 (by omega) (by omega)
    simp [f28,Fr.keep_cons',Fr.keep_nil,stepE,el,d0a,d2a,d3a,d4a,d5a,d0b,d2b,d3b,d4b,d5b,d0c,d2c,d3c,d4c,d5c,e2,e3,hk,hs,hi]
  · refine ⟨h2,?_,g1.trans g2⟩
    have ho := hd.on0 (by omega)
    have hs := hd.sz1 (by omega)
    have hi := hd.init1 (by omega) (by omega)
    rcases hk with hk | hk | hk <;> simp [f28,Fr.keep_cons',Fr.keep_nil,stepE,el,d0a,d2a,d3a,d4a,d5a,d0b,d2b,d3b,d4b,d5b,e2,en,hk,ho,hs,hi]
theorem ok_40 (n:Nat) (hn:2 ^ 31 + 10 ≤ n) (d:Decl) (hd:d.Shaped) (h:H):∃ h',call fns n 40 [d.v] h = some (.bool true,h') ∧ Grow h h' := by
  obtain ⟨m,rfl⟩:∃ m,n = m + 1 := ⟨n - 1,by omega⟩
  obtain ⟨h1,hh1,g1,b1,l1⟩ := boxD h d
  have el := len_33 d
  have d0a := ldD0 b1
  have d2a := ldD2 b1
  have d3a := ldD3 b1
  have d4a := ldD4 b1
  have d5a := ldD5 b1
  have e2 := fun h => E41 m (by omega) d.name hd.nm h
  have hsz := hd.sz
  have hin := hd.init
  have hsz':¬ d.size < 0 := by omega
  rw [call_succ]
  show ∃ h',call1 (call fns m) m f40 _ _ = _ ∧ _
  have hk':d.kind = 1 ∨ d.kind = 2 ∨ d.kind = 5 ∨ (d.kind = 3 ∨ d.kind = 4 ∨ d.kind = 6) := by have := hd.k1; have := hd.k6; omega
  refine ⟨h1,?_,g1⟩
  simp only [hh1] at d0a d2a d3a d4a d5a ⊢
  rcases hk' with hk | hk | hk | hk
  · have ho := hd.on0 (by omega)
    by_cases hi:d.init = 0 <;> simp [f40,Fr.keep_cons',Fr.keep_nil,stepE,el,d0a,d2a,d3a,d4a,d5a,e2,hk,ho,hi,hin,hsz']
  · have ho := hd.on0 (by omega)
    have hs := hd.sz1 (by omega)
    by_cases hi:d.init = 0 <;> simp [f40,Fr.keep_cons',Fr.keep_nil,stepE,el,d0a,d2a,d3a,d4a,d5a,e2,hk,ho,hs,hi,hin]
  · have e3 := fun h => E41 m (by omega) d.on (hd.on5 hk) h
    have hs := hd.sz1 (by omega)
    have hi := hd.init1 (by omega) (by omega)
    simp [f40,Fr.keep_cons',Fr.keep_nil,stepE,el,d0a,d2a,d3a,d4a,d5a,e2,e3,hk,hs,hi]
  · have ho := hd.on0 (by omega)
    have hs := hd.sz1 (by omega)
    have hi := hd.init1 (by omega) (by omega)
    rcases hk with hk | hk | hk <;> simp [f40,Fr.keep_cons',Fr.keep_nil,stepE,el,d0a,d2a,d3a,d4a,d5a,e2,hk,ho,hs,hi]
structure Stmt.Own (x:Stmt):Prop where
  o1:1 ≤ x.op
  o15:x.op ≤ 15
  nm:x.op ≠ 2 → x.op ≠ 3 → x.op ≠ 7 → x.op ≠ 8 → NameOk x.name
  nm0:x.op = 2 ∨ x.op = 3 ∨ x.op = 7 ∨ x.op = 8 → x.name = []
  ar:x.op = 15 → NameOk x.arg
  ar0:x.op ≠ 15 → x.arg = []
  ix:x.index = [] ∨ (x.op = 1 ∧ ∃ e,x.index = [e] ∧ e.Fine)
  ex:x.op = 1 ∨ x.op = 2 ∨ x.op = 3 ∨ x.op = 14 → x.expr.Fine
  ex0:x.op ≠ 1 → x.op ≠ 2 → x.op ≠ 3 → x.op ≠ 14 → x.expr.Zero
  bd:x.op < 2 ∨ 8 < x.op → x.body = []
  el:x.op ≠ 2 → x.els = []
theorem ok_54 (m:Nat) (hm:4294967405 ≤ m) (x:Stmt) (hx:x.Own) (hb:∀ h,∃ h',call fns m 30 [.sl x.fb (x.body.map Stmt.v)] h = some (.bool true,h') ∧ Grow h h') (he:∀ h,∃ h',call fns m 30 [.sl x.fe (x.els.map Stmt.v)] h = some (.bool true,h') ∧ Grow h h') (h:H) :
    ∃ h',call fns (m + 1) 54 [x.v] h = some (.bool true,h') ∧ Grow h h' := by
  obtain ⟨h1,hh1,g1,b1,l1⟩ := boxS h x 0
  have el := len_106 x
  have en := fun h => ok_50_no m (by omega) h
  rw [call_succ]
  show ∃ h',call1 (call fns m) m f54 _ _ = _ ∧ _
  have hop:x.op = 1 ∨ x.op = 2 ∨ x.op = 3 ∨ x.op = 4 ∨ x.op = 5 ∨ x.op = 6 ∨ x.op = 7 ∨ x.op = 8 ∨ x.op = 9 ∨ x.op = 10 ∨ x.op = 11 ∨ x.op = 12 ∨ x.op = 13 ∨ x.op = 14 ∨ x.op = 15 := by have := hx.o1; have := hx.o15; omega
  rcases hop with ho | ho | ho | ho | ho | ho | ho | ho | ho | ho | ho | ho | ho | ho | ho
  · rcases hx.ix with hix | ⟨_,e,hix,hef⟩
    · have s0a := ldS0 b1
      have s2a := ldS2 b1
      have s3a := ldS3 b1
      have s4a := ldS4 b1
      have s5a := ldS5 b1
      have s9a := ldS9 b1
      have s10a := ldS10 b1
      obtain ⟨h2,e2,g2⟩ := E50 m (by omega) x.name (hx.nm (by omega) (by omega) (by omega) (by omega)) h1
      have b2 := gget g2 l1 b1
      have l2:h.nx * 256 < h2.nx * 256 := by have := g2.1; omega
      have s0b := ldS0 b2
      have s2b := ldS2 b2
      have s3b := ldS3 b2
      have s4b := ldS4 b2
      have s5b := ldS5 b2
      have s9b := ldS9 b2
      have s10b := ldS10 b2
      have ha0 := hx.ar0 (by omega)
      obtain ⟨h3,e3,g3⟩ := E75 m (by omega) x.expr (hx.ex (by omega)) h2
      have b3 := gget g3 l2 b2
      have l3:h.nx * 256 < h3.nx * 256 := by have := g3.1; omega
      have s0c := ldS0 b3
      have s2c := ldS2 b3
      have s3c := ldS3 b3
      have s4c := ldS4 b3
      have s5c := ldS5 b3
      have s9c := ldS9 b3
      have s10c := ldS10 b3
      have hbd := hx.bd (by omega)
      have hel := hx.el (by omega)
      obtain ⟨h4,e4,g4⟩ := hb h3
      have b4 := gget g4 l3 b3
      have l4:h.nx * 256 < h4.nx * 256 := by have := g4.1; omega
      have s0d := ldS0 b4
      have s2d := ldS2 b4
      have s3d := ldS3 b4
      have s4d := ldS4 b4
      have s5d := ldS5 b4
      have s9d := ldS9 b4
      have s10d := ldS10 b4
      obtain ⟨h5,e5,g5⟩ := he h4
      have b5 := gget g5 l4 b4
      have l5:h.nx * 256 < h5.nx * 256 := by have := g5.1; omega
      have s0e := ldS0 b5
      have s2e := ldS2 b5
      have s3e := ldS3 b5
      have s4e := ldS4 b5
      have s5e := ldS5 b5
      have s9e := ldS9 b5
      have s10e := ldS10 b5
      rw [hbd] at e4
      simp at e4
      rw [hel] at e5
      simp at e5
      refine ⟨h5,?_,((((g1.trans g2).trans g3).trans g4).trans g5)⟩
      subst hh1
      simp [f54,Fr.keep_cons',Fr.keep_nil,iadv,stepE,el,s0a,s2a,s3a,s4a,s5a,s9a,s10a,s0b,s2b,s3b,s4b,s5b,s9b,s10b,s0c,s2c,s3c,s4c,s5c,s9c,s10c,s0d,s2d,s3d,s4d,s5d,s9d,s10d,s0e,s2e,s3e,s4e,s5e,s9e,s10e,e2,ha0,e3,hbd,hel,e4,e5,en,ho,hix]
    · have s0a := ldS0 b1
      have s2a := ldS2 b1
      have s3a := ldS3 b1
      have s4a := ldS4 b1
      have s5a := ldS5 b1
      have s9a := ldS9 b1
      have s10a := ldS10 b1
      obtain ⟨h2,e2,g2⟩ := E50 m (by omega) x.name (hx.nm (by omega) (by omega) (by omega) (by omega)) h1
      have b2 := gget g2 l1 b1
      have l2:h.nx * 256 < h2.nx * 256 := by have := g2.1; omega
      have s0b := ldS0 b2
      have s2b := ldS2 b2
      have s3b := ldS3 b2
      have s4b := ldS4 b2
      have s5b := ldS5 b2
      have s9b := ldS9 b2
      have s10b := ldS10 b2
      have ha0 := hx.ar0 (by omega)
      have hec:e.v.cells.length = 4 := by simp [Expr.v_eq,V.cells]
      have lde := fun h => ldIx e h
      obtain ⟨h3,e3,g3⟩ := E75 m (by omega) e hef h2
      have b3 := gget g3 l2 b2
      have l3:h.nx * 256 < h3.nx * 256 := by have := g3.1; omega
      have s0c := ldS0 b3
      have s2c := ldS2 b3
      have s3c := ldS3 b3
      have s4c := ldS4 b3
      have s5c := ldS5 b3
      have s9c := ldS9 b3
      have s10c := ldS10 b3
      obtain ⟨h4,e4,g4⟩ := E75 m (by omega) x.expr (hx.ex (by omega)) h3
      have b4 := gget g4 l3 b3
      have l4:h.nx * 256 < h4.nx * 256 := by have := g4.1; omega
      have s0d := ldS0 b4
      have s2d := ldS2 b4
      have s3d := ldS3 b4
      have s4d := ldS4 b4
      have s5d := ldS5 b4
      have s9d := ldS9 b4
      have s10d := ldS10 b4
      have hbd := hx.bd (by omega)
      have hel := hx.el (by omega)
      obtain ⟨h5,e5,g5⟩ := hb h4
      have b5 := gget g5 l4 b4
      have l5:h.nx * 256 < h5.nx * 256 := by have := g5.1; omega
      have s0e := ldS0 b5
      have s2e := ldS2 b5
      have s3e := ldS3 b5
      have s4e := ldS4 b5
      have s5e := ldS5 b5
      have s9e := ldS9 b5
      have s10e := ldS10 b5
      obtain ⟨h6,e6,g6⟩ := he h5
      have b6 := gget g6 l5 b5
      have l6:h.nx * 256 < h6.nx * 256 := by have := g6.1; omega
      have s0f := ldS0 b6
      have s2f := ldS2 b6
      have s3f := ldS3 b6
      have s4f := ldS4 b6
      have s5f := ldS5 b6
      have s9f := ldS9 b6
      have s10f := ldS10 b6
      rw [hbd] at e5
      simp at e5
      rw [hel] at e6
      simp at e6
      refine ⟨h6,?_,(((((g1.trans g2).trans g3).trans g4).trans g5).trans g6)⟩
      subst hh1
      simp [f54,Fr.keep_cons',Fr.keep_nil,iadv,stepE,el,s0a,s2a,s3a,s4a,s5a,s9a,s10a,s0b,s2b,s3b,s4b,s5b,s9b,s10b,s0c,s2c,s3c,s4c,s5c,s9c,s10c,s0d,s2d,s3d,s4d,s5d,s9d,s10d,s0e,s2e,s3e,s4e,s5e,s9e,s10e,s0f,s2f,s3f,s4f,s5f,s9f,s10f,e2,ha0,hec,lde,e3,e4,hbd,hel,e5,e6,en,ho,hix]
  · have hix:x.index = [] := hx.ix.resolve_right (fun q => by have := q.1; omega)
    have s0a := ldS0 b1
    have s2a := ldS2 b1
    have s3a := ldS3 b1
    have s4a := ldS4 b1
    have s5a := ldS5 b1
    have s9a := ldS9 b1
    have s10a := ldS10 b1
    have hn0 := hx.nm0 (by omega)
    have ha0 := hx.ar0 (by omega)
    obtain ⟨h2,e2,g2⟩ := E75 m (by omega) x.expr (hx.ex (by omega)) h1
    have b2 := gget g2 l1 b1
    have l2:h.nx * 256 < h2.nx * 256 := by have := g2.1; omega
    have s0b := ldS0 b2
    have s2b := ldS2 b2
    have s3b := ldS3 b2
    have s4b := ldS4 b2
    have s5b := ldS5 b2
    have s9b := ldS9 b2
    have s10b := ldS10 b2
    obtain ⟨h3,e3,g3⟩ := hb h2
    have b3 := gget g3 l2 b2
    have l3:h.nx * 256 < h3.nx * 256 := by have := g3.1; omega
    have s0c := ldS0 b3
    have s2c := ldS2 b3
    have s3c := ldS3 b3
    have s4c := ldS4 b3
    have s5c := ldS5 b3
    have s9c := ldS9 b3
    have s10c := ldS10 b3
    obtain ⟨h4,e4,g4⟩ := he h3
    have b4 := gget g4 l3 b3
    have l4:h.nx * 256 < h4.nx * 256 := by have := g4.1; omega
    have s0d := ldS0 b4
    have s2d := ldS2 b4
    have s3d := ldS3 b4
    have s4d := ldS4 b4
    have s5d := ldS5 b4
    have s9d := ldS9 b4
    have s10d := ldS10 b4
    refine ⟨h4,?_,(((g1.trans g2).trans g3).trans g4)⟩
    subst hh1
    rcases Nat.eq_zero_or_pos x.body.length with hbl | hbl <;> rcases Nat.eq_zero_or_pos x.els.length with hel | hel <;> simp [f54,Fr.keep_cons',Fr.keep_nil,iadv,stepE,el,s0a,s2a,s3a,s4a,s5a,s9a,s10a,s0b,s2b,s3b,s4b,s5b,s9b,s10b,s0c,s2c,s3c,s4c,s5c,s9c,s10c,s0d,s2d,s3d,s4d,s5d,s9d,s10d,hn0,ha0,e2,e3,e4,en,ho,hix,hbl,hel]
  · have hix:x.index = [] := hx.ix.resolve_right (fun q => by have := q.1; omega)
    have s0a := ldS0 b1
    have s2a := ldS2 b1
    have s3a := ldS3 b1
    have s4a := ldS4 b1
    have s5a := ldS5 b1
    have s9a := ldS9 b1
    have s10a := ldS10 b1
    have hn0 := hx.nm0 (by omega)
    have ha0 := hx.ar0 (by omega)
    obtain ⟨h2,e2,g2⟩ := E75 m (by omega) x.expr (hx.ex (by omega)) h1
    have b2 := gget g2 l1 b1
    have l2:h.nx * 256 < h2.nx * 256 := by have := g2.1; omega
    have s0b := ldS0 b2
    have s2b := ldS2 b2
    have s3b := ldS3 b2
    have s4b := ldS4 b2
    have s5b := ldS5 b2
    have s9b := ldS9 b2
    have s10b := ldS10 b2
    have hel := hx.el (by omega)
    obtain ⟨h3,e3,g3⟩ := hb h2
    have b3 := gget g3 l2 b2
    have l3:h.nx * 256 < h3.nx * 256 := by have := g3.1; omega
    have s0c := ldS0 b3
    have s2c := ldS2 b3
    have s3c := ldS3 b3
    have s4c := ldS4 b3
    have s5c := ldS5 b3
    have s9c := ldS9 b3
    have s10c := ldS10 b3
    obtain ⟨h4,e4,g4⟩ := he h3
    have b4 := gget g4 l3 b3
    have l4:h.nx * 256 < h4.nx * 256 := by have := g4.1; omega
    have s0d := ldS0 b4
    have s2d := ldS2 b4
    have s3d := ldS3 b4
    have s4d := ldS4 b4
    have s5d := ldS5 b4
    have s9d := ldS9 b4
    have s10d := ldS10 b4
    rw [hel] at e4
    simp at e4
    refine ⟨h4,?_,(((g1.trans g2).trans g3).trans g4)⟩
    subst hh1
    rcases Nat.eq_zero_or_pos x.body.length with hbl | hbl <;> simp [f54,Fr.keep_cons',Fr.keep_nil,iadv,stepE,el,s0a,s2a,s3a,s4a,s5a,s9a,s10a,s0b,s2b,s3b,s4b,s5b,s9b,s10b,s0c,s2c,s3c,s4c,s5c,s9c,s10c,s0d,s2d,s3d,s4d,s5d,s9d,s10d,hn0,ha0,e2,hel,e3,e4,en,ho,hix,hbl]
  · have hix:x.index = [] := hx.ix.resolve_right (fun q => by have := q.1; omega)
    have s0a := ldS0 b1
    have s2a := ldS2 b1
    have s3a := ldS3 b1
    have s4a := ldS4 b1
    have s5a := ldS5 b1
    have s9a := ldS9 b1
    have s10a := ldS10 b1
    obtain ⟨h2,e2,g2⟩ := E50 m (by omega) x.name (hx.nm (by omega) (by omega) (by omega) (by omega)) h1
    have b2 := gget g2 l1 b1
    have l2:h.nx * 256 < h2.nx * 256 := by have := g2.1; omega
    have s0b := ldS0 b2
    have s2b := ldS2 b2
    have s3b := ldS3 b2
    have s4b := ldS4 b2
    have s5b := ldS5 b2
    have s9b := ldS9 b2
    have s10b := ldS10 b2
    have ha0 := hx.ar0 (by omega)
    obtain ⟨h3,e3,g3⟩ := ok_76 m (by omega) x.expr (hx.ex0 (by omega) (by omega) (by omega) (by omega)) h2
    have b3 := gget g3 l2 b2
    have l3:h.nx * 256 < h3.nx * 256 := by have := g3.1; omega
    have s0c := ldS0 b3
    have s2c := ldS2 b3
    have s3c := ldS3 b3
    have s4c := ldS4 b3
    have s5c := ldS5 b3
    have s9c := ldS9 b3
    have s10c := ldS10 b3
    have hel := hx.el (by omega)
    obtain ⟨h4,e4,g4⟩ := hb h3
    have b4 := gget g4 l3 b3
    have l4:h.nx * 256 < h4.nx * 256 := by have := g4.1; omega
    have s0d := ldS0 b4
    have s2d := ldS2 b4
    have s3d := ldS3 b4
    have s4d := ldS4 b4
    have s5d := ldS5 b4
    have s9d := ldS9 b4
    have s10d := ldS10 b4
    obtain ⟨h5,e5,g5⟩ := he h4
    have b5 := gget g5 l4 b4
    have l5:h.nx * 256 < h5.nx * 256 := by have := g5.1; omega
    have s0e := ldS0 b5
    have s2e := ldS2 b5
    have s3e := ldS3 b5
    have s4e := ldS4 b5
    have s5e := ldS5 b5
    have s9e := ldS9 b5
    have s10e := ldS10 b5
    rw [hel] at e5
    simp at e5
    refine ⟨h5,?_,((((g1.trans g2).trans g3).trans g4).trans g5)⟩
    subst hh1
    rcases Nat.eq_zero_or_pos x.body.length with hbl | hbl <;> simp [f54,Fr.keep_cons',Fr.keep_nil,iadv,stepE,el,s0a,s2a,s3a,s4a,s5a,s9a,s10a,s0b,s2b,s3b,s4b,s5b,s9b,s10b,s0c,s2c,s3c,s4c,s5c,s9c,s10c,s0d,s2d,s3d,s4d,s5d,s9d,s10d,s0e,s2e,s3e,s4e,s5e,s9e,s10e,e2,ha0,e3,hel,e4,e5,en,ho,hix,hbl]
  · have hix:x.index = [] := hx.ix.resolve_right (fun q => by have := q.1; omega)
    have s0a := ldS0 b1
    have s2a := ldS2 b1
    have s3a := ldS3 b1
    have s4a := ldS4 b1
    have s5a := ldS5 b1
    have s9a := ldS9 b1
    have s10a := ldS10 b1
    obtain ⟨h2,e2,g2⟩ := E50 m (by omega) x.name (hx.nm (by omega) (by omega) (by omega) (by omega)) h1
    have b2 := gget g2 l1 b1
    have l2:h.nx * 256 < h2.nx * 256 := by have := g2.1; omega
    have s0b := ldS0 b2
    have s2b := ldS2 b2
    have s3b := ldS3 b2
    have s4b := ldS4 b2
    have s5b := ldS5 b2
    have s9b := ldS9 b2
    have s10b := ldS10 b2
    have ha0 := hx.ar0 (by omega)
    obtain ⟨h3,e3,g3⟩ := ok_76 m (by omega) x.expr (hx.ex0 (by omega) (by omega) (by omega) (by omega)) h2
    have b3 := gget g3 l2 b2
    have l3:h.nx * 256 < h3.nx * 256 := by have := g3.1; omega
    have s0c := ldS0 b3
    have s2c := ldS2 b3
    have s3c := ldS3 b3
    have s4c := ldS4 b3
    have s5c := ldS5 b3
    have s9c := ldS9 b3
    have s10c := ldS10 b3
    have hel := hx.el (by omega)
    obtain ⟨h4,e4,g4⟩ := hb h3
    have b4 := gget g4 l3 b3
    have l4:h.nx * 256 < h4.nx * 256 := by have := g4.1; omega
    have s0d := ldS0 b4
    have s2d := ldS2 b4
    have s3d := ldS3 b4
    have s4d := ldS4 b4
    have s5d := ldS5 b4
    have s9d := ldS9 b4
    have s10d := ldS10 b4
    obtain ⟨h5,e5,g5⟩ := he h4
    have b5 := gget g5 l4 b4
    have l5:h.nx * 256 < h5.nx * 256 := by have := g5.1; omega
    have s0e := ldS0 b5
    have s2e := ldS2 b5
    have s3e := ldS3 b5
    have s4e := ldS4 b5
    have s5e := ldS5 b5
    have s9e := ldS9 b5
    have s10e := ldS10 b5
    rw [hel] at e5
    simp at e5
    refine ⟨h5,?_,((((g1.trans g2).trans g3).trans g4).trans g5)⟩
    subst hh1
    rcases Nat.eq_zero_or_pos x.body.length with hbl | hbl <;> simp [f54,Fr.keep_cons',Fr.keep_nil,iadv,stepE,el,s0a,s2a,s3a,s4a,s5a,s9a,s10a,s0b,s2b,s3b,s4b,s5b,s9b,s10b,s0c,s2c,s3c,s4c,s5c,s9c,s10c,s0d,s2d,s3d,s4d,s5d,s9d,s10d,s0e,s2e,s3e,s4e,s5e,s9e,s10e,e2,ha0,e3,hel,e4,e5,en,ho,hix,hbl]
  · have hix:x.index = [] := hx.ix.resolve_right (fun q => by have := q.1; omega)
    have s0a := ldS0 b1
    have s2a := ldS2 b1
    have s3a := ldS3 b1
    have s4a := ldS4 b1
    have s5a := ldS5 b1
    have s9a := ldS9 b1
    have s10a := ldS10 b1
    obtain ⟨h2,e2,g2⟩ := E50 m (by omega) x.name (hx.nm (by omega) (by omega) (by omega) (by omega)) h1
    have b2 := gget g2 l1 b1
    have l2:h.nx * 256 < h2.nx * 256 := by have := g2.1; omega
    have s0b := ldS0 b2
    have s2b := ldS2 b2
    have s3b := ldS3 b2
    have s4b := ldS4 b2
    have s5b := ldS5 b2
    have s9b := ldS9 b2
    have s10b := ldS10 b2
    have ha0 := hx.ar0 (by omega)
    obtain ⟨h3,e3,g3⟩ := ok_76 m (by omega) x.expr (hx.ex0 (by omega) (by omega) (by omega) (by omega)) h2
    have b3 := gget g3 l2 b2
    have l3:h.nx * 256 < h3.nx * 256 := by have := g3.1; omega
    have s0c := ldS0 b3
    have s2c := ldS2 b3
    have s3c := ldS3 b3
    have s4c := ldS4 b3
    have s5c := ldS5 b3
    have s9c := ldS9 b3
    have s10c := ldS10 b3
    have hel := hx.el (by omega)
    obtain ⟨h4,e4,g4⟩ := hb h3
    have b4 := gget g4 l3 b3
    have l4:h.nx * 256 < h4.nx * 256 := by have := g4.1; omega
    have s0d := ldS0 b4
    have s2d := ldS2 b4
    have s3d := ldS3 b4
    have s4d := ldS4 b4
    have s5d := ldS5 b4
    have s9d := ldS9 b4
    have s10d := ldS10 b4
    obtain ⟨h5,e5,g5⟩ := he h4
    have b5 := gget g5 l4 b4
    have l5:h.nx * 256 < h5.nx * 256 := by have := g5.1; omega
    have s0e := ldS0 b5
    have s2e := ldS2 b5
    have s3e := ldS3 b5
    have s4e := ldS4 b5
    have s5e := ldS5 b5
    have s9e := ldS9 b5
    have s10e := ldS10 b5
    rw [hel] at e5
    simp at e5
    refine ⟨h5,?_,((((g1.trans g2).trans g3).trans g4).trans g5)⟩
    subst hh1
    rcases Nat.eq_zero_or_pos x.body.length with hbl | hbl <;> simp [f54,Fr.keep_cons',Fr.keep_nil,iadv,stepE,el,s0a,s2a,s3a,s4a,s5a,s9a,s10a,s0b,s2b,s3b,s4b,s5b,s9b,s10b,s0c,s2c,s3c,s4c,s5c,s9c,s10c,s0d,s2d,s3d,s4d,s5d,s9d,s10d,s0e,s2e,s3e,s4e,s5e,s9e,s10e,e2,ha0,e3,hel,e4,e5,en,ho,hix,hbl]
  · have hix:x.index = [] := hx.ix.resolve_right (fun q => by have := q.1; omega)
    have s0a := ldS0 b1
    have s2a := ldS2 b1
    have s3a := ldS3 b1
    have s4a := ldS4 b1
    have s5a := ldS5 b1
    have s9a := ldS9 b1
    have s10a := ldS10 b1
    have hn0 := hx.nm0 (by omega)
    have ha0 := hx.ar0 (by omega)
    obtain ⟨h2,e2,g2⟩ := ok_76 m (by omega) x.expr (hx.ex0 (by omega) (by omega) (by omega) (by omega)) h1
    have b2 := gget g2 l1 b1
    have l2:h.nx * 256 < h2.nx * 256 := by have := g2.1; omega
    have s0b := ldS0 b2
    have s2b := ldS2 b2
    have s3b := ldS3 b2
    have s4b := ldS4 b2
    have s5b := ldS5 b2
    have s9b := ldS9 b2
    have s10b := ldS10 b2
    have hel := hx.el (by omega)
    obtain ⟨h3,e3,g3⟩ := hb h2
    have b3 := gget g3 l2 b2
    have l3:h.nx * 256 < h3.nx * 256 := by have := g3.1; omega
    have s0c := ldS0 b3
    have s2c := ldS2 b3
    have s3c := ldS3 b3
    have s4c := ldS4 b3
    have s5c := ldS5 b3
    have s9c := ldS9 b3
    have s10c := ldS10 b3
    obtain ⟨h4,e4,g4⟩ := he h3
    have b4 := gget g4 l3 b3
    have l4:h.nx * 256 < h4.nx * 256 := by have := g4.1; omega
    have s0d := ldS0 b4
    have s2d := ldS2 b4
    have s3d := ldS3 b4
    have s4d := ldS4 b4
    have s5d := ldS5 b4
    have s9d := ldS9 b4
    have s10d := ldS10 b4
    rw [hel] at e4
    simp at e4
    refine ⟨h4,?_,(((g1.trans g2).trans g3).trans g4)⟩
    subst hh1
    rcases Nat.eq_zero_or_pos x.body.length with hbl | hbl <;> simp [f54,Fr.keep_cons',Fr.keep_nil,iadv,stepE,el,s0a,s2a,s3a,s4a,s5a,s9a,s10a,s0b,s2b,s3b,s4b,s5b,s9b,s10b,s0c,s2c,s3c,s4c,s5c,s9c,s10c,s0d,s2d,s3d,s4d,s5d,s9d,s10d,hn0,ha0,e2,hel,e3,e4,en,ho,hix,hbl]
  · have hix:x.index = [] := hx.ix.resolve_right (fun q => by have := q.1; omega)
    have s0a := ldS0 b1
    have s2a := ldS2 b1
    have s3a := ldS3 b1
    have s4a := ldS4 b1
    have s5a := ldS5 b1
    have s9a := ldS9 b1
    have s10a := ldS10 b1
    have hn0 := hx.nm0 (by omega)
    have ha0 := hx.ar0 (by omega)
    obtain ⟨h2,e2,g2⟩ := ok_76 m (by omega) x.expr (hx.ex0 (by omega) (by omega) (by omega) (by omega)) h1
    have b2 := gget g2 l1 b1
    have l2:h.nx * 256 < h2.nx * 256 := by have := g2.1; omega
    have s0b := ldS0 b2
    have s2b := ldS2 b2
    have s3b := ldS3 b2
    have s4b := ldS4 b2
    have s5b := ldS5 b2
    have s9b := ldS9 b2
    have s10b := ldS10 b2
    have hel := hx.el (by omega)
    obtain ⟨h3,e3,g3⟩ := hb h2
    have b3 := gget g3 l2 b2
    have l3:h.nx * 256 < h3.nx * 256 := by have := g3.1; omega
    have s0c := ldS0 b3
    have s2c := ldS2 b3
    have s3c := ldS3 b3
    have s4c := ldS4 b3
    have s5c := ldS5 b3
    have s9c := ldS9 b3
    have s10c := ldS10 b3
    obtain ⟨h4,e4,g4⟩ := he h3
    have b4 := gget g4 l3 b3
    have l4:h.nx * 256 < h4.nx * 256 := by have := g4.1; omega
    have s0d := ldS0 b4
    have s2d := ldS2 b4
    have s3d := ldS3 b4
    have s4d := ldS4 b4
    have s5d := ldS5 b4
    have s9d := ldS9 b4
    have s10d := ldS10 b4
    rw [hel] at e4
    simp at e4
    refine ⟨h4,?_,(((g1.trans g2).trans g3).trans g4)⟩
    subst hh1
    rcases Nat.eq_zero_or_pos x.body.length with hbl | hbl <;> simp [f54,Fr.keep_cons',Fr.keep_nil,iadv,stepE,el,s0a,s2a,s3a,s4a,s5a,s9a,s10a,s0b,s2b,s3b,s4b,s5b,s9b,s10b,s0c,s2c,s3c,s4c,s5c,s9c,s10c,s0d,s2d,s3d,s4d,s5d,s9d,s10d,hn0,ha0,e2,hel,e3,e4,en,ho,hix,hbl]
  · have hix:x.index = [] := hx.ix.resolve_right (fun q => by have := q.1; omega)
    have s0a := ldS0 b1
    have s2a := ldS2 b1
    have s3a := ldS3 b1
    have s4a := ldS4 b1
    have s5a := ldS5 b1
    have s9a := ldS9 b1
    have s10a := ldS10 b1
    obtain ⟨h2,e2,g2⟩ := E50 m (by omega) x.name (hx.nm (by omega) (by omega) (by omega) (by omega)) h1
    have b2 := gget g2 l1 b1
    have l2:h.nx * 256 < h2.nx * 256 := by have := g2.1; omega
    have s0b := ldS0 b2
    have s2b := ldS2 b2
    have s3b := ldS3 b2
    have s4b := ldS4 b2
    have s5b := ldS5 b2
    have s9b := ldS9 b2
    have s10b := ldS10 b2
    have ha0 := hx.ar0 (by omega)
    obtain ⟨h3,e3,g3⟩ := ok_76 m (by omega) x.expr (hx.ex0 (by omega) (by omega) (by omega) (by omega)) h2
    have b3 := gget g3 l2 b2
    have l3:h.nx * 256 < h3.nx * 256 := by have := g3.1; omega
    have s0c := ldS0 b3
    have s2c := ldS2 b3
    have s3c := ldS3 b3
    have s4c := ldS4 b3
    have s5c := ldS5 b3
    have s9c := ldS9 b3
    have s10c := ldS10 b3
    have hbd := hx.bd (by omega)
    have hel := hx.el (by omega)
    obtain ⟨h4,e4,g4⟩ := hb h3
    have b4 := gget g4 l3 b3
    have l4:h.nx * 256 < h4.nx * 256 := by have := g4.1; omega
    have s0d := ldS0 b4
    have s2d := ldS2 b4
    have s3d := ldS3 b4
    have s4d := ldS4 b4
    have s5d := ldS5 b4
    have s9d := ldS9 b4
    have s10d := ldS10 b4
    obtain ⟨h5,e5,g5⟩ := he h4
    have b5 := gget g5 l4 b4
    have l5:h.nx * 256 < h5.nx * 256 := by have := g5.1; omega
    have s0e := ldS0 b5
    have s2e := ldS2 b5
    have s3e := ldS3 b5
    have s4e := ldS4 b5
    have s5e := ldS5 b5
    have s9e := ldS9 b5
    have s10e := ldS10 b5
    rw [hbd] at e4
    simp at e4
    rw [hel] at e5
    simp at e5
    refine ⟨h5,?_,((((g1.trans g2).trans g3).trans g4).trans g5)⟩
    subst hh1
    simp [f54,Fr.keep_cons',Fr.keep_nil,iadv,stepE,el,s0a,s2a,s3a,s4a,s5a,s9a,s10a,s0b,s2b,s3b,s4b,s5b,s9b,s10b,s0c,s2c,s3c,s4c,s5c,s9c,s10c,s0d,s2d,s3d,s4d,s5d,s9d,s10d,s0e,s2e,s3e,s4e,s5e,s9e,s10e,e2,ha0,e3,hbd,hel,e4,e5,en,ho,hix]
  · have hix:x.index = [] := hx.ix.resolve_right (fun q => by have := q.1; omega)
    have s0a := ldS0 b1
    have s2a := ldS2 b1
    have s3a := ldS3 b1
    have s4a := ldS4 b1
    have s5a := ldS5 b1
    have s9a := ldS9 b1
    have s10a := ldS10 b1
    obtain ⟨h2,e2,g2⟩ := E50 m (by omega) x.name (hx.nm (by omega) (by omega) (by omega) (by omega)) h1
    have b2 := gget g2 l1 b1
    have l2:h.nx * 256 < h2.nx * 256 := by have := g2.1; omega
    have s0b := ldS0 b2
    have s2b := ldS2 b2
    have s3b := ldS3 b2
    have s4b := ldS4 b2
    have s5b := ldS5 b2
    have s9b := ldS9 b2
    have s10b := ldS10 b2
    have ha0 := hx.ar0 (by omega)
    obtain ⟨h3,e3,g3⟩ := ok_76 m (by omega) x.expr (hx.ex0 (by omega) (by omega) (by omega) (by omega)) h2
    have b3 := gget g3 l2 b2
    have l3:h.nx * 256 < h3.nx * 256 := by have := g3.1; omega
    have s0c := ldS0 b3
    have s2c := ldS2 b3
    have s3c := ldS3 b3
    have s4c := ldS4 b3
    have s5c := ldS5 b3
    have s9c := ldS9 b3
    have s10c := ldS10 b3
    have hbd := hx.bd (by omega)
    have hel := hx.el (by omega)
    obtain ⟨h4,e4,g4⟩ := hb h3
    have b4 := gget g4 l3 b3
    have l4:h.nx * 256 < h4.nx * 256 := by have := g4.1; omega
    have s0d := ldS0 b4
    have s2d := ldS2 b4
    have s3d := ldS3 b4
    have s4d := ldS4 b4
    have s5d := ldS5 b4
    have s9d := ldS9 b4
    have s10d := ldS10 b4
    obtain ⟨h5,e5,g5⟩ := he h4
    have b5 := gget g5 l4 b4
    have l5:h.nx * 256 < h5.nx * 256 := by have := g5.1; omega
    have s0e := ldS0 b5
    have s2e := ldS2 b5
    have s3e := ldS3 b5
    have s4e := ldS4 b5
    have s5e := ldS5 b5
    have s9e := ldS9 b5
    have s10e := ldS10 b5
    rw [hbd] at e4
    simp at e4
    rw [hel] at e5
    simp at e5
    refine ⟨h5,?_,((((g1.trans g2).trans g3).trans g4).trans g5)⟩
    subst hh1
    simp [f54,Fr.keep_cons',Fr.keep_nil,iadv,stepE,el,s0a,s2a,s3a,s4a,s5a,s9a,s10a,s0b,s2b,s3b,s4b,s5b,s9b,s10b,s0c,s2c,s3c,s4c,s5c,s9c,s10c,s0d,s2d,s3d,s4d,s5d,s9d,s10d,s0e,s2e,s3e,s4e,s5e,s9e,s10e,e2,ha0,e3,hbd,hel,e4,e5,en,ho,hix]
  · have hix:x.index = [] := hx.ix.resolve_right (fun q => by have := q.1; omega)
    have s0a := ldS0 b1
    have s2a := ldS2 b1
    have s3a := ldS3 b1
    have s4a := ldS4 b1
    have s5a := ldS5 b1
    have s9a := ldS9 b1
    have s10a := ldS10 b1
    obtain ⟨h2,e2,g2⟩ := E50 m (by omega) x.name (hx.nm (by omega) (by omega) (by omega) (by omega)) h1
    have b2 := gget g2 l1 b1
    have l2:h.nx * 256 < h2.nx * 256 := by have := g2.1; omega
    have s0b := ldS0 b2
    have s2b := ldS2 b2
    have s3b := ldS3 b2
    have s4b := ldS4 b2
    have s5b := ldS5 b2
    have s9b := ldS9 b2
    have s10b := ldS10 b2
    have ha0 := hx.ar0 (by omega)
    obtain ⟨h3,e3,g3⟩ := ok_76 m (by omega) x.expr (hx.ex0 (by omega) (by omega) (by omega) (by omega)) h2
    have b3 := gget g3 l2 b2
    have l3:h.nx * 256 < h3.nx * 256 := by have := g3.1; omega
    have s0c := ldS0 b3
    have s2c := ldS2 b3
    have s3c := ldS3 b3
    have s4c := ldS4 b3
    have s5c := ldS5 b3
    have s9c := ldS9 b3
    have s10c := ldS10 b3
    have hbd := hx.bd (by omega)
    have hel := hx.el (by omega)
    obtain ⟨h4,e4,g4⟩ := hb h3
    have b4 := gget g4 l3 b3
    have l4:h.nx * 256 < h4.nx * 256 := by have := g4.1; omega
    have s0d := ldS0 b4
    have s2d := ldS2 b4
    have s3d := ldS3 b4
    have s4d := ldS4 b4
    have s5d := ldS5 b4
    have s9d := ldS9 b4
    have s10d := ldS10 b4
    obtain ⟨h5,e5,g5⟩ := he h4
    have b5 := gget g5 l4 b4
    have l5:h.nx * 256 < h5.nx * 256 := by have := g5.1; omega
    have s0e := ldS0 b5
    have s2e := ldS2 b5
    have s3e := ldS3 b5
    have s4e := ldS4 b5
    have s5e := ldS5 b5
    have s9e := ldS9 b5
    have s10e := ldS10 b5
    rw [hbd] at e4
    simp at e4
    rw [hel] at e5
    simp at e5
    refine ⟨h5,?_,((((g1.trans g2).trans g3).trans g4).trans g5)⟩
    subst hh1
    simp [f54,Fr.keep_cons',Fr.keep_nil,iadv,stepE,el,s0a,s2a,s3a,s4a,s5a,s9a,s10a,s0b,s2b,s3b,s4b,s5b,s9b,s10b,s0c,s2c,s3c,s4c,s5c,s9c,s10c,s0d,s2d,s3d,s4d,s5d,s9d,s10d,s0e,s2e,s3e,s4e,s5e,s9e,s10e,e2,ha0,e3,hbd,hel,e4,e5,en,ho,hix]
  · have hix:x.index = [] := hx.ix.resolve_right (fun q => by have := q.1; omega)
    have s0a := ldS0 b1
    have s2a := ldS2 b1
    have s3a := ldS3 b1
    have s4a := ldS4 b1
    have s5a := ldS5 b1
    have s9a := ldS9 b1
    have s10a := ldS10 b1
    obtain ⟨h2,e2,g2⟩ := E50 m (by omega) x.name (hx.nm (by omega) (by omega) (by omega) (by omega)) h1
    have b2 := gget g2 l1 b1
    have l2:h.nx * 256 < h2.nx * 256 := by have := g2.1; omega
    have s0b := ldS0 b2
    have s2b := ldS2 b2
    have s3b := ldS3 b2
    have s4b := ldS4 b2
    have s5b := ldS5 b2
    have s9b := ldS9 b2
    have s10b := ldS10 b2
    have ha0 := hx.ar0 (by omega)
    obtain ⟨h3,e3,g3⟩ := ok_76 m (by omega) x.expr (hx.ex0 (by omega) (by omega) (by omega) (by omega)) h2
    have b3 := gget g3 l2 b2
    have l3:h.nx * 256 < h3.nx * 256 := by have := g3.1; omega
    have s0c := ldS0 b3
    have s2c := ldS2 b3
    have s3c := ldS3 b3
    have s4c := ldS4 b3
    have s5c := ldS5 b3
    have s9c := ldS9 b3
    have s10c := ldS10 b3
    have hbd := hx.bd (by omega)
    have hel := hx.el (by omega)
    obtain ⟨h4,e4,g4⟩ := hb h3
    have b4 := gget g4 l3 b3
    have l4:h.nx * 256 < h4.nx * 256 := by have := g4.1; omega
    have s0d := ldS0 b4
    have s2d := ldS2 b4
    have s3d := ldS3 b4
    have s4d := ldS4 b4
    have s5d := ldS5 b4
    have s9d := ldS9 b4
    have s10d := ldS10 b4
    obtain ⟨h5,e5,g5⟩ := he h4
    have b5 := gget g5 l4 b4
    have l5:h.nx * 256 < h5.nx * 256 := by have := g5.1; omega
    have s0e := ldS0 b5
    have s2e := ldS2 b5
    have s3e := ldS3 b5
    have s4e := ldS4 b5
    have s5e := ldS5 b5
    have s9e := ldS9 b5
    have s10e := ldS10 b5
    rw [hbd] at e4
    simp at e4
    rw [hel] at e5
    simp at e5
    refine ⟨h5,?_,((((g1.trans g2).trans g3).trans g4).trans g5)⟩
    subst hh1
    simp [f54,Fr.keep_cons',Fr.keep_nil,iadv,stepE,el,s0a,s2a,s3a,s4a,s5a,s9a,s10a,s0b,s2b,s3b,s4b,s5b,s9b,s10b,s0c,s2c,s3c,s4c,s5c,s9c,s10c,s0d,s2d,s3d,s4d,s5d,s9d,s10d,s0e,s2e,s3e,s4e,s5e,s9e,s10e,e2,ha0,e3,hbd,hel,e4,e5,en,ho,hix]
  · have hix:x.index = [] := hx.ix.resolve_right (fun q => by have := q.1; omega)
    have s0a := ldS0 b1
    have s2a := ldS2 b1
    have s3a := ldS3 b1
    have s4a := ldS4 b1
    have s5a := ldS5 b1
    have s9a := ldS9 b1
    have s10a := ldS10 b1
    obtain ⟨h2,e2,g2⟩ := E50 m (by omega) x.name (hx.nm (by omega) (by omega) (by omega) (by omega)) h1
    have b2 := gget g2 l1 b1
    have l2:h.nx * 256 < h2.nx * 256 := by have := g2.1; omega
    have s0b := ldS0 b2
    have s2b := ldS2 b2
    have s3b := ldS3 b2
    have s4b := ldS4 b2
    have s5b := ldS5 b2
    have s9b := ldS9 b2
    have s10b := ldS10 b2
    have ha0 := hx.ar0 (by omega)
    obtain ⟨h3,e3,g3⟩ := ok_76 m (by omega) x.expr (hx.ex0 (by omega) (by omega) (by omega) (by omega)) h2
    have b3 := gget g3 l2 b2
    have l3:h.nx * 256 < h3.nx * 256 := by have := g3.1; omega
    have s0c := ldS0 b3
    have s2c := ldS2 b3
    have s3c := ldS3 b3
    have s4c := ldS4 b3
    have s5c := ldS5 b3
    have s9c := ldS9 b3
    have s10c := ldS10 b3
    have hbd := hx.bd (by omega)
    have hel := hx.el (by omega)
    obtain ⟨h4,e4,g4⟩ := hb h3
    have b4 := gget g4 l3 b3
    have l4:h.nx * 256 < h4.nx * 256 := by have := g4.1; omega
    have s0d := ldS0 b4
    have s2d := ldS2 b4
    have s3d := ldS3 b4
    have s4d := ldS4 b4
    have s5d := ldS5 b4
    have s9d := ldS9 b4
    have s10d := ldS10 b4
    obtain ⟨h5,e5,g5⟩ := he h4
    have b5 := gget g5 l4 b4
    have l5:h.nx * 256 < h5.nx * 256 := by have := g5.1; omega
    have s0e := ldS0 b5
    have s2e := ldS2 b5
    have s3e := ldS3 b5
    have s4e := ldS4 b5
    have s5e := ldS5 b5
    have s9e := ldS9 b5
    have s10e := ldS10 b5
    rw [hbd] at e4
    simp at e4
    rw [hel] at e5
    simp at e5
    refine ⟨h5,?_,((((g1.trans g2).trans g3).trans g4).trans g5)⟩
    subst hh1
    simp [f54,Fr.keep_cons',Fr.keep_nil,iadv,stepE,el,s0a,s2a,s3a,s4a,s5a,s9a,s10a,s0b,s2b,s3b,s4b,s5b,s9b,s10b,s0c,s2c,s3c,s4c,s5c,s9c,s10c,s0d,s2d,s3d,s4d,s5d,s9d,s10d,s0e,s2e,s3e,s4e,s5e,s9e,s10e,e2,ha0,e3,hbd,hel,e4,e5,en,ho,hix]
  · have hix:x.index = [] := hx.ix.resolve_right (fun q => by have := q.1; omega)
    have s0a := ldS0 b1
    have s2a := ldS2 b1
    have s3a := ldS3 b1
    have s4a := ldS4 b1
    have s5a := ldS5 b1
    have s9a := ldS9 b1
    have s10a := ldS10 b1
    obtain ⟨h2,e2,g2⟩ := E50 m (by omega) x.name (hx.nm (by omega) (by omega) (by omega) (by omega)) h1
    have b2 := gget g2 l1 b1
    have l2:h.nx * 256 < h2.nx * 256 := by have := g2.1; omega
    have s0b := ldS0 b2
    have s2b := ldS2 b2
    have s3b := ldS3 b2
    have s4b := ldS4 b2
    have s5b := ldS5 b2
    have s9b := ldS9 b2
    have s10b := ldS10 b2
    have ha0 := hx.ar0 (by omega)
    obtain ⟨h3,e3,g3⟩ := E75 m (by omega) x.expr (hx.ex (by omega)) h2
    have b3 := gget g3 l2 b2
    have l3:h.nx * 256 < h3.nx * 256 := by have := g3.1; omega
    have s0c := ldS0 b3
    have s2c := ldS2 b3
    have s3c := ldS3 b3
    have s4c := ldS4 b3
    have s5c := ldS5 b3
    have s9c := ldS9 b3
    have s10c := ldS10 b3
    have hbd := hx.bd (by omega)
    have hel := hx.el (by omega)
    obtain ⟨h4,e4,g4⟩ := hb h3
    have b4 := gget g4 l3 b3
    have l4:h.nx * 256 < h4.nx * 256 := by have := g4.1; omega
    have s0d := ldS0 b4
    have s2d := ldS2 b4
    have s3d := ldS3 b4
    have s4d := ldS4 b4
    have s5d := ldS5 b4
    have s9d := ldS9 b4
    have s10d := ldS10 b4
    obtain ⟨h5,e5,g5⟩ := he h4
    have b5 := gget g5 l4 b4
    have l5:h.nx * 256 < h5.nx * 256 := by have := g5.1; omega
    have s0e := ldS0 b5
    have s2e := ldS2 b5
    have s3e := ldS3 b5
    have s4e := ldS4 b5
    have s5e := ldS5 b5
    have s9e := ldS9 b5
    have s10e := ldS10 b5
    rw [hbd] at e4
    simp at e4
    rw [hel] at e5
    simp at e5
    refine ⟨h5,?_,((((g1.trans g2).trans g3).trans g4).trans g5)⟩
    subst hh1
    simp [f54,Fr.keep_cons',Fr.keep_nil,iadv,stepE,el,s0a,s2a,s3a,s4a,s5a,s9a,s10a,s0b,s2b,s3b,s4b,s5b,s9b,s10b,s0c,s2c,s3c,s4c,s5c,s9c,s10c,s0d,s2d,s3d,s4d,s5d,s9d,s10d,s0e,s2e,s3e,s4e,s5e,s9e,s10e,e2,ha0,e3,hbd,hel,e4,e5,en,ho,hix]
  · have hix:x.index = [] := hx.ix.resolve_right (fun q => by have := q.1; omega)
    have s0a := ldS0 b1
    have s2a := ldS2 b1
    have s3a := ldS3 b1
    have s4a := ldS4 b1
    have s5a := ldS5 b1
    have s9a := ldS9 b1
    have s10a := ldS10 b1
    obtain ⟨h2,e2,g2⟩ := E50 m (by omega) x.name (hx.nm (by omega) (by omega) (by omega) (by omega)) h1
    have b2 := gget g2 l1 b1
    have l2:h.nx * 256 < h2.nx * 256 := by have := g2.1; omega
    have s0b := ldS0 b2
    have s2b := ldS2 b2
    have s3b := ldS3 b2
    have s4b := ldS4 b2
    have s5b := ldS5 b2
    have s9b := ldS9 b2
    have s10b := ldS10 b2
    obtain ⟨h3,e3,g3⟩ := E50 m (by omega) x.arg (hx.ar ho) h2
    have b3 := gget g3 l2 b2
    have l3:h.nx * 256 < h3.nx * 256 := by have := g3.1; omega
    have s0c := ldS0 b3
    have s2c := ldS2 b3
    have s3c := ldS3 b3
    have s4c := ldS4 b3
    have s5c := ldS5 b3
    have s9c := ldS9 b3
    have s10c := ldS10 b3
    obtain ⟨h4,e4,g4⟩ := ok_76 m (by omega) x.expr (hx.ex0 (by omega) (by omega) (by omega) (by omega)) h3
    have b4 := gget g4 l3 b3
    have l4:h.nx * 256 < h4.nx * 256 := by have := g4.1; omega
    have s0d := ldS0 b4
    have s2d := ldS2 b4
    have s3d := ldS3 b4
    have s4d := ldS4 b4
    have s5d := ldS5 b4
    have s9d := ldS9 b4
    have s10d := ldS10 b4
    have hbd := hx.bd (by omega)
    have hel := hx.el (by omega)
    obtain ⟨h5,e5,g5⟩ := hb h4
    have b5 := gget g5 l4 b4
    have l5:h.nx * 256 < h5.nx * 256 := by have := g5.1; omega
    have s0e := ldS0 b5
    have s2e := ldS2 b5
    have s3e := ldS3 b5
    have s4e := ldS4 b5
    have s5e := ldS5 b5
    have s9e := ldS9 b5
    have s10e := ldS10 b5
    obtain ⟨h6,e6,g6⟩ := he h5
    have b6 := gget g6 l5 b5
    have l6:h.nx * 256 < h6.nx * 256 := by have := g6.1; omega
    have s0f := ldS0 b6
    have s2f := ldS2 b6
    have s3f := ldS3 b6
    have s4f := ldS4 b6
    have s5f := ldS5 b6
    have s9f := ldS9 b6
    have s10f := ldS10 b6
    rw [hbd] at e5
    simp at e5
    rw [hel] at e6
    simp at e6
    refine ⟨h6,?_,(((((g1.trans g2).trans g3).trans g4).trans g5).trans g6)⟩
    subst hh1
    simp [f54,Fr.keep_cons',Fr.keep_nil,iadv,stepE,el,s0a,s2a,s3a,s4a,s5a,s9a,s10a,s0b,s2b,s3b,s4b,s5b,s9b,s10b,s0c,s2c,s3c,s4c,s5c,s9c,s10c,s0d,s2d,s3d,s4d,s5d,s9d,s10d,s0e,s2e,s3e,s4e,s5e,s9e,s10e,s0f,s2f,s3f,s4f,s5f,s9f,s10f,e2,e3,e4,hbd,hel,e5,e6,en,ho,hix]
theorem ok_63 (m:Nat) (hm:4294967405 ≤ m) (x:Stmt) (hx:x.Own) (hb:∀ h,∃ h',call fns m 42 [.sl x.fb (x.body.map Stmt.v)] h = some (.bool true,h') ∧ Grow h h') (he:∀ h,∃ h',call fns m 42 [.sl x.fe (x.els.map Stmt.v)] h = some (.bool true,h') ∧ Grow h h') (h:H) :
    ∃ h',call fns (m + 1) 63 [x.v] h = some (.bool true,h') ∧ Grow h h' := by
  obtain ⟨h1,hh1,g1,b1,l1⟩ := boxS h x 0
  have el := len_106 x
  have en := fun h => ok_50_no m (by omega) h
  rw [call_succ]
  show ∃ h',call1 (call fns m) m f63 _ _ = _ ∧ _
  have hop:x.op = 1 ∨ x.op = 2 ∨ x.op = 3 ∨ x.op = 4 ∨ x.op = 5 ∨ x.op = 6 ∨ x.op = 7 ∨ x.op = 8 ∨ x.op = 9 ∨ x.op = 10 ∨ x.op = 11 ∨ x.op = 12 ∨ x.op = 13 ∨ x.op = 14 ∨ x.op = 15 := by have := hx.o1; have := hx.o15; omega
  rcases hop with ho | ho | ho | ho | ho | ho | ho | ho | ho | ho | ho | ho | ho | ho | ho
  · rcases hx.ix with hix | ⟨_,e,hix,hef⟩
    · have s0a := ldS0 b1
      have s2a := ldS2 b1
      have s3a := ldS3 b1
      have s4a := ldS4 b1
      have s5a := ldS5 b1
      have s9a := ldS9 b1
      have s10a := ldS10 b1
      have en1 := fun h => E41 m (by omega) x.name (hx.nm (by omega) (by omega) (by omega) (by omega)) h
      have ha0 := hx.ar0 (by omega)
      obtain ⟨h2,e2,g2⟩ := E88 m (by omega) x.expr (hx.ex (by omega)) h1
      have b2 := gget g2 l1 b1
      have l2:h.nx * 256 < h2.nx * 256 := by have := g2.1; omega
      have s0b := ldS0 b2
      have s2b := ldS2 b2
      have s3b := ldS3 b2
      have s4b := ldS4 b2
      have s5b := ldS5 b2
      have s9b := ldS9 b2
      have s10b := ldS10 b2
      have hbd := hx.bd (by omega)
      have hel := hx.el (by omega)
      obtain ⟨h3,e3,g3⟩ := hb h2
      have b3 := gget g3 l2 b2
      have l3:h.nx * 256 < h3.nx * 256 := by have := g3.1; omega
      have s0c := ldS0 b3
      have s2c := ldS2 b3
      have s3c := ldS3 b3
      have s4c := ldS4 b3
      have s5c := ldS5 b3
      have s9c := ldS9 b3
      have s10c := ldS10 b3
      obtain ⟨h4,e4,g4⟩ := he h3
      have b4 := gget g4 l3 b3
      have l4:h.nx * 256 < h4.nx * 256 := by have := g4.1; omega
      have s0d := ldS0 b4
      have s2d := ldS2 b4
      have s3d := ldS3 b4
      have s4d := ldS4 b4
      have s5d := ldS5 b4
      have s9d := ldS9 b4
      have s10d := ldS10 b4
      rw [hbd] at e3
      simp at e3
      rw [hel] at e4
      simp at e4
      refine ⟨h4,?_,(((g1.trans g2).trans g3).trans g4)⟩
      subst hh1
      simp [f63,Fr.keep_cons',Fr.keep_nil,iadv,stepE,el,s0a,s2a,s3a,s4a,s5a,s9a,s10a,s0b,s2b,s3b,s4b,s5b,s9b,s10b,s0c,s2c,s3c,s4c,s5c,s9c,s10c,s0d,s2d,s3d,s4d,s5d,s9d,s10d,en1,ha0,e2,hbd,hel,e3,e4,en,ho,hix]
    · have s0a := ldS0 b1
      have s2a := ldS2 b1
      have s3a := ldS3 b1
      have s4a := ldS4 b1
      have s5a := ldS5 b1
      have s9a := ldS9 b1
      have s10a := ldS10 b1
      have en1 := fun h => E41 m (by omega) x.name (hx.nm (by omega) (by omega) (by omega) (by omega)) h
      have ha0 := hx.ar0 (by omega)
      have hec:e.v.cells.length = 4 := by simp [Expr.v_eq,V.cells]
      have lde := fun h => ldIx e h
      obtain ⟨h2,e2,g2⟩ := E88 m (by omega) e hef h1
      have b2 := gget g2 l1 b1
      have l2:h.nx * 256 < h2.nx * 256 := by have := g2.1; omega
      have s0b := ldS0 b2
      have s2b := ldS2 b2
      have s3b := ldS3 b2
      have s4b := ldS4 b2
      have s5b := ldS5 b2
      have s9b := ldS9 b2
      have s10b := ldS10 b2
      obtain ⟨h3,e3,g3⟩ := E88 m (by omega) x.expr (hx.ex (by omega)) h2
      have b3 := gget g3 l2 b2
      have l3:h.nx * 256 < h3.nx * 256 := by have := g3.1; omega
      have s0c := ldS0 b3
      have s2c := ldS2 b3
      have s3c := ldS3 b3
      have s4c := ldS4 b3
      have s5c := ldS5 b3
      have s9c := ldS9 b3
      have s10c := ldS10 b3
      have hbd := hx.bd (by omega)
      have hel := hx.el (by omega)
      obtain ⟨h4,e4,g4⟩ := hb h3
      have b4 := gget g4 l3 b3
      have l4:h.nx * 256 < h4.nx * 256 := by have := g4.1; omega
      have s0d := ldS0 b4
      have s2d := ldS2 b4
      have s3d := ldS3 b4
      have s4d := ldS4 b4
      have s5d := ldS5 b4
      have s9d := ldS9 b4
      have s10d := ldS10 b4
      obtain ⟨h5,e5,g5⟩ := he h4
      have b5 := gget g5 l4 b4
      have l5:h.nx * 256 < h5.nx * 256 := by have := g5.1; omega
      have s0e := ldS0 b5
      have s2e := ldS2 b5
      have s3e := ldS3 b5
      have s4e := ldS4 b5
      have s5e := ldS5 b5
      have s9e := ldS9 b5
      have s10e := ldS10 b5
      rw [hbd] at e4
      simp at e4
      rw [hel] at e5
      simp at e5
      refine ⟨h5,?_,((((g1.trans g2).trans g3).trans g4).trans g5)⟩
      subst hh1
      simp [f63,Fr.keep_cons',Fr.keep_nil,iadv,stepE,el,s0a,s2a,s3a,s4a,s5a,s9a,s10a,s0b,s2b,s3b,s4b,s5b,s9b,s10b,s0c,s2c,s3c,s4c,s5c,s9c,s10c,s0d,s2d,s3d,s4d,s5d,s9d,s10d,s0e,s2e,s3e,s4e,s5e,s9e,s10e,en1,ha0,hec,lde,e2,e3,hbd,hel,e4,e5,en,ho,hix]
  · have hix:x.index = [] := hx.ix.resolve_right (fun q => by have := q.1; omega)
    have s0a := ldS0 b1
    have s2a := ldS2 b1
    have s3a := ldS3 b1
    have s4a := ldS4 b1
    have s5a := ldS5 b1
    have s9a := ldS9 b1
    have s10a := ldS10 b1
    have hn0 := hx.nm0 (by omega)
    have ha0 := hx.ar0 (by omega)
    obtain ⟨h2,e2,g2⟩ := E88 m (by omega) x.expr (hx.ex (by omega)) h1
    have b2 := gget g2 l1 b1
    have l2:h.nx * 256 < h2.nx * 256 := by have := g2.1; omega
    have s0b := ldS0 b2
    have s2b := ldS2 b2
    have s3b := ldS3 b2
    have s4b := ldS4 b2
    have s5b := ldS5 b2
    have s9b := ldS9 b2
    have s10b := ldS10 b2
    obtain ⟨h3,e3,g3⟩ := hb h2
    have b3 := gget g3 l2 b2
    have l3:h.nx * 256 < h3.nx * 256 := by have := g3.1; omega
    have s0c := ldS0 b3
    have s2c := ldS2 b3
    have s3c := ldS3 b3
    have s4c := ldS4 b3
    have s5c := ldS5 b3
    have s9c := ldS9 b3
    have s10c := ldS10 b3
    obtain ⟨h4,e4,g4⟩ := he h3
    have b4 := gget g4 l3 b3
    have l4:h.nx * 256 < h4.nx * 256 := by have := g4.1; omega
    have s0d := ldS0 b4
    have s2d := ldS2 b4
    have s3d := ldS3 b4
    have s4d := ldS4 b4
    have s5d := ldS5 b4
    have s9d := ldS9 b4
    have s10d := ldS10 b4
    refine ⟨h4,?_,(((g1.trans g2).trans g3).trans g4)⟩
    subst hh1
    rcases Nat.eq_zero_or_pos x.body.length with hbl | hbl <;> rcases Nat.eq_zero_or_pos x.els.length with hel | hel <;> simp [f63,Fr.keep_cons',Fr.keep_nil,iadv,stepE,el,s0a,s2a,s3a,s4a,s5a,s9a,s10a,s0b,s2b,s3b,s4b,s5b,s9b,s10b,s0c,s2c,s3c,s4c,s5c,s9c,s10c,s0d,s2d,s3d,s4d,s5d,s9d,s10d,hn0,ha0,e2,e3,e4,en,ho,hix,hbl,hel]
  · have hix:x.index = [] := hx.ix.resolve_right (fun q => by have := q.1; omega)
    have s0a := ldS0 b1
    have s2a := ldS2 b1
    have s3a := ldS3 b1
    have s4a := ldS4 b1
    have s5a := ldS5 b1
    have s9a := ldS9 b1
    have s10a := ldS10 b1
    have hn0 := hx.nm0 (by omega)
    have ha0 := hx.ar0 (by omega)
    obtain ⟨h2,e2,g2⟩ := E88 m (by omega) x.expr (hx.ex (by omega)) h1
    have b2 := gget g2 l1 b1
    have l2:h.nx * 256 < h2.nx * 256 := by have := g2.1; omega
    have s0b := ldS0 b2
    have s2b := ldS2 b2
    have s3b := ldS3 b2
    have s4b := ldS4 b2
    have s5b := ldS5 b2
    have s9b := ldS9 b2
    have s10b := ldS10 b2
    have hel := hx.el (by omega)
    obtain ⟨h3,e3,g3⟩ := hb h2
    have b3 := gget g3 l2 b2
    have l3:h.nx * 256 < h3.nx * 256 := by have := g3.1; omega
    have s0c := ldS0 b3
    have s2c := ldS2 b3
    have s3c := ldS3 b3
    have s4c := ldS4 b3
    have s5c := ldS5 b3
    have s9c := ldS9 b3
    have s10c := ldS10 b3
    obtain ⟨h4,e4,g4⟩ := he h3
    have b4 := gget g4 l3 b3
    have l4:h.nx * 256 < h4.nx * 256 := by have := g4.1; omega
    have s0d := ldS0 b4
    have s2d := ldS2 b4
    have s3d := ldS3 b4
    have s4d := ldS4 b4
    have s5d := ldS5 b4
    have s9d := ldS9 b4
    have s10d := ldS10 b4
    rw [hel] at e4
    simp at e4
    refine ⟨h4,?_,(((g1.trans g2).trans g3).trans g4)⟩
    subst hh1
    rcases Nat.eq_zero_or_pos x.body.length with hbl | hbl <;> simp [f63,Fr.keep_cons',Fr.keep_nil,iadv,stepE,el,s0a,s2a,s3a,s4a,s5a,s9a,s10a,s0b,s2b,s3b,s4b,s5b,s9b,s10b,s0c,s2c,s3c,s4c,s5c,s9c,s10c,s0d,s2d,s3d,s4d,s5d,s9d,s10d,hn0,ha0,e2,hel,e3,e4,en,ho,hix,hbl]
  · have hix:x.index = [] := hx.ix.resolve_right (fun q => by have := q.1; omega)
    have s0a := ldS0 b1
    have s2a := ldS2 b1
    have s3a := ldS3 b1
    have s4a := ldS4 b1
    have s5a := ldS5 b1
    have s9a := ldS9 b1
    have s10a := ldS10 b1
    have en1 := fun h => E41 m (by omega) x.name (hx.nm (by omega) (by omega) (by omega) (by omega)) h
    have ha0 := hx.ar0 (by omega)
    obtain ⟨h2,e2,g2⟩ := ok_89 m (by omega) x.expr (hx.ex0 (by omega) (by omega) (by omega) (by omega)) h1
    have b2 := gget g2 l1 b1
    have l2:h.nx * 256 < h2.nx * 256 := by have := g2.1; omega
    have s0b := ldS0 b2
    have s2b := ldS2 b2
    have s3b := ldS3 b2
    have s4b := ldS4 b2
    have s5b := ldS5 b2
    have s9b := ldS9 b2
    have s10b := ldS10 b2
    have hel := hx.el (by omega)
    obtain ⟨h3,e3,g3⟩ := hb h2
    have b3 := gget g3 l2 b2
    have l3:h.nx * 256 < h3.nx * 256 := by have := g3.1; omega
    have s0c := ldS0 b3
    have s2c := ldS2 b3
    have s3c := ldS3 b3
    have s4c := ldS4 b3
    have s5c := ldS5 b3
    have s9c := ldS9 b3
    have s10c := ldS10 b3
    obtain ⟨h4,e4,g4⟩ := he h3
    have b4 := gget g4 l3 b3
    have l4:h.nx * 256 < h4.nx * 256 := by have := g4.1; omega
    have s0d := ldS0 b4
    have s2d := ldS2 b4
    have s3d := ldS3 b4
    have s4d := ldS4 b4
    have s5d := ldS5 b4
    have s9d := ldS9 b4
    have s10d := ldS10 b4
    rw [hel] at e4
    simp at e4
    refine ⟨h4,?_,(((g1.trans g2).trans g3).trans g4)⟩
    subst hh1
    rcases Nat.eq_zero_or_pos x.body.length with hbl | hbl <;> simp [f63,Fr.keep_cons',Fr.keep_nil,iadv,stepE,el,s0a,s2a,s3a,s4a,s5a,s9a,s10a,s0b,s2b,s3b,s4b,s5b,s9b,s10b,s0c,s2c,s3c,s4c,s5c,s9c,s10c,s0d,s2d,s3d,s4d,s5d,s9d,s10d,en1,ha0,e2,hel,e3,e4,en,ho,hix,hbl]
  · have hix:x.index = [] := hx.ix.resolve_right (fun q => by have := q.1; omega)
    have s0a := ldS0 b1
    have s2a := ldS2 b1
    have s3a := ldS3 b1
    have s4a := ldS4 b1
    have s5a := ldS5 b1
    have s9a := ldS9 b1
    have s10a := ldS10 b1
    have en1 := fun h => E41 m (by omega) x.name (hx.nm (by omega) (by omega) (by omega) (by omega)) h
    have ha0 := hx.ar0 (by omega)
    obtain ⟨h2,e2,g2⟩ := ok_89 m (by omega) x.expr (hx.ex0 (by omega) (by omega) (by omega) (by omega)) h1
    have b2 := gget g2 l1 b1
    have l2:h.nx * 256 < h2.nx * 256 := by have := g2.1; omega
    have s0b := ldS0 b2
    have s2b := ldS2 b2
    have s3b := ldS3 b2
    have s4b := ldS4 b2
    have s5b := ldS5 b2
    have s9b := ldS9 b2
    have s10b := ldS10 b2
    have hel := hx.el (by omega)
    obtain ⟨h3,e3,g3⟩ := hb h2
    have b3 := gget g3 l2 b2
    have l3:h.nx * 256 < h3.nx * 256 := by have := g3.1; omega
    have s0c := ldS0 b3
    have s2c := ldS2 b3
    have s3c := ldS3 b3
    have s4c := ldS4 b3
    have s5c := ldS5 b3
    have s9c := ldS9 b3
    have s10c := ldS10 b3
    obtain ⟨h4,e4,g4⟩ := he h3
    have b4 := gget g4 l3 b3
    have l4:h.nx * 256 < h4.nx * 256 := by have := g4.1; omega
    have s0d := ldS0 b4
    have s2d := ldS2 b4
    have s3d := ldS3 b4
    have s4d := ldS4 b4
    have s5d := ldS5 b4
    have s9d := ldS9 b4
    have s10d := ldS10 b4
    rw [hel] at e4
    simp at e4
    refine ⟨h4,?_,(((g1.trans g2).trans g3).trans g4)⟩
    subst hh1
    rcases Nat.eq_zero_or_pos x.body.length with hbl | hbl <;> simp [f63,Fr.keep_cons',Fr.keep_nil,iadv,stepE,el,s0a,s2a,s3a,s4a,s5a,s9a,s10a,s0b,s2b,s3b,s4b,s5b,s9b,s10b,s0c,s2c,s3c,s4c,s5c,s9c,s10c,s0d,s2d,s3d,s4d,s5d,s9d,s10d,en1,ha0,e2,hel,e3,e4,en,ho,hix,hbl]
  · have hix:x.index = [] := hx.ix.resolve_right (fun q => by have := q.1; omega)
    have s0a := ldS0 b1
    have s2a := ldS2 b1
    have s3a := ldS3 b1
    have s4a := ldS4 b1
    have s5a := ldS5 b1
    have s9a := ldS9 b1
    have s10a := ldS10 b1
    have en1 := fun h => E41 m (by omega) x.name (hx.nm (by omega) (by omega) (by omega) (by omega)) h
    have ha0 := hx.ar0 (by omega)
    obtain ⟨h2,e2,g2⟩ := ok_89 m (by omega) x.expr (hx.ex0 (by omega) (by omega) (by omega) (by omega)) h1
    have b2 := gget g2 l1 b1
    have l2:h.nx * 256 < h2.nx * 256 := by have := g2.1; omega
    have s0b := ldS0 b2
    have s2b := ldS2 b2
    have s3b := ldS3 b2
    have s4b := ldS4 b2
    have s5b := ldS5 b2
    have s9b := ldS9 b2
    have s10b := ldS10 b2
    have hel := hx.el (by omega)
    obtain ⟨h3,e3,g3⟩ := hb h2
    have b3 := gget g3 l2 b2
    have l3:h.nx * 256 < h3.nx * 256 := by have := g3.1; omega
    have s0c := ldS0 b3
    have s2c := ldS2 b3
    have s3c := ldS3 b3
    have s4c := ldS4 b3
    have s5c := ldS5 b3
    have s9c := ldS9 b3
    have s10c := ldS10 b3
    obtain ⟨h4,e4,g4⟩ := he h3
    have b4 := gget g4 l3 b3
    have l4:h.nx * 256 < h4.nx * 256 := by have := g4.1; omega
    have s0d := ldS0 b4
    have s2d := ldS2 b4
    have s3d := ldS3 b4
    have s4d := ldS4 b4
    have s5d := ldS5 b4
    have s9d := ldS9 b4
    have s10d := ldS10 b4
    rw [hel] at e4
    simp at e4
    refine ⟨h4,?_,(((g1.trans g2).trans g3).trans g4)⟩
    subst hh1
    rcases Nat.eq_zero_or_pos x.body.length with hbl | hbl <;> simp [f63,Fr.keep_cons',Fr.keep_nil,iadv,stepE,el,s0a,s2a,s3a,s4a,s5a,s9a,s10a,s0b,s2b,s3b,s4b,s5b,s9b,s10b,s0c,s2c,s3c,s4c,s5c,s9c,s10c,s0d,s2d,s3d,s4d,s5d,s9d,s10d,en1,ha0,e2,hel,e3,e4,en,ho,hix,hbl]
  · have hix:x.index = [] := hx.ix.resolve_right (fun q => by have := q.1; omega)
    have s0a := ldS0 b1
    have s2a := ldS2 b1
    have s3a := ldS3 b1
    have s4a := ldS4 b1
    have s5a := ldS5 b1
    have s9a := ldS9 b1
    have s10a := ldS10 b1
    have hn0 := hx.nm0 (by omega)
    have ha0 := hx.ar0 (by omega)
    obtain ⟨h2,e2,g2⟩ := ok_89 m (by omega) x.expr (hx.ex0 (by omega) (by omega) (by omega) (by omega)) h1
    have b2 := gget g2 l1 b1
    have l2:h.nx * 256 < h2.nx * 256 := by have := g2.1; omega
    have s0b := ldS0 b2
    have s2b := ldS2 b2
    have s3b := ldS3 b2
    have s4b := ldS4 b2
    have s5b := ldS5 b2
    have s9b := ldS9 b2
    have s10b := ldS10 b2
    have hel := hx.el (by omega)
    obtain ⟨h3,e3,g3⟩ := hb h2
    have b3 := gget g3 l2 b2
    have l3:h.nx * 256 < h3.nx * 256 := by have := g3.1; omega
    have s0c := ldS0 b3
    have s2c := ldS2 b3
    have s3c := ldS3 b3
    have s4c := ldS4 b3
    have s5c := ldS5 b3
    have s9c := ldS9 b3
    have s10c := ldS10 b3
    obtain ⟨h4,e4,g4⟩ := he h3
    have b4 := gget g4 l3 b3
    have l4:h.nx * 256 < h4.nx * 256 := by have := g4.1; omega
    have s0d := ldS0 b4
    have s2d := ldS2 b4
    have s3d := ldS3 b4
    have s4d := ldS4 b4
    have s5d := ldS5 b4
    have s9d := ldS9 b4
    have s10d := ldS10 b4
    rw [hel] at e4
    simp at e4
    refine ⟨h4,?_,(((g1.trans g2).trans g3).trans g4)⟩
    subst hh1
    rcases Nat.eq_zero_or_pos x.body.length with hbl | hbl <;> simp [f63,Fr.keep_cons',Fr.keep_nil,iadv,stepE,el,s0a,s2a,s3a,s4a,s5a,s9a,s10a,s0b,s2b,s3b,s4b,s5b,s9b,s10b,s0c,s2c,s3c,s4c,s5c,s9c,s10c,s0d,s2d,s3d,s4d,s5d,s9d,s10d,hn0,ha0,e2,hel,e3,e4,en,ho,hix,hbl]
  · have hix:x.index = [] := hx.ix.resolve_right (fun q => by have := q.1; omega)
    have s0a := ldS0 b1
    have s2a := ldS2 b1
    have s3a := ldS3 b1
    have s4a := ldS4 b1
    have s5a := ldS5 b1
    have s9a := ldS9 b1
    have s10a := ldS10 b1
    have hn0 := hx.nm0 (by omega)
    have ha0 := hx.ar0 (by omega)
    obtain ⟨h2,e2,g2⟩ := ok_89 m (by omega) x.expr (hx.ex0 (by omega) (by omega) (by omega) (by omega)) h1
    have b2 := gget g2 l1 b1
    have l2:h.nx * 256 < h2.nx * 256 := by have := g2.1; omega
    have s0b := ldS0 b2
    have s2b := ldS2 b2
    have s3b := ldS3 b2
    have s4b := ldS4 b2
    have s5b := ldS5 b2
    have s9b := ldS9 b2
    have s10b := ldS10 b2
    have hel := hx.el (by omega)
    obtain ⟨h3,e3,g3⟩ := hb h2
    have b3 := gget g3 l2 b2
    have l3:h.nx * 256 < h3.nx * 256 := by have := g3.1; omega
    have s0c := ldS0 b3
    have s2c := ldS2 b3
    have s3c := ldS3 b3
    have s4c := ldS4 b3
    have s5c := ldS5 b3
    have s9c := ldS9 b3
    have s10c := ldS10 b3
    obtain ⟨h4,e4,g4⟩ := he h3
    have b4 := gget g4 l3 b3
    have l4:h.nx * 256 < h4.nx * 256 := by have := g4.1; omega
    have s0d := ldS0 b4
    have s2d := ldS2 b4
    have s3d := ldS3 b4
    have s4d := ldS4 b4
    have s5d := ldS5 b4
    have s9d := ldS9 b4
    have s10d := ldS10 b4
    rw [hel] at e4
    simp at e4
    refine ⟨h4,?_,(((g1.trans g2).trans g3).trans g4)⟩
    subst hh1
    rcases Nat.eq_zero_or_pos x.body.length with hbl | hbl <;> simp [f63,Fr.keep_cons',Fr.keep_nil,iadv,stepE,el,s0a,s2a,s3a,s4a,s5a,s9a,s10a,s0b,s2b,s3b,s4b,s5b,s9b,s10b,s0c,s2c,s3c,s4c,s5c,s9c,s10c,s0d,s2d,s3d,s4d,s5d,s9d,s10d,hn0,ha0,e2,hel,e3,e4,en,ho,hix,hbl]
  · have hix:x.index = [] := hx.ix.resolve_right (fun q => by have := q.1; omega)
    have s0a := ldS0 b1
    have s2a := ldS2 b1
    have s3a := ldS3 b1
    have s4a := ldS4 b1
    have s5a := ldS5 b1
    have s9a := ldS9 b1
    have s10a := ldS10 b1
    have en1 := fun h => E41 m (by omega) x.name (hx.nm (by omega) (by omega) (by omega) (by omega)) h
    have ha0 := hx.ar0 (by omega)
    obtain ⟨h2,e2,g2⟩ := ok_89 m (by omega) x.expr (hx.ex0 (by omega) (by omega) (by omega) (by omega)) h1
    have b2 := gget g2 l1 b1
    have l2:h.nx * 256 < h2.nx * 256 := by have := g2.1; omega
    have s0b := ldS0 b2
    have s2b := ldS2 b2
    have s3b := ldS3 b2
    have s4b := ldS4 b2
    have s5b := ldS5 b2
    have s9b := ldS9 b2
    have s10b := ldS10 b2
    have hbd := hx.bd (by omega)
    have hel := hx.el (by omega)
    obtain ⟨h3,e3,g3⟩ := hb h2
    have b3 := gget g3 l2 b2
    have l3:h.nx * 256 < h3.nx * 256 := by have := g3.1; omega
    have s0c := ldS0 b3
    have s2c := ldS2 b3
    have s3c := ldS3 b3
    have s4c := ldS4 b3
    have s5c := ldS5 b3
    have s9c := ldS9 b3
    have s10c := ldS10 b3
    obtain ⟨h4,e4,g4⟩ := he h3
    have b4 := gget g4 l3 b3
    have l4:h.nx * 256 < h4.nx * 256 := by have := g4.1; omega
    have s0d := ldS0 b4
    have s2d := ldS2 b4
    have s3d := ldS3 b4
    have s4d := ldS4 b4
    have s5d := ldS5 b4
    have s9d := ldS9 b4
    have s10d := ldS10 b4
    rw [hbd] at e3
    simp at e3
    rw [hel] at e4
    simp at e4
    refine ⟨h4,?_,(((g1.trans g2).trans g3).trans g4)⟩
    subst hh1
    simp [f63,Fr.keep_cons',Fr.keep_nil,iadv,stepE,el,s0a,s2a,s3a,s4a,s5a,s9a,s10a,s0b,s2b,s3b,s4b,s5b,s9b,s10b,s0c,s2c,s3c,s4c,s5c,s9c,s10c,s0d,s2d,s3d,s4d,s5d,s9d,s10d,en1,ha0,e2,hbd,hel,e3,e4,en,ho,hix]
  · have hix:x.index = [] := hx.ix.resolve_right (fun q => by have := q.1; omega)
    have s0a := ldS0 b1
    have s2a := ldS2 b1
    have s3a := ldS3 b1
    have s4a := ldS4 b1
    have s5a := ldS5 b1
    have s9a := ldS9 b1
    have s10a := ldS10 b1
    have en1 := fun h => E41 m (by omega) x.name (hx.nm (by omega) (by omega) (by omega) (by omega)) h
    have ha0 := hx.ar0 (by omega)
    obtain ⟨h2,e2,g2⟩ := ok_89 m (by omega) x.expr (hx.ex0 (by omega) (by omega) (by omega) (by omega)) h1
    have b2 := gget g2 l1 b1
    have l2:h.nx * 256 < h2.nx * 256 := by have := g2.1; omega
    have s0b := ldS0 b2
    have s2b := ldS2 b2
    have s3b := ldS3 b2
    have s4b := ldS4 b2
    have s5b := ldS5 b2
    have s9b := ldS9 b2
    have s10b := ldS10 b2
    have hbd := hx.bd (by omega)
    have hel := hx.el (by omega)
    obtain ⟨h3,e3,g3⟩ := hb h2
    have b3 := gget g3 l2 b2
    have l3:h.nx * 256 < h3.nx * 256 := by have := g3.1; omega
    have s0c := ldS0 b3
    have s2c := ldS2 b3
    have s3c := ldS3 b3
    have s4c := ldS4 b3
    have s5c := ldS5 b3
    have s9c := ldS9 b3
    have s10c := ldS10 b3
    obtain ⟨h4,e4,g4⟩ := he h3
    have b4 := gget g4 l3 b3
    have l4:h.nx * 256 < h4.nx * 256 := by have := g4.1; omega
    have s0d := ldS0 b4
    have s2d := ldS2 b4
    have s3d := ldS3 b4
    have s4d := ldS4 b4
    have s5d := ldS5 b4
    have s9d := ldS9 b4
    have s10d := ldS10 b4
    rw [hbd] at e3
    simp at e3
    rw [hel] at e4
    simp at e4
    refine ⟨h4,?_,(((g1.trans g2).trans g3).trans g4)⟩
    subst hh1
    simp [f63,Fr.keep_cons',Fr.keep_nil,iadv,stepE,el,s0a,s2a,s3a,s4a,s5a,s9a,s10a,s0b,s2b,s3b,s4b,s5b,s9b,s10b,s0c,s2c,s3c,s4c,s5c,s9c,s10c,s0d,s2d,s3d,s4d,s5d,s9d,s10d,en1,ha0,e2,hbd,hel,e3,e4,en,ho,hix]
  · have hix:x.index = [] := hx.ix.resolve_right (fun q => by have := q.1; omega)
    have s0a := ldS0 b1
    have s2a := ldS2 b1
    have s3a := ldS3 b1
    have s4a := ldS4 b1
    have s5a := ldS5 b1
    have s9a := ldS9 b1
    have s10a := ldS10 b1
    have en1 := fun h => E41 m (by omega) x.name (hx.nm (by omega) (by omega) (by omega) (by omega)) h
    have ha0 := hx.ar0 (by omega)
    obtain ⟨h2,e2,g2⟩ := ok_89 m (by omega) x.expr (hx.ex0 (by omega) (by omega) (by omega) (by omega)) h1
    have b2 := gget g2 l1 b1
    have l2:h.nx * 256 < h2.nx * 256 := by have := g2.1; omega
    have s0b := ldS0 b2
    have s2b := ldS2 b2
    have s3b := ldS3 b2
    have s4b := ldS4 b2
    have s5b := ldS5 b2
    have s9b := ldS9 b2
    have s10b := ldS10 b2
    have hbd := hx.bd (by omega)
    have hel := hx.el (by omega)
    obtain ⟨h3,e3,g3⟩ := hb h2
    have b3 := gget g3 l2 b2
    have l3:h.nx * 256 < h3.nx * 256 := by have := g3.1; omega
    have s0c := ldS0 b3
    have s2c := ldS2 b3
    have s3c := ldS3 b3
    have s4c := ldS4 b3
    have s5c := ldS5 b3
    have s9c := ldS9 b3
    have s10c := ldS10 b3
    obtain ⟨h4,e4,g4⟩ := he h3
    have b4 := gget g4 l3 b3
    have l4:h.nx * 256 < h4.nx * 256 := by have := g4.1; omega
    have s0d := ldS0 b4
    have s2d := ldS2 b4
    have s3d := ldS3 b4
    have s4d := ldS4 b4
    have s5d := ldS5 b4
    have s9d := ldS9 b4
    have s10d := ldS10 b4
    rw [hbd] at e3
    simp at e3
    rw [hel] at e4
    simp at e4
    refine ⟨h4,?_,(((g1.trans g2).trans g3).trans g4)⟩
    subst hh1
    simp [f63,Fr.keep_cons',Fr.keep_nil,iadv,stepE,el,s0a,s2a,s3a,s4a,s5a,s9a,s10a,s0b,s2b,s3b,s4b,s5b,s9b,s10b,s0c,s2c,s3c,s4c,s5c,s9c,s10c,s0d,s2d,s3d,s4d,s5d,s9d,s10d,en1,ha0,e2,hbd,hel,e3,e4,en,ho,hix]
  · have hix:x.index = [] := hx.ix.resolve_right (fun q => by have := q.1; omega)
    have s0a := ldS0 b1
    have s2a := ldS2 b1
    have s3a := ldS3 b1
    have s4a := ldS4 b1
    have s5a := ldS5 b1
    have s9a := ldS9 b1
    have s10a := ldS10 b1
    have en1 := fun h => E41 m (by omega) x.name (hx.nm (by omega) (by omega) (by omega) (by omega)) h
    have ha0 := hx.ar0 (by omega)
    obtain ⟨h2,e2,g2⟩ := ok_89 m (by omega) x.expr (hx.ex0 (by omega) (by omega) (by omega) (by omega)) h1
    have b2 := gget g2 l1 b1
    have l2:h.nx * 256 < h2.nx * 256 := by have := g2.1; omega
    have s0b := ldS0 b2
    have s2b := ldS2 b2
    have s3b := ldS3 b2
    have s4b := ldS4 b2
    have s5b := ldS5 b2
    have s9b := ldS9 b2
    have s10b := ldS10 b2
    have hbd := hx.bd (by omega)
    have hel := hx.el (by omega)
    obtain ⟨h3,e3,g3⟩ := hb h2
    have b3 := gget g3 l2 b2
    have l3:h.nx * 256 < h3.nx * 256 := by have := g3.1; omega
    have s0c := ldS0 b3
    have s2c := ldS2 b3
    have s3c := ldS3 b3
    have s4c := ldS4 b3
    have s5c := ldS5 b3
    have s9c := ldS9 b3
    have s10c := ldS10 b3
    obtain ⟨h4,e4,g4⟩ := he h3
    have b4 := gget g4 l3 b3
    have l4:h.nx * 256 < h4.nx * 256 := by have := g4.1; omega
    have s0d := ldS0 b4
    have s2d := ldS2 b4
    have s3d := ldS3 b4
    have s4d := ldS4 b4
    have s5d := ldS5 b4
    have s9d := ldS9 b4
    have s10d := ldS10 b4
    rw [hbd] at e3
    simp at e3
    rw [hel] at e4
    simp at e4
    refine ⟨h4,?_,(((g1.trans g2).trans g3).trans g4)⟩
    subst hh1
    simp [f63,Fr.keep_cons',Fr.keep_nil,iadv,stepE,el,s0a,s2a,s3a,s4a,s5a,s9a,s10a,s0b,s2b,s3b,s4b,s5b,s9b,s10b,s0c,s2c,s3c,s4c,s5c,s9c,s10c,s0d,s2d,s3d,s4d,s5d,s9d,s10d,en1,ha0,e2,hbd,hel,e3,e4,en,ho,hix]
  · have hix:x.index = [] := hx.ix.resolve_right (fun q => by have := q.1; omega)
    have s0a := ldS0 b1
    have s2a := ldS2 b1
    have s3a := ldS3 b1
    have s4a := ldS4 b1
    have s5a := ldS5 b1
    have s9a := ldS9 b1
    have s10a := ldS10 b1
    have en1 := fun h => E41 m (by omega) x.name (hx.nm (by omega) (by omega) (by omega) (by omega)) h
    have ha0 := hx.ar0 (by omega)
    obtain ⟨h2,e2,g2⟩ := ok_89 m (by omega) x.expr (hx.ex0 (by omega) (by omega) (by omega) (by omega)) h1
    have b2 := gget g2 l1 b1
    have l2:h.nx * 256 < h2.nx * 256 := by have := g2.1; omega
    have s0b := ldS0 b2
    have s2b := ldS2 b2
    have s3b := ldS3 b2
    have s4b := ldS4 b2
    have s5b := ldS5 b2
    have s9b := ldS9 b2
    have s10b := ldS10 b2
    have hbd := hx.bd (by omega)
    have hel := hx.el (by omega)
    obtain ⟨h3,e3,g3⟩ := hb h2
    have b3 := gget g3 l2 b2
    have l3:h.nx * 256 < h3.nx * 256 := by have := g3.1; omega
    have s0c := ldS0 b3
    have s2c := ldS2 b3
    have s3c := ldS3 b3
    have s4c := ldS4 b3
    have s5c := ldS5 b3
    have s9c := ldS9 b3
    have s10c := ldS10 b3
    obtain ⟨h4,e4,g4⟩ := he h3
    have b4 := gget g4 l3 b3
    have l4:h.nx * 256 < h4.nx * 256 := by have := g4.1; omega
    have s0d := ldS0 b4
    have s2d := ldS2 b4
    have s3d := ldS3 b4
    have s4d := ldS4 b4
    have s5d := ldS5 b4
    have s9d := ldS9 b4
    have s10d := ldS10 b4
    rw [hbd] at e3
    simp at e3
    rw [hel] at e4
    simp at e4
    refine ⟨h4,?_,(((g1.trans g2).trans g3).trans g4)⟩
    subst hh1
    simp [f63,Fr.keep_cons',Fr.keep_nil,iadv,stepE,el,s0a,s2a,s3a,s4a,s5a,s9a,s10a,s0b,s2b,s3b,s4b,s5b,s9b,s10b,s0c,s2c,s3c,s4c,s5c,s9c,s10c,s0d,s2d,s3d,s4d,s5d,s9d,s10d,en1,ha0,e2,hbd,hel,e3,e4,en,ho,hix]
  · have hix:x.index = [] := hx.ix.resolve_right (fun q => by have := q.1; omega)
    have s0a := ldS0 b1
    have s2a := ldS2 b1
    have s3a := ldS3 b1
    have s4a := ldS4 b1
    have s5a := ldS5 b1
    have s9a := ldS9 b1
    have s10a := ldS10 b1
    have en1 := fun h => E41 m (by omega) x.name (hx.nm (by omega) (by omega) (by omega) (by omega)) h
    have ha0 := hx.ar0 (by omega)
    obtain ⟨h2,e2,g2⟩ := E88 m (by omega) x.expr (hx.ex (by omega)) h1
    have b2 := gget g2 l1 b1
    have l2:h.nx * 256 < h2.nx * 256 := by have := g2.1; omega
    have s0b := ldS0 b2
    have s2b := ldS2 b2
    have s3b := ldS3 b2
    have s4b := ldS4 b2
    have s5b := ldS5 b2
    have s9b := ldS9 b2
    have s10b := ldS10 b2
    have hbd := hx.bd (by omega)
    have hel := hx.el (by omega)
    obtain ⟨h3,e3,g3⟩ := hb h2
    have b3 := gget g3 l2 b2
    have l3:h.nx * 256 < h3.nx * 256 := by have := g3.1; omega
    have s0c := ldS0 b3
    have s2c := ldS2 b3
    have s3c := ldS3 b3
    have s4c := ldS4 b3
    have s5c := ldS5 b3
    have s9c := ldS9 b3
    have s10c := ldS10 b3
    obtain ⟨h4,e4,g4⟩ := he h3
    have b4 := gget g4 l3 b3
    have l4:h.nx * 256 < h4.nx * 256 := by have := g4.1; omega
    have s0d := ldS0 b4
    have s2d := ldS2 b4
    have s3d := ldS3 b4
    have s4d := ldS4 b4
    have s5d := ldS5 b4
    have s9d := ldS9 b4
    have s10d := ldS10 b4
    rw [hbd] at e3
    simp at e3
    rw [hel] at e4
    simp at e4
    refine ⟨h4,?_,(((g1.trans g2).trans g3).trans g4)⟩
    subst hh1
    simp [f63,Fr.keep_cons',Fr.keep_nil,iadv,stepE,el,s0a,s2a,s3a,s4a,s5a,s9a,s10a,s0b,s2b,s3b,s4b,s5b,s9b,s10b,s0c,s2c,s3c,s4c,s5c,s9c,s10c,s0d,s2d,s3d,s4d,s5d,s9d,s10d,en1,ha0,e2,hbd,hel,e3,e4,en,ho,hix]
  · have hix:x.index = [] := hx.ix.resolve_right (fun q => by have := q.1; omega)
    have s0a := ldS0 b1
    have s2a := ldS2 b1
    have s3a := ldS3 b1
    have s4a := ldS4 b1
    have s5a := ldS5 b1
    have s9a := ldS9 b1
    have s10a := ldS10 b1
    have en1 := fun h => E41 m (by omega) x.name (hx.nm (by omega) (by omega) (by omega) (by omega)) h
    have en2 := fun h => E41 m (by omega) x.arg (hx.ar ho) h
    obtain ⟨h2,e2,g2⟩ := ok_89 m (by omega) x.expr (hx.ex0 (by omega) (by omega) (by omega) (by omega)) h1
    have b2 := gget g2 l1 b1
    have l2:h.nx * 256 < h2.nx * 256 := by have := g2.1; omega
    have s0b := ldS0 b2
    have s2b := ldS2 b2
    have s3b := ldS3 b2
    have s4b := ldS4 b2
    have s5b := ldS5 b2
    have s9b := ldS9 b2
    have s10b := ldS10 b2
    have hbd := hx.bd (by omega)
    have hel := hx.el (by omega)
    obtain ⟨h3,e3,g3⟩ := hb h2
    have b3 := gget g3 l2 b2
    have l3:h.nx * 256 < h3.nx * 256 := by have := g3.1; omega
    have s0c := ldS0 b3
    have s2c := ldS2 b3
    have s3c := ldS3 b3
    have s4c := ldS4 b3
    have s5c := ldS5 b3
    have s9c := ldS9 b3
    have s10c := ldS10 b3
    obtain ⟨h4,e4,g4⟩ := he h3
    have b4 := gget g4 l3 b3
    have l4:h.nx * 256 < h4.nx * 256 := by have := g4.1; omega
    have s0d := ldS0 b4
    have s2d := ldS2 b4
    have s3d := ldS3 b4
    have s4d := ldS4 b4
    have s5d := ldS5 b4
    have s9d := ldS9 b4
    have s10d := ldS10 b4
    rw [hbd] at e3
    simp at e3
    rw [hel] at e4
    simp at e4
    refine ⟨h4,?_,(((g1.trans g2).trans g3).trans g4)⟩
    subst hh1
    simp [f63,Fr.keep_cons',Fr.keep_nil,iadv,stepE,el,s0a,s2a,s3a,s4a,s5a,s9a,s10a,s0b,s2b,s3b,s4b,s5b,s9b,s10b,s0c,s2c,s3c,s4c,s5c,s9c,s10c,s0d,s2d,s3d,s4d,s5d,s9d,s10d,en1,en2,e2,hbd,hel,e3,e4,en,ho,hix]
structure I30 (f:Bool) (l:List Stmt) (h0:H) (i:Nat) (fr:Fr) (k:H):Prop where
  gr:Grow h0 k
  t5:Fr.get fr 5 = some (.sl f (l.map Stmt.v))
  t6:Fr.get fr 6 = some (.int .i64 l.length)
  t7:Fr.get fr 7 = some (.int .i64 i)
theorem ok_30' (d:Nat):∀ (f:Bool) (l:List Stmt) (_:Stmt.cntL l ≤ d) (_:allL Stmt.Own l) (n:Nat) (_:4294967410 + 2 * d ≤ n) (_:Stmt.cntL l < 2 ^ 31) (h:H),∃ h',call fns n 30 [.sl f (l.map Stmt.v)] h = some (.bool true,h') ∧ Grow h h' := by
  induction d with
  | zero =>
    intro f l hd hfit n hn hcl h
    have:l = [] := by have := len_cntL l; cases l <;> simp_all
    subst this
    obtain ⟨m,rfl⟩:∃ m,n = m + 1 := ⟨n - 1,by omega⟩
    obtain ⟨m,rfl⟩:∃ k,m = k + 1 := ⟨m - 1,by omega⟩
    refine ⟨h,?_,Grow.refl _⟩
    rw [call_succ]
    show call1 (call fns (m + 1)) (m + 1) f30 _ _ = _
    simp [f30,Fr.keep_cons',Fr.keep_nil,b30_0,loopN]
  | succ d ih =>
    intro f l hd hfit n hn hcl h
    obtain ⟨m,rfl⟩:∃ m,n = m + 2 := ⟨n - 2,by omega⟩
    have hlen := len_cntL l
    have L := loopN_ind (b := exec (call fns (m + 1)) (m + 1) b30_0) (n := l.length) (I := I30 f l h) (Q := fun y fr' k' => y = .brk 0 ∧ Grow h k')
      (fun i fr k hi hI => by
        obtain ⟨x,hx⟩:∃ x,l[i]? = some x := ⟨_,List.getElem?_eq_getElem hi⟩
        have hxf := (allS_eq _ x).1 (allL_at hfit hx)
        have hcm := cnt_mem l i x hx
        have hce := Stmt.cnt_eq x
        obtain ⟨gr,t5,t6,t7⟩ := hI
        have hi':(i:Int) < (l.length:Int) := by omega
        have hwi:wrp .i64 ((i:Int) + 1) = (i:Int) + 1 := wrp_i64 (by omega) (by omega)
        have ed := ld_106 x
        have el := len_106 x
        let k0:H := (({ k with nx := k.nx + 1 }:H).set (k.nx * 256 + 2) (.row [zeroS] 11 .rw))
        let k1:H := k0.set (k.nx * 256 + 2) (.row [x.v] 11 .rw)
        have g1:Grow k k1 := (((Grow.refl k).up (k.nx + 1) (by omega)).set (by omega) _).set (by omega) _
        have es:stv k0 11 (.ptr (k.nx * 256 + 2) 0 0) x.v = some k1 := stvS0 (by simp [k0,H.get_set])
        have b1:k1.get (k.nx * 256 + 2) = some (.row [x.v] 11 .rw) := by simp [k1,H.get_set]
        have ka := ldSa b1
        simp only [k0,zeroS] at es
        obtain ⟨k2,e2,g2⟩ := ok_54 m (by omega) x hxf.1 (ih x.fb x.body (by omega) hxf.2.1 m (by omega) (by omega)) (ih x.fe x.els (by omega) hxf.2.2 m (by omega) (by omega)) k1
        refine .inl ?_
        simp [b30_0,iadv,stepE,cells_agg,t5,t6,t7,hi',hx,ed,el,es,ka,e2,hwi]
        exact ⟨_,_,⟨rfl,rfl⟩,gr.trans (g1.trans g2),by simp [t5],by simp [t6],by simp⟩)
      (fun fr k hI => by
        obtain ⟨gr,t5,t6,t7⟩ := hI
        obtain ⟨fr',e⟩:∃ fr',exec (call fns (m + 1)) (m + 1) b30_0 fr k = some (.brk 0,fr',k) := by
          simp [b30_0,t5,t6,t7]
        exact ⟨.brk 0,fr',k,by simp,e,rfl,gr⟩)
      l.length 0 (by omega) (by omega) (m + 1) (by omega)
    obtain ⟨fr3,e3,i3⟩:∃ fr3,exec (call fns (m + 1)) (m + 1) (.seq s30_0 p30_1) (enter 0 [.sl f (l.map Stmt.v)]) h = some (.norm,fr3,h) ∧ I30 f l h 0 fr3 h := by
      simp [s30_0,p30_1,Fr.keep_cons',Fr.keep_nil]
      exact ⟨Grow.refl _,by simp,by simp,by simp⟩
    obtain ⟨y,fr4,h4,e4,rfl,g4⟩ := L fr3 h i3
    refine ⟨h4,?_,g4⟩
    rw [call_succ]
    show call1 (call fns (m + 1)) (m + 1) f30 _ _ = _
    have q:exec (call fns (m + 1)) (m + 1) f30.body (enter 0 [.sl f (l.map Stmt.v)]) h = exec (call fns (m + 1)) (m + 1) (.seq s30_2 s30_3) fr4 h4 := by
      rw [body_30,seg_30_1]
      exact glue2 e3 (exec_brk e4)
    unfold call1
    rw [q]
    simp [s30_2,s30_3,iadv,ldv,cut,mk,V.cells,res_30,fz_30]
structure I42 (f:Bool) (l:List Stmt) (h0:H) (i:Nat) (fr:Fr) (k:H):Prop where
  gr:Grow h0 k
  t0:Fr.get fr 0 = some (.sl f (l.map Stmt.v))
  t3:Fr.get fr 3 = some (.int .i64 i)
theorem ok_42' (d:Nat):∀ (f:Bool) (l:List Stmt) (_:Stmt.cntL l ≤ d) (_:allL Stmt.Own l) (n:Nat) (_:4294967410 + 2 * d ≤ n) (_:Stmt.cntL l < 2 ^ 31) (h:H),∃ h',call fns n 42 [.sl f (l.map Stmt.v)] h = some (.bool true,h') ∧ Grow h h' := by
  induction d with
  | zero =>
    intro f l hd hfit n hn hcl h
    have:l = [] := by have := len_cntL l; cases l <;> simp_all
    subst this
    obtain ⟨m,rfl⟩:∃ m,n = m + 1 := ⟨n - 1,by omega⟩
    obtain ⟨m,rfl⟩:∃ k,m = k + 1 := ⟨m - 1,by omega⟩
    refine ⟨h,?_,Grow.refl _⟩
    rw [call_succ]
    show call1 (call fns (m + 1)) (m + 1) f42 _ _ = _
    simp [f42,Fr.keep_cons',Fr.keep_nil,b42_0,loopN]
  | succ d ih =>
    intro f l hd hfit n hn hcl h
    obtain ⟨m,rfl⟩:∃ m,n = m + 2 := ⟨n - 2,by omega⟩
    have hlen := len_cntL l
    have L := loopN_ind (b := exec (call fns (m + 1)) (m + 1) b42_0) (n := l.length) (I := I42 f l h) (Q := fun y fr' k' => y = .brk 0 ∧ Grow h k')
      (fun i fr k hi hI => by
        obtain ⟨x,hx⟩:∃ x,l[i]? = some x := ⟨_,List.getElem?_eq_getElem hi⟩
        have hxf := (allS_eq _ x).1 (allL_at hfit hx)
        have hcm := cnt_mem l i x hx
        have hce := Stmt.cnt_eq x
        obtain ⟨gr,t0,t3⟩ := hI
        have hi':(i:Int) < (l.length:Int) := by omega
        have hwi:wrp .i64 ((i:Int) + 1) = (i:Int) + 1 := wrp_i64 (by omega) (by omega)
        have ed := ld_106 x
        have el := len_106 x
        obtain ⟨k2,e2,g2⟩ := ok_63 m (by omega) x hxf.1 (ih x.fb x.body (by omega) hxf.2.1 m (by omega) (by omega)) (ih x.fe x.els (by omega) hxf.2.2 m (by omega) (by omega)) k
        refine .inl ?_
        simp [b42_0,iadv,stepE,cells_agg,t0,t3,hi',hx,ed,el,e2,hwi]
        exact ⟨_,_,⟨rfl,rfl⟩,gr.trans g2,by simp [t0],by simp⟩)
      (fun fr k hI => by
        obtain ⟨gr,t0,t3⟩ := hI
        obtain ⟨fr',e⟩:∃ fr',exec (call fns (m + 1)) (m + 1) b42_0 fr k = some (.brk 0,fr',k) := by
          simp [b42_0,t0,t3]
        exact ⟨.brk 0,fr',k,by simp,e,rfl,gr⟩)
      l.length 0 (by omega) (by omega) (m + 1) (by omega)
    obtain ⟨fr3,e3,i3⟩:∃ fr3,exec (call fns (m + 1)) (m + 1) (.seq s42_0 p42_1) (enter 0 [.sl f (l.map Stmt.v)]) h = some (.norm,fr3,h) ∧ I42 f l h 0 fr3 h := by
      simp [s42_0,p42_1,Fr.keep_cons',Fr.keep_nil]
      exact ⟨Grow.refl _,by simp,by simp⟩
    obtain ⟨y,fr4,h4,e4,rfl,g4⟩ := L fr3 h i3
    refine ⟨h4,?_,g4⟩
    rw [call_succ]
    show call1 (call fns (m + 1)) (m + 1) f42 _ _ = _
    have q:exec (call fns (m + 1)) (m + 1) f42.body (enter 0 [.sl f (l.map Stmt.v)]) h = exec (call fns (m + 1)) (m + 1) (.seq s42_2 s42_3) fr4 h4 := by
      rw [body_42,seg_42_1]
      exact glue2 e3 (exec_brk e4)
    unfold call1
    rw [q]
    simp [s42_2,s42_3,iadv,ldv,cut,mk,V.cells,res_42,fz_42]
structure Thread.Shaped (x:Thread):Prop where
  nm:NameOk x.name
  lc:∀ s,s ∈ x.locals → NameOk s
  ll:x.locals.length < 1000
  bd:allL Stmt.Own x.body
  sz:Stmt.cntL x.body < 2 ^ 30
structure Prog.Shaped (p:Prog):Prop where
  sm:p.Small
  ds:∀ d,d ∈ p.decls → d.Shaped
  ts:∀ x,x ∈ p.threads → x.Shaped
  ne:p.threads ≠ []
end Go.Proofs.Ytakahhnlbciicaa.Cl
