/-
  What the functions answer, in the evaluator's form. By an AI agent; no person has read it.
-/
import Derived.Test.YtakahhnlbciicaaClIr
set_option linter.unusedSimpArgs false
set_option linter.unusedVariables false
set_option linter.unusedSectionVars false
namespace Go.Proofs.Ytakahhnlbciicaa.Cl
open Go Go.Proofs.Ytakahhnlbciicaa.Ai
set_option maxRecDepth 100000
set_option maxHeartbeats 4000000

theorem wrp_u8 {n:Int} (h0:0 ≤ n) (h1:n ≤ 255):wrp .u8 n = n := by
  unfold wrp
  exact IntWalk.u8_in n ⟨h0,h1⟩
/-- A byte that may not stand at a place of a name. -/
def badAt (s:List Nat) (i:Nat):Bool := match s[i]? with
  | some c => !isInner c || (decide (i = 0) && !isLetter c)
  | none => false
/-- P1: names. -/
def isName (s:List Nat):Bool := (List.range s.length).all (fun i => !badAt s i) && (decide (1 ≤ s.length) && (decide (s.length ≤ 12) && !isKw s))
def Ascii (s:List Nat):Prop := ∀ c,c ∈ s → c < 128

structure I29 (s:List Nat) (h0:H) (id:Nat) (i:Nat) (fr:Fr) (h:H):Prop where
  t0:Fr.get fr 0 = some (.str s)
  t6:Fr.get fr 6 = some (.ptr id 0 0)
  it:h.get id = some (.iter s i)
  nx:h.nx = h0.nx + 1
  gr:Grow h0 h
theorem loop29 (m:Nat) (hm:2 ≤ m) (s:List Nat) (ha:Ascii s) (hs:s.length < 2 ^ 31) (h0:H) (id:Nat) (hid:h0.nx * 256 ≤ id) (k:Nat) (hk:s.length < k) (fr:Fr) (h:H) (hI:I29 s h0 id 0 fr h) :
    (∃ i fr' h',i < s.length ∧ badAt s i = true ∧ (∀ j,j < i → badAt s j = false) ∧ loopN (exec (call fns m) m b29_0) k fr h = some (.ret,fr',h') ∧ Fr.get fr' 2 = some (.bool false) ∧ Grow h0 h') ∨
    ((∀ j,j < s.length → badAt s j = false) ∧ ∃ fr' h',loopN (exec (call fns m) m b29_0) k fr h = some (.brk 0,fr',h') ∧ Fr.get fr' 0 = some (.str s) ∧ Grow h0 h') := by
  refine loopN_find (inv := I29 s h0 id) (P := badAt s) (Q := fun _ fr' h' => Fr.get fr' 2 = some (.bool false) ∧ Grow h0 h') (R := fun fr' h' => Fr.get fr' 0 = some (.str s) ∧ Grow h0 h') (d := 0) ?_ ?_ ?_ k hk fr h hI
  · intro i fr h hi hI hp
    obtain ⟨t0,t6,it,nx,gr⟩ := hI
    obtain ⟨c,hx⟩:∃ c,s[i]? = some c := ⟨_,List.getElem?_eq_getElem hi⟩
    have hc:c < 128 := ha c (List.mem_of_getElem? hx)
    have e51 := fun c h => ok_51 m (by omega) c h
    have e52 := fun c h => ok_52 m (by omega) c h
    have hw:wrp .u8 (c:Int) = (c:Int) := wrp_u8 (by omega) (by omega)
    have h127:¬ (127:Int) < (c:Int) := by omega
    have g2:Grow h0 (h.set id (.iter s (i + 1))) := gr.set hid _
    simp only [badAt,hx] at hp
    cases h1:isInner c
    · cases i with
      | zero => cases h2:isLetter c <;> simp [b29_0,iadv,ldv,cut,mk,V.cells,t0,t6,it,nxtv,hx,hc,e51,e52,hw,h127,h1,h2] <;> exact ⟨_,_,⟨rfl,rfl⟩,by simp,g2⟩
      | succ i =>
        have hne:¬ ((i:Int) + 1 = 0) := by omega
        simp [b29_0,iadv,ldv,cut,mk,V.cells,t0,t6,it,nxtv,hx,hc,e51,e52,hw,h127,h1,hne]
        exact ⟨_,_,⟨rfl,rfl⟩,by simp,g2⟩
    · rw [h1] at hp
      obtain ⟨rfl,h2⟩:i = 0 ∧ isLetter c = false := by simpa using hp
      simp [b29_0,iadv,ldv,cut,mk,V.cells,t0,t6,it,nxtv,hx,hc,e51,e52,hw,h127,h1,h2]
      exact ⟨_,_,⟨rfl,rfl⟩,by simp,g2⟩
  · intro i fr h hi hI hp
    obtain ⟨t0,t6,it,nx,gr⟩ := hI
    obtain ⟨c,hx⟩:∃ c,s[i]? = some c := ⟨_,List.getElem?_eq_getElem hi⟩
    have hc:c < 128 := ha c (List.mem_of_getElem? hx)
    have e51 := fun c h => ok_51 m (by omega) c h
    have e52 := fun c h => ok_52 m (by omega) c h
    have hw:wrp .u8 (c:Int) = (c:Int) := wrp_u8 (by omega) (by omega)
    have h127:¬ (127:Int) < (c:Int) := by omega
    have g2:Grow h0 (h.set id (.iter s (i + 1))) := gr.set hid _
    simp only [badAt,hx] at hp
    have h1:isInner c = true := by cases h:isInner c <;> simp_all
    cases i with
    | zero =>
      have h2:isLetter c = true := by simpa [h1] using hp
      simp [b29_0,iadv,ldv,cut,mk,V.cells,t0,t6,it,nxtv,hx,hc,e51,e52,hw,h127,h1,h2]
      exact ⟨_,_,⟨rfl,rfl⟩,by simp [t0],by simp [t6],by simp [H.get_set],by simp [nx],g2⟩
    | succ i =>
      have hne:¬ ((i:Int) + 1 = 0) := by omega
      simp [b29_0,iadv,ldv,cut,mk,V.cells,t0,t6,it,nxtv,hx,hc,e51,e52,hw,h127,h1,hne]
      exact ⟨_,_,⟨rfl,rfl⟩,by simp [t0],by simp [t6],by simp [H.get_set],by simp [nx],g2⟩
  · intro fr h hI
    obtain ⟨t0,t6,it,nx,gr⟩ := hI
    have hx:s[s.length]? = none := by simp
    simp [b29_0,iadv,ldv,cut,mk,V.cells,t0,t6,it,nxtv,hx]
    exact ⟨_,_,⟨rfl,rfl⟩,by simp [t0],gr⟩

theorem isName_bad {s:List Nat} {i:Nat} (hi:i < s.length) (h:badAt s i = true):isName s = false := by
  unfold isName
  have:(List.range s.length).all (fun i => !badAt s i) = false := by
    rw [List.all_eq_false]
    exact ⟨i,List.mem_range.2 hi,by simp [h]⟩
  simp [this]
theorem isName_good {s:List Nat} (h:∀ j,j < s.length → badAt s j = false):isName s = (decide (1 ≤ s.length) && (decide (s.length ≤ 12) && !isKw s)) := by
  unfold isName
  have:(List.range s.length).all (fun i => !badAt s i) = true := by
    rw [List.all_eq_true]
    intro i hi
    simp [h i (List.mem_range.1 hi)]
  simp [this]

theorem ok_29 (n:Nat) (s:List Nat) (hn:s.length + 4 ≤ n) (ha:Ascii s) (hs:s.length < 2 ^ 31) (h:H):∃ h',call fns n 29 [.str s] h = some (.bool (isName s),h') ∧ Grow h h' := by
  obtain ⟨m,rfl⟩:∃ m,n = m + 1 := ⟨n - 1,by omega⟩
  have e53 := fun s h => ok_53 m (by omega) s h
  rw [call_succ]
  show ∃ h',call1 (call fns m) m f29 _ _ = _ ∧ _
  have L := loop29 m (by omega) s ha hs h (h.nx * 256 + 1) (by omega) m (by omega) [(6,.ptr (h.nx * 256 + 1) 0 0),(2,.bool false),(0,.str s)]
    (({ h with nx := h.nx + 1 }:H).set (h.nx * 256 + 1) (.iter s 0)) ⟨by simp,by simp,by simp [H.get_set],by simp,((Grow.refl h).up (h.nx + 1) (by omega)).set (by omega) _⟩
  rcases L with ⟨i,fr',h',hi,hb,_,e,q,g⟩ | ⟨hj,fr',h',e,t0,g⟩
  · refine ⟨h',?_,g⟩
    rw [isName_bad hi hb]
    simp [f29,Fr.keep_cons',Fr.keep_nil,stepE,e,q]
  · refine ⟨h',?_,g⟩
    rw [isName_good hj]
    rcases Nat.lt_or_ge s.length 1 with h1 | h1 <;> rcases Nat.lt_or_ge 12 s.length with h2 | h2
    · omega
    · have g1:¬ (1:Int) ≤ (s.length:Int) := by omega
      have k1:¬ 1 ≤ s.length := by omega
      simp [f29,Fr.keep_cons',Fr.keep_nil,stepE,e,t0,e53,g1,k1]
    · have g1:(1:Int) ≤ (s.length:Int) := by omega
      have g2:¬ (s.length:Int) ≤ 12 := by omega
      have k1:1 ≤ s.length := by omega
      have k2:¬ s.length ≤ 12 := by omega
      simp [f29,Fr.keep_cons',Fr.keep_nil,stepE,e,t0,e53,g1,g2,k1,k2]
    · have g1:(1:Int) ≤ (s.length:Int) := by omega
      have g2:(s.length:Int) ≤ 12 := by omega
      have k1:1 ≤ s.length := by omega
      have k2:s.length ≤ 12 := by omega
      simp [f29,Fr.keep_cons',Fr.keep_nil,stepE,e,t0,e53,g1,g2,k1,k2]

/-- The same in the reference's order. -/
theorem isName_cons (c:Nat) (l:List Nat):isName (c :: l) = (decide (l.length ≤ 11) && (isLetter c && (!isKw (c :: l) && (c :: l).all fun x => isInner x))) := by
  cases hl:isLetter c with
  | false =>
    rw [isName_bad (i := 0) (by simp) (by simp [badAt,hl])]
    simp
  | true =>
    cases ha:((c :: l).all fun x => isInner x) with
    | false =>
      obtain ⟨x,hx,hb⟩ := List.all_eq_false.1 ha
      obtain ⟨i,hi,rfl⟩ := List.getElem_of_mem hx
      rw [isName_bad (i := i) hi (by simp [badAt,List.getElem?_eq_getElem hi]; left; simpa using hb)]
      simp
    | true =>
      rw [isName_good]
      · cases isKw (c :: l) <;> simp
      · intro j hj
        have hx := List.all_eq_true.1 ha _ (List.getElem_mem hj)
        simp only [badAt,List.getElem?_eq_getElem hj,hx]
        cases j with
        | zero => simp [hl]
        | succ j => simp

structure I41 (s:List Nat) (h0:H) (i:Nat) (fr:Fr) (h:H):Prop where
  e:h = h0
  t0:Fr.get fr 0 = some (.str s)
  t3:Fr.get fr 3 = some (.int .i64 i)
theorem loop41 (m:Nat) (hm:2 ≤ m) (s:List Nat) (hs:s.length < 2 ^ 31) (h0:H) (k:Nat) (hk:s.length < k) (fr:Fr) (hI:I41 s h0 0 fr h0) :
    (∃ fr',(s.all fun x => isInner x) = false ∧ loopN (exec (call fns m) m b41_0) k fr h0 = some (.ret,fr',h0) ∧ Fr.get fr' 2 = some (.bool false)) ∨
    (∃ fr',(s.all fun x => isInner x) = true ∧ loopN (exec (call fns m) m b41_0) k fr h0 = some (.brk 0,fr',h0)) := by
  have e62 := fun c h => ok_62 m (by omega) c h
  have := loopN_find (b := exec (call fns m) m b41_0) (n := s.length) (inv := I41 s h0) (P := fun i => match s[i]? with | some c => !isInner c | none => false) (Q := fun _ fr' h' => h' = h0 ∧ Fr.get fr' 2 = some (.bool false)) (R := fun fr' h' => h' = h0) (d := 0)
    (fun i fr h hi hI hp => by
      obtain ⟨rfl,t0,t3⟩ := hI
      obtain ⟨x,hx⟩:∃ x,s[i]? = some x := ⟨_,List.getElem?_eq_getElem hi⟩
      have hi':(i:Int) < (s.length:Int) := by omega
      have hp':isInner x = false := by simpa [hx] using hp
      simp [b41_0,iadv,ldv,cut,mk,V.cells,t0,t3,hi',hx,hp',e62]
      exact ⟨_,_,⟨rfl,rfl⟩,rfl,by simp⟩)
    (fun i fr h hi hI hp => by
      obtain ⟨rfl,t0,t3⟩ := hI
      obtain ⟨x,hx⟩:∃ x,s[i]? = some x := ⟨_,List.getElem?_eq_getElem hi⟩
      have hi':(i:Int) < (s.length:Int) := by omega
      have hp':isInner x = true := by simpa [hx] using hp
      have hw:wrp .i64 ((i:Int) + 1) = (i:Int) + 1 := wrp_i64 (by omega) (by omega)
      simp [b41_0,iadv,ldv,cut,mk,V.cells,t0,t3,hi',hx,hp',e62,hw]
      exact ⟨_,_,⟨rfl,rfl⟩,rfl,by simp [t0],by simp⟩)
    (fun fr h hI => by
      obtain ⟨rfl,t0,t3⟩ := hI
      simp [b41_0,iadv,ldv,cut,mk,V.cells,t0,t3])
    k hk fr h0 hI
  rcases this with ⟨i,fr',h',hi,hp,_,e,rfl,q⟩ | ⟨hj,fr',h',e,rfl⟩
  · refine .inl ⟨fr',?_,e,q⟩
    rw [List.all_eq_false]
    refine ⟨s[i],List.getElem_mem hi,?_⟩
    simpa [List.getElem?_eq_getElem hi] using hp
  · refine .inr ⟨fr',?_,e⟩
    rw [List.all_eq_true]
    intro x hx
    obtain ⟨i,hi,rfl⟩ := List.getElem_of_mem hx
    simpa [List.getElem?_eq_getElem hi] using hj i hi
theorem ok_41 (n:Nat) (s:List Nat) (hn:s.length + 40 ≤ n) (hs:s.length < 2 ^ 31) (h:H):call fns n 41 [.str s] h = some (.bool (isName s),h) := by
  obtain ⟨m,rfl⟩:∃ m,n = m + 1 := ⟨n - 1,by omega⟩
  have e60 := fun c h => ok_60 m (by omega) c h
  have e61 := fun s h => ok_61 m (by omega) s h
  rw [call_succ]
  show call1 (call fns m) m f41 _ _ = _
  cases s with
  | nil => simp [f41,Fr.keep_cons',Fr.keep_nil,isName]
  | cons c l =>
    rw [isName_cons]
    rcases Nat.lt_or_ge 11 l.length with h1 | h1
    · have g1:¬ ((l.length:Int) + 1 < 1) := by omega
      have g2:(12:Int) < (l.length:Int) + 1 := by omega
      have k2:¬ l.length ≤ 11 := by omega
      simp [f41,Fr.keep_cons',Fr.keep_nil,g1,g2,k2]
    · have g1:¬ ((l.length:Int) + 1 < 1) := by omega
      have g2:¬ (12:Int) < (l.length:Int) + 1 := by omega
      cases h2:isLetter c with
      | false => simp [f41,Fr.keep_cons',Fr.keep_nil,g1,g2,e60,h2]
      | true =>
        cases h3:isKw (c :: l) with
        | true => simp [f41,Fr.keep_cons',Fr.keep_nil,g1,g2,e60,h2,e61,h3]
        | false =>
          have L := loop41 m (by omega) (c :: l) hs h m (by omega) [(3,.int .i64 0),(21,.bool false),(2,.bool false),(0,.str (c :: l))] ⟨rfl,by simp,by simp⟩
          rcases L with ⟨fr',ha,e,q⟩ | ⟨fr',ha,e⟩
          · rw [ha]
            simp [f41,Fr.keep_cons',Fr.keep_nil,g1,g2,e60,h2,e61,h3,e,q]
          · rw [ha]
            simp [f41,Fr.keep_cons',Fr.keep_nil,g1,g2,e60,h2,e61,h3,e,h1]

/-! ### Programs,and how they lie in values -/

structure Decl where
  kind:Int
  line:Int
  name:List Nat
  size:Int
  init:Int
  on:List Nat
def Decl.v (d:Decl):V := .agg [.int .i64 d.kind,.int .i64 d.line,.str d.name,.int .i64 d.size,.int .i64 d.init,.str d.on]

/-- An expression; `full`: its slice has no room behind it. -/
inductive Expr where
  | mk (op n:Int) (name:List Nat) (full:Bool) (l:List Expr)
mutual
def Expr.cs:Expr → List V
  | .mk op n name full l => [.int .i64 op,.int .i64 n,.str name,.sl full (Expr.vs l)]
def Expr.vs:List Expr → List V
  | [] => []
  | e :: l => .agg (Expr.cs e) :: Expr.vs l
end
def Expr.v (e:Expr):V := .agg e.cs
theorem Expr.vs_map:∀ l,Expr.vs l = l.map Expr.v
  | [] => rfl
  | e :: l => by simp [Expr.vs,Expr.vs_map l,Expr.v]

inductive Stmt where
  | mk (op line:Int) (name arg:List Nat) (fi:Bool) (index:List Expr) (expr:Expr) (fb:Bool) (body:List Stmt) (fe:Bool) (els:List Stmt)
mutual
def Stmt.v:Stmt → V
  | .mk op line name arg fi index expr fb body fe els => .agg ([.int .i64 op,.int .i64 line,.str name,.str arg,.sl fi (index.map Expr.v)] ++ expr.cs ++ [.sl fb (Stmt.vs body),.sl fe (Stmt.vs els)])
def Stmt.vs:List Stmt → List V
  | [] => []
  | s :: l => Stmt.v s :: Stmt.vs l
end
theorem Stmt.vs_map:∀ l,Stmt.vs l = l.map Stmt.v
  | [] => rfl
  | s :: l => by simp [Stmt.vs,Stmt.vs_map l]

structure Thread where
  name:List Nat
  line:Int
  fl:Bool
  locals:List (List Nat)
  fb:Bool
  body:List Stmt
def Thread.v (t:Thread):V := .agg [.str t.name,.int .i64 t.line,.sl t.fl (t.locals.map .str),.sl t.fb (t.body.map Stmt.v)]

structure Prog where
  fd:Bool
  decls:List Decl
  ft:Bool
  threads:List Thread
def Prog.v (p:Prog):V := .agg [.sl p.fd (p.decls.map Decl.v),.sl p.ft (p.threads.map Thread.v)]

/-- The place of the first that fits,or -1. -/
def idxOf {α:Type} (p:α → Bool):List α → Nat → Int
  | [],_ => -1
  | x :: l,k => if p x then (k:Int) else idxOf p l (k + 1)
theorem idxOf_hit {α:Type} {p:α → Bool}:∀ {l:List α} {k i:Nat} (hi:i < l.length),p l[i] = true → (∀ j (hj:j < i),p (l[j]'(by omega)) = false) → idxOf p l k = ((k + i:Nat):Int)
  | [],_,_,hi,_,_ => by simp at hi
  | x :: l,k,0,_,h1,_ => by simp at h1; simp [idxOf,h1]
  | x :: l,k,i + 1,hi,h1,h2 => by
    have hx:p x = false := by simpa using h2 0 (by omega)
    simp only [idxOf,hx]
    have := idxOf_hit (l := l) (k := k + 1) (i := i) (by simpa using hi) (by simpa using h1) (fun j hj => by simpa using h2 (j + 1) (by omega))
    simp only [Bool.false_eq_true,if_false]
    rw [this]
    congr 1; omega
theorem idxOf_none {α:Type} {p:α → Bool}:∀ {l:List α} {k:Nat},(∀ j (hj:j < l.length),p l[j] = false) → idxOf p l k = -1
  | [],_,_ => rfl
  | x :: l,k,h => by
    have hx:p x = false := h 0 (Nat.succ_pos _)
    simp only [idxOf,hx,Bool.false_eq_true,if_false]
    exact idxOf_none fun j hj => h (j + 1) (Nat.succ_lt_succ hj)
/-- What a search says,as the place. -/
theorem idxOf_of {α:Type} {p:α → Bool} {l:List α} {P:Nat → Bool} (hP:∀ i (hi:i < l.length),P i = p l[i]) :
    (∀ i,i < l.length → P i = true → (∀ j,j < i → P j = false) → idxOf p l 0 = (i:Int)) ∧ ((∀ j,j < l.length → P j = false) → idxOf p l 0 = -1) := by
  refine ⟨fun i hi h1 h2 => ?_,fun h => idxOf_none fun j hj => by rw [← hP j hj]; exact h j hj⟩
  have := idxOf_hit (p := p) (k := 0) hi (by rw [← hP i hi]; exact h1) (fun j hj => by rw [← hP j (by omega)]; exact h2 j hj)
  simpa using this
structure I45 (full:Bool) (l:List (List Nat)) (s:List Nat) (h0:H) (i:Nat) (fr:Fr) (h:H):Prop where
  e:h = h0
  tl:Fr.get fr 0 = some (.sl full (l.map .str))
  ts:Fr.get fr 1 = some (.str s)
  ti:Fr.get fr 5 = some (.int .i64 i)
theorem ok_45 (n:Nat) (full:Bool) (l:List (List Nat)) (s:List Nat) (hn:l.length + 4 ≤ n) (hl:l.length < 2 ^ 31) (h:H):call fns n 45 [.sl full (l.map .str),.str s] h = some (.int .i64 (idxOf (fun x => x == s) l 0),h) := by
  obtain ⟨m,rfl⟩:∃ m,n = m + 1 := ⟨n - 1,by omega⟩
  rw [call_succ]
  show call1 (call fns m) m f45 _ _ = _
  have L := loopN_find (b := exec (call fns m) m b45_0) (n := l.length) (inv := I45 full l s h) (P := fun i => match l[i]? with | some x => x == s | none => false) (Q := fun i fr' h' => h' = h ∧ Fr.get fr' 4 = some (.int .i64 i)) (R := fun fr' h' => h' = h) (d := 0)
    (fun i fr h hi hI hp => by
      obtain ⟨rfl,tl,ts,ti⟩ := hI
      obtain ⟨x,hx⟩:∃ x,l[i]? = some x := ⟨_,List.getElem?_eq_getElem hi⟩
      have hi':(i:Int) < (l.length:Int) := by omega
      simp only [hx] at hp
      simp [b45_0,iadv,ldv,cut,mk,V.cells,tl,ts,ti,hi',hx,hp]
      exact ⟨_,_,⟨rfl,rfl⟩,rfl,by simp⟩)
    (fun i fr h hi hI hp => by
      obtain ⟨rfl,tl,ts,ti⟩ := hI
      obtain ⟨x,hx⟩:∃ x,l[i]? = some x := ⟨_,List.getElem?_eq_getElem hi⟩
      have hi':(i:Int) < (l.length:Int) := by omega
      have hw:wrp .i64 ((i:Int) + 1) = (i:Int) + 1 := wrp_i64 (by omega) (by omega)
      simp only [hx] at hp
      simp [b45_0,iadv,ldv,cut,mk,V.cells,tl,ts,ti,hi',hx,hp,hw]
      exact ⟨_,_,⟨rfl,rfl⟩,rfl,by simp [tl],by simp [ts],by simp⟩)
    (fun fr h hI => by
      obtain ⟨rfl,tl,ts,ti⟩ := hI
      simp [b45_0,iadv,ldv,cut,mk,V.cells,tl,ts,ti])
    m (by omega) [(5,.int .i64 0),(4,.int .i64 0),(0,.sl full (l.map .str)),(1,.str s)] h ⟨rfl,by simp,by simp,by simp⟩
  obtain ⟨k1,k2⟩ := idxOf_of (p := fun x => x == s) (l := l) (P := fun i => match l[i]? with | some x => x == s | none => false) (fun i hi => by simp [List.getElem?_eq_getElem hi])
  rcases L with ⟨i,fr',h',hi,hp,hj,e,rfl,q⟩ | ⟨hj,fr',h',e,rfl⟩
  · rw [k1 i hi hp hj]
    simp [f45,Fr.keep_cons',Fr.keep_nil,e,q]
  · rw [k2 hj]
    simp [f45,Fr.keep_cons',Fr.keep_nil,e]
structure I43 (full:Bool) (l:List Decl) (s:List Nat) (h0:H) (i:Nat) (fr:Fr) (h:H):Prop where
  e:h = h0
  tl:Fr.get fr 0 = some (.sl full (l.map Decl.v))
  ts:Fr.get fr 1 = some (.str s)
  ti:Fr.get fr 5 = some (.int .i64 i)
theorem ok_43 (n:Nat) (full:Bool) (l:List Decl) (s:List Nat) (hn:l.length + 4 ≤ n) (hl:l.length < 2 ^ 31) (h:H):call fns n 43 [.sl full (l.map Decl.v),.str s] h = some (.int .i64 (idxOf (fun x => x.name == s) l 0),h) := by
  obtain ⟨m,rfl⟩:∃ m,n = m + 1 := ⟨n - 1,by omega⟩
  rw [call_succ]
  show call1 (call fns m) m f43 _ _ = _
  have L := loopN_find (b := exec (call fns m) m b43_0) (n := l.length) (inv := I43 full l s h) (P := fun i => match l[i]? with | some x => x.name == s | none => false) (Q := fun i fr' h' => h' = h ∧ Fr.get fr' 4 = some (.int .i64 i)) (R := fun fr' h' => h' = h) (d := 0)
    (fun i fr h hi hI hp => by
      obtain ⟨rfl,tl,ts,ti⟩ := hI
      obtain ⟨x,hx⟩:∃ x,l[i]? = some x := ⟨_,List.getElem?_eq_getElem hi⟩
      have hi':(i:Int) < (l.length:Int) := by omega
      simp only [hx] at hp
      simp [b43_0,iadv,ldv,cut,mk,V.cells,tl,ts,ti,hi',hx,hp,Decl.v]
      exact ⟨_,_,⟨rfl,rfl⟩,rfl,by simp⟩)
    (fun i fr h hi hI hp => by
      obtain ⟨rfl,tl,ts,ti⟩ := hI
      obtain ⟨x,hx⟩:∃ x,l[i]? = some x := ⟨_,List.getElem?_eq_getElem hi⟩
      have hi':(i:Int) < (l.length:Int) := by omega
      have hw:wrp .i64 ((i:Int) + 1) = (i:Int) + 1 := wrp_i64 (by omega) (by omega)
      simp only [hx] at hp
      simp [b43_0,iadv,ldv,cut,mk,V.cells,tl,ts,ti,hi',hx,hp,hw,Decl.v]
      exact ⟨_,_,⟨rfl,rfl⟩,rfl,by simp [tl],by simp [ts],by simp⟩)
    (fun fr h hI => by
      obtain ⟨rfl,tl,ts,ti⟩ := hI
      simp [b43_0,iadv,ldv,cut,mk,V.cells,tl,ts,ti])
    m (by omega) [(5,.int .i64 0),(4,.int .i64 0),(0,.sl full (l.map Decl.v)),(1,.str s)] h ⟨rfl,by simp,by simp,by simp⟩
  obtain ⟨k1,k2⟩ := idxOf_of (p := fun x => x.name == s) (l := l) (P := fun i => match l[i]? with | some x => x.name == s | none => false) (fun i hi => by simp [List.getElem?_eq_getElem hi])
  rcases L with ⟨i,fr',h',hi,hp,hj,e,rfl,q⟩ | ⟨hj,fr',h',e,rfl⟩
  · rw [k1 i hi hp hj]
    simp [f43,Fr.keep_cons',Fr.keep_nil,e,q]
  · rw [k2 hj]
    simp [f43,Fr.keep_cons',Fr.keep_nil,e]
structure I44 (full:Bool) (l:List Thread) (s:List Nat) (h0:H) (i:Nat) (fr:Fr) (h:H):Prop where
  e:h = h0
  tl:Fr.get fr 0 = some (.sl full (l.map Thread.v))
  ts:Fr.get fr 1 = some (.str s)
  ti:Fr.get fr 5 = some (.int .i64 i)
theorem ok_44 (n:Nat) (full:Bool) (l:List Thread) (s:List Nat) (hn:l.length + 4 ≤ n) (hl:l.length < 2 ^ 31) (h:H):call fns n 44 [.sl full (l.map Thread.v),.str s] h = some (.int .i64 (idxOf (fun x => x.name == s) l 0),h) := by
  obtain ⟨m,rfl⟩:∃ m,n = m + 1 := ⟨n - 1,by omega⟩
  rw [call_succ]
  show call1 (call fns m) m f44 _ _ = _
  have L := loopN_find (b := exec (call fns m) m b44_0) (n := l.length) (inv := I44 full l s h) (P := fun i => match l[i]? with | some x => x.name == s | none => false) (Q := fun i fr' h' => h' = h ∧ Fr.get fr' 4 = some (.int .i64 i)) (R := fun fr' h' => h' = h) (d := 0)
    (fun i fr h hi hI hp => by
      obtain ⟨rfl,tl,ts,ti⟩ := hI
      obtain ⟨x,hx⟩:∃ x,l[i]? = some x := ⟨_,List.getElem?_eq_getElem hi⟩
      have hi':(i:Int) < (l.length:Int) := by omega
      simp only [hx] at hp
      simp [b44_0,iadv,ldv,cut,mk,V.cells,tl,ts,ti,hi',hx,hp,Thread.v]
      exact ⟨_,_,⟨rfl,rfl⟩,rfl,by simp⟩)
    (fun i fr h hi hI hp => by
      obtain ⟨rfl,tl,ts,ti⟩ := hI
      obtain ⟨x,hx⟩:∃ x,l[i]? = some x := ⟨_,List.getElem?_eq_getElem hi⟩
      have hi':(i:Int) < (l.length:Int) := by omega
      have hw:wrp .i64 ((i:Int) + 1) = (i:Int) + 1 := wrp_i64 (by omega) (by omega)
      simp only [hx] at hp
      simp [b44_0,iadv,ldv,cut,mk,V.cells,tl,ts,ti,hi',hx,hp,hw,Thread.v]
      exact ⟨_,_,⟨rfl,rfl⟩,rfl,by simp [tl],by simp [ts],by simp⟩)
    (fun fr h hI => by
      obtain ⟨rfl,tl,ts,ti⟩ := hI
      simp [b44_0,iadv,ldv,cut,mk,V.cells,tl,ts,ti])
    m (by omega) [(5,.int .i64 0),(4,.int .i64 0),(0,.sl full (l.map Thread.v)),(1,.str s)] h ⟨rfl,by simp,by simp,by simp⟩
  obtain ⟨k1,k2⟩ := idxOf_of (p := fun x => x.name == s) (l := l) (P := fun i => match l[i]? with | some x => x.name == s | none => false) (fun i hi => by simp [List.getElem?_eq_getElem hi])
  rcases L with ⟨i,fr',h',hi,hp,hj,e,rfl,q⟩ | ⟨hj,fr',h',e,rfl⟩
  · rw [k1 i hi hp hj]
    simp [f44,Fr.keep_cons',Fr.keep_nil,e,q]
  · rw [k2 hj]
    simp [f44,Fr.keep_cons',Fr.keep_nil,e]
structure I57 (full:Bool) (l:List (List Nat)) (s:List Nat) (h0:H) (i:Nat) (fr:Fr) (h:H):Prop where
  e:h = h0
  tl:Fr.get fr 0 = some (.sl full (l.map .str))
  ts:Fr.get fr 1 = some (.str s)
  ti:Fr.get fr 8 = some (.int .i64 i)
  tn:Fr.get fr 7 = some (.int .i64 l.length)
theorem ok_57 (n:Nat) (full:Bool) (l:List (List Nat)) (s:List Nat) (hn:l.length + 4 ≤ n) (hl:l.length < 2 ^ 31) (h:H):call fns n 57 [.sl full (l.map .str),.str s] h = some (.int .i64 (idxOf (fun x => s == x) l 0),h) := by
  obtain ⟨m,rfl⟩:∃ m,n = m + 1 := ⟨n - 1,by omega⟩
  rw [call_succ]
  show call1 (call fns m) m f57 _ _ = _
  have L := loopN_find (b := exec (call fns m) m b57_0) (n := l.length) (inv := I57 full l s h) (P := fun i => match l[i]? with | some x => s == x | none => false) (Q := fun i fr' h' => h' = h ∧ Fr.get fr' 4 = some (.int .i64 i)) (R := fun fr' h' => h' = h) (d := 0)
    (fun i fr h hi hI hp => by
      obtain ⟨rfl,tl,ts,ti,tn⟩ := hI
      obtain ⟨x,hx⟩:∃ x,l[i]? = some x := ⟨_,List.getElem?_eq_getElem hi⟩
      have hi':(i:Int) < (l.length:Int) := by omega
      simp only [hx] at hp
      simp [b57_0,iadv,ldv,cut,mk,V.cells,tl,ts,ti,tn,hi',hx,hp]
      exact ⟨_,_,⟨rfl,rfl⟩,rfl,by simp⟩)
    (fun i fr h hi hI hp => by
      obtain ⟨rfl,tl,ts,ti,tn⟩ := hI
      obtain ⟨x,hx⟩:∃ x,l[i]? = some x := ⟨_,List.getElem?_eq_getElem hi⟩
      have hi':(i:Int) < (l.length:Int) := by omega
      have hw:wrp .i64 ((i:Int) + 1) = (i:Int) + 1 := wrp_i64 (by omega) (by omega)
      simp only [hx] at hp
      simp [b57_0,iadv,ldv,cut,mk,V.cells,tl,ts,ti,tn,hi',hx,hp,hw]
      exact ⟨_,_,⟨rfl,rfl⟩,rfl,by simp [tl],by simp [ts],by simp,by simp [tn]⟩)
    (fun fr h hI => by
      obtain ⟨rfl,tl,ts,ti,tn⟩ := hI
      simp [b57_0,iadv,ldv,cut,mk,V.cells,tl,ts,ti,tn])
    m (by omega) [(8,.int .i64 0),(7,.int .i64 l.length),(4,.int .i64 0),(0,.sl full (l.map .str)),(1,.str s)] h ⟨rfl,by simp,by simp,by simp,by simp⟩
  obtain ⟨k1,k2⟩ := idxOf_of (p := fun x => s == x) (l := l) (P := fun i => match l[i]? with | some x => s == x | none => false) (fun i hi => by simp [List.getElem?_eq_getElem hi])
  rcases L with ⟨i,fr',h',hi,hp,hj,e,rfl,q⟩ | ⟨hj,fr',h',e,rfl⟩
  · rw [k1 i hi hp hj]
    simp [f57,Fr.keep_cons',Fr.keep_nil,e,q]
  · rw [k2 hj]
    simp [f57,Fr.keep_cons',Fr.keep_nil,e]

theorem Stmt.v_cells (x:Stmt):∃ cs,Stmt.v x = .agg cs ∧ cs.length = 11 := by
  obtain ⟨op,line,name,arg,fi,index,expr,fb,body,fe,els⟩ := x
  obtain ⟨o,n,nm,f,l⟩ := expr
  exact ⟨_,rfl,rfl⟩
structure I33 (full:Bool) (l:List Decl) (g:V) (h0:H) (i:Nat) (fr:Fr) (h:H):Prop where
  gr:Grow h0 h
  tl:Fr.get fr 0 = some (.sl full (l.map Decl.v))
  ts:Fr.get fr 1 = some g
  ti:Fr.get fr 8 = some (.int .i64 i)
  tn:Fr.get fr 7 = some (.int .i64 l.length)
theorem ld_33 (x:Decl) (h:H):ldv h 6 true (.vptr x.v.cells) = some x.v := by
  obtain ⟨cs,hcs,hcl⟩:∃ cs,x.v = .agg cs ∧ cs.length = 6 := ⟨_,rfl,rfl⟩
  have ht:cs.take 6 = cs := List.take_of_length_le (by omega)
  simp [ldv,hcs,V.cells,cut,hcl,mk,ht]
theorem len_33 (x:Decl):x.v.cells.length = 6 := by
  obtain ⟨cs,hcs,hcl⟩:∃ cs,x.v = .agg cs ∧ cs.length = 6 := ⟨_,rfl,rfl⟩
  simp [hcs,V.cells,hcl]
theorem ok_33 (m:Nat) (full:Bool) (l:List Decl) (fid:Nat) (caps:List V) (p:Decl → Bool) (hn:l.length + 3 ≤ m) (hl:l.length < 2 ^ 31) (h:H)
    (hp:∀ x,x ∈ l → ∀ k,Grow h k → ∃ k',call fns m fid (x.v :: caps) k = some (.bool (p x),k') ∧ Grow k k') :
    ∃ h',call fns (m + 1) 33 [.sl full (l.map Decl.v),.fn fid [] caps] h = some (.int .i64 (idxOf p l 0),h') ∧ Grow h h' := by
  rw [call_succ]
  show ∃ h',call1 (call fns m) m f33 _ _ = _ ∧ _
  have L := loopN_find (b := exec (call fns m) m b33_0) (n := l.length) (inv := I33 full l (.fn fid [] caps) h) (P := fun i => match l[i]? with | some x => p x | none => false) (Q := fun i fr' h' => Grow h h' ∧ Fr.get fr' 4 = some (.int .i64 i)) (R := fun fr' h' => Grow h h') (d := 0)
    (fun i fr k hi hI hpi => by
      obtain ⟨gr,tl,ts,ti,tn⟩ := hI
      obtain ⟨x,hx⟩:∃ x,l[i]? = some x := ⟨_,List.getElem?_eq_getElem hi⟩
      have hi':(i:Int) < (l.length:Int) := by omega
      simp only [hx] at hpi
      obtain ⟨k',hc,g'⟩ := hp x (List.mem_of_getElem? hx) k gr
      have e1 := ld_33 x k
      have e2 := len_33 x
      simp [b33_0,iadv,tl,ts,ti,tn,hi',hx,hpi,hc,e1,e2]
      exact ⟨_,_,⟨rfl,rfl⟩,gr.trans g',by simp⟩)
    (fun i fr k hi hI hpi => by
      obtain ⟨gr,tl,ts,ti,tn⟩ := hI
      obtain ⟨x,hx⟩:∃ x,l[i]? = some x := ⟨_,List.getElem?_eq_getElem hi⟩
      have hi':(i:Int) < (l.length:Int) := by omega
      have hw:wrp .i64 ((i:Int) + 1) = (i:Int) + 1 := wrp_i64 (by omega) (by omega)
      simp only [hx] at hpi
      obtain ⟨k',hc,g'⟩ := hp x (List.mem_of_getElem? hx) k gr
      have e1 := ld_33 x k
      have e2 := len_33 x
      simp [b33_0,iadv,tl,ts,ti,tn,hi',hx,hpi,hc,hw,e1,e2]
      exact ⟨_,_,⟨rfl,rfl⟩,gr.trans g',by simp [tl],by simp [ts],by simp,by simp [tn]⟩)
    (fun fr k hI => by
      obtain ⟨gr,tl,ts,ti,tn⟩ := hI
      simp [b33_0,tl,ts,ti,tn]
      exact ⟨_,_,⟨rfl,rfl⟩,gr⟩)
    m (by omega) [(8,.int .i64 0),(7,.int .i64 l.length),(4,.int .i64 0),(0,.sl full (l.map Decl.v)),(1,.fn fid [] caps)] h ⟨Grow.refl h,by simp,by simp,by simp,by simp⟩
  obtain ⟨k1,k2⟩ := idxOf_of (p := p) (l := l) (P := fun i => match l[i]? with | some x => p x | none => false) (fun i hi => by simp [List.getElem?_eq_getElem hi])
  rcases L with ⟨i,fr',h',hi,hp,hj,e,g,q⟩ | ⟨hj,fr',h',e,g⟩
  · refine ⟨h',?_,g⟩
    rw [k1 i hi hp hj]
    simp [f33,Fr.keep_cons',Fr.keep_nil,e,q]
  · refine ⟨h',?_,g⟩
    rw [k2 hj]
    simp [f33,Fr.keep_cons',Fr.keep_nil,e]
structure I55 (full:Bool) (l:List Thread) (g:V) (h0:H) (i:Nat) (fr:Fr) (h:H):Prop where
  gr:Grow h0 h
  tl:Fr.get fr 0 = some (.sl full (l.map Thread.v))
  ts:Fr.get fr 1 = some g
  ti:Fr.get fr 8 = some (.int .i64 i)
  tn:Fr.get fr 7 = some (.int .i64 l.length)
theorem ld_55 (x:Thread) (h:H):ldv h 4 true (.vptr x.v.cells) = some x.v := by
  obtain ⟨cs,hcs,hcl⟩:∃ cs,x.v = .agg cs ∧ cs.length = 4 := ⟨_,rfl,rfl⟩
  have ht:cs.take 4 = cs := List.take_of_length_le (by omega)
  simp [ldv,hcs,V.cells,cut,hcl,mk,ht]
theorem len_55 (x:Thread):x.v.cells.length = 4 := by
  obtain ⟨cs,hcs,hcl⟩:∃ cs,x.v = .agg cs ∧ cs.length = 4 := ⟨_,rfl,rfl⟩
  simp [hcs,V.cells,hcl]
theorem ok_55 (m:Nat) (full:Bool) (l:List Thread) (fid:Nat) (caps:List V) (p:Thread → Bool) (hn:l.length + 3 ≤ m) (hl:l.length < 2 ^ 31) (h:H)
    (hp:∀ x,x ∈ l → ∀ k,Grow h k → ∃ k',call fns m fid (x.v :: caps) k = some (.bool (p x),k') ∧ Grow k k') :
    ∃ h',call fns (m + 1) 55 [.sl full (l.map Thread.v),.fn fid [] caps] h = some (.int .i64 (idxOf p l 0),h') ∧ Grow h h' := by
  rw [call_succ]
  show ∃ h',call1 (call fns m) m f55 _ _ = _ ∧ _
  have L := loopN_find (b := exec (call fns m) m b55_0) (n := l.length) (inv := I55 full l (.fn fid [] caps) h) (P := fun i => match l[i]? with | some x => p x | none => false) (Q := fun i fr' h' => Grow h h' ∧ Fr.get fr' 4 = some (.int .i64 i)) (R := fun fr' h' => Grow h h') (d := 0)
    (fun i fr k hi hI hpi => by
      obtain ⟨gr,tl,ts,ti,tn⟩ := hI
      obtain ⟨x,hx⟩:∃ x,l[i]? = some x := ⟨_,List.getElem?_eq_getElem hi⟩
      have hi':(i:Int) < (l.length:Int) := by omega
      simp only [hx] at hpi
      obtain ⟨k',hc,g'⟩ := hp x (List.mem_of_getElem? hx) k gr
      have e1 := ld_55 x k
      have e2 := len_55 x
      simp [b55_0,iadv,tl,ts,ti,tn,hi',hx,hpi,hc,e1,e2]
      exact ⟨_,_,⟨rfl,rfl⟩,gr.trans g',by simp⟩)
    (fun i fr k hi hI hpi => by
      obtain ⟨gr,tl,ts,ti,tn⟩ := hI
      obtain ⟨x,hx⟩:∃ x,l[i]? = some x := ⟨_,List.getElem?_eq_getElem hi⟩
      have hi':(i:Int) < (l.length:Int) := by omega
      have hw:wrp .i64 ((i:Int) + 1) = (i:Int) + 1 := wrp_i64 (by omega) (by omega)
      simp only [hx] at hpi
      obtain ⟨k',hc,g'⟩ := hp x (List.mem_of_getElem? hx) k gr
      have e1 := ld_55 x k
      have e2 := len_55 x
      simp [b55_0,iadv,tl,ts,ti,tn,hi',hx,hpi,hc,hw,e1,e2]
      exact ⟨_,_,⟨rfl,rfl⟩,gr.trans g',by simp [tl],by simp [ts],by simp,by simp [tn]⟩)
    (fun fr k hI => by
      obtain ⟨gr,tl,ts,ti,tn⟩ := hI
      simp [b55_0,tl,ts,ti,tn]
      exact ⟨_,_,⟨rfl,rfl⟩,gr⟩)
    m (by omega) [(8,.int .i64 0),(7,.int .i64 l.length),(4,.int .i64 0),(0,.sl full (l.map Thread.v)),(1,.fn fid [] caps)] h ⟨Grow.refl h,by simp,by simp,by simp,by simp⟩
  obtain ⟨k1,k2⟩ := idxOf_of (p := p) (l := l) (P := fun i => match l[i]? with | some x => p x | none => false) (fun i hi => by simp [List.getElem?_eq_getElem hi])
  rcases L with ⟨i,fr',h',hi,hp,hj,e,g,q⟩ | ⟨hj,fr',h',e,g⟩
  · refine ⟨h',?_,g⟩
    rw [k1 i hi hp hj]
    simp [f55,Fr.keep_cons',Fr.keep_nil,e,q]
  · refine ⟨h',?_,g⟩
    rw [k2 hj]
    simp [f55,Fr.keep_cons',Fr.keep_nil,e]
structure I106 (full:Bool) (l:List Stmt) (g:V) (h0:H) (i:Nat) (fr:Fr) (h:H):Prop where
  gr:Grow h0 h
  tl:Fr.get fr 0 = some (.sl full (l.map Stmt.v))
  ts:Fr.get fr 1 = some g
  ti:Fr.get fr 8 = some (.int .i64 i)
  tn:Fr.get fr 7 = some (.int .i64 l.length)
theorem ld_106 (x:Stmt) (h:H):ldv h 11 true (.vptr x.v.cells) = some x.v := by
  obtain ⟨cs,hcs,hcl⟩ := Stmt.v_cells x
  have ht:cs.take 11 = cs := List.take_of_length_le (by omega)
  simp [ldv,hcs,V.cells,cut,hcl,mk,ht]
theorem len_106 (x:Stmt):x.v.cells.length = 11 := by
  obtain ⟨cs,hcs,hcl⟩ := Stmt.v_cells x
  simp [hcs,V.cells,hcl]
theorem ok_32 (n:Nat) (hn:1 ≤ n) (x:Decl) (d:Decl) (c:Nat) (kd:Kind) (h:H) (hc:c < h.nx * 256) (hg:h.get c = some (.row [d.v] 6 kd)) :
    ∃ h',call fns n 32 [x.v,.ptr c 0 0] h = some (.bool (x.name == d.name),h') ∧ Grow h h' := by
  obtain ⟨m,rfl⟩:∃ m,n = m + 1 := ⟨n - 1,by omega⟩
  rw [call_succ]
  show ∃ h',call1 (call fns m) m f32 _ _ = _ ∧ _
  have hne:¬ c = h.nx * 256 := by omega
  refine ⟨({ h with nx := h.nx + 1 }:H).set (h.nx * 256) (.row [x.v] 6 .rw),?_,((Grow.refl h).up (h.nx + 1) (by simp)).set (Nat.le_refl _) _⟩
  simp [f32,Fr.keep_cons',Fr.keep_nil,stepE,H.get_set,H.get_nx,hne,hg,ldv,cut,mk,V.cells,Decl.v]
theorem ok_34 (n:Nat) (hn:1 ≤ n) (x:Decl) (d:Decl) (c:Nat) (kd:Kind) (h:H) (hc:c < h.nx * 256) (hg:h.get c = some (.row [d.v] 6 kd)) :
    ∃ h',call fns n 34 [x.v,.ptr c 0 0] h = some (.bool (x.name == d.on),h') ∧ Grow h h' := by
  obtain ⟨m,rfl⟩:∃ m,n = m + 1 := ⟨n - 1,by omega⟩
  rw [call_succ]
  show ∃ h',call1 (call fns m) m f34 _ _ = _ ∧ _
  have hne:¬ c = h.nx * 256 := by omega
  refine ⟨({ h with nx := h.nx + 1 }:H).set (h.nx * 256) (.row [x.v] 6 .rw),?_,((Grow.refl h).up (h.nx + 1) (by simp)).set (Nat.le_refl _) _⟩
  simp [f34,Fr.keep_cons',Fr.keep_nil,stepE,H.get_set,H.get_nx,hne,hg,ldv,cut,mk,V.cells,Decl.v]
theorem ok_35 (n:Nat) (hn:1 ≤ n) (x:Decl) (d:Thread) (c:Nat) (kd:Kind) (h:H) (hc:c < h.nx * 256) (hg:h.get c = some (.row [d.v] 4 kd)) :
    ∃ h',call fns n 35 [x.v,.ptr c 0 0] h = some (.bool (x.name == d.name),h') ∧ Grow h h' := by
  obtain ⟨m,rfl⟩:∃ m,n = m + 1 := ⟨n - 1,by omega⟩
  rw [call_succ]
  show ∃ h',call1 (call fns m) m f35 _ _ = _ ∧ _
  have hne:¬ c = h.nx * 256 := by omega
  refine ⟨({ h with nx := h.nx + 1 }:H).set (h.nx * 256) (.row [x.v] 6 .rw),?_,((Grow.refl h).up (h.nx + 1) (by simp)).set (Nat.le_refl _) _⟩
  simp [f35,Fr.keep_cons',Fr.keep_nil,stepE,H.get_set,H.get_nx,hne,hg,ldv,cut,mk,V.cells,Decl.v,Thread.v]
theorem ok_56 (n:Nat) (hn:1 ≤ n) (x:Thread) (d:List Nat) (c:Nat) (kd:Kind) (h:H) (hc:c < h.nx * 256) (hg:h.get c = some (.row [.str d] 1 kd)) :
    ∃ h',call fns n 56 [x.v,.ptr c 0 0] h = some (.bool (x.name == d),h') ∧ Grow h h' := by
  obtain ⟨m,rfl⟩:∃ m,n = m + 1 := ⟨n - 1,by omega⟩
  rw [call_succ]
  show ∃ h',call1 (call fns m) m f56 _ _ = _ ∧ _
  have hne:¬ c = h.nx * 256 := by omega
  refine ⟨({ h with nx := h.nx + 1 }:H).set (h.nx * 256) (.row [x.v] 4 .rw),?_,((Grow.refl h).up (h.nx + 1) (by simp)).set (Nat.le_refl _) _⟩
  simp [f56,Fr.keep_cons',Fr.keep_nil,stepE,H.get_set,H.get_nx,hne,hg,ldv,cut,mk,V.cells,Thread.v]
structure I107 (full:Bool) (l:List Int) (s:Int) (h0:H) (i:Nat) (fr:Fr) (h:H):Prop where
  e:h = h0
  tl:Fr.get fr 0 = some (.sl full (l.map (V.int .i64)))
  ts:Fr.get fr 1 = some (.int .i64 s)
  ti:Fr.get fr 8 = some (.int .i64 i)
  tn:Fr.get fr 7 = some (.int .i64 l.length)
theorem ok_107 (n:Nat) (full:Bool) (l:List Int) (s:Int) (hn:l.length + 4 ≤ n) (hl:l.length < 2 ^ 31) (h:H):call fns n 107 [.sl full (l.map (V.int .i64)),.int .i64 s] h = some (.int .i64 (idxOf (fun x => decide (s = x)) l 0),h) := by
  obtain ⟨m,rfl⟩:∃ m,n = m + 1 := ⟨n - 1,by omega⟩
  rw [call_succ]
  show call1 (call fns m) m f107 _ _ = _
  have L := loopN_find (b := exec (call fns m) m b107_0) (n := l.length) (inv := I107 full l s h) (P := fun i => match l[i]? with | some x => decide (s = x) | none => false) (Q := fun i fr' h' => h' = h ∧ Fr.get fr' 4 = some (.int .i64 i)) (R := fun fr' h' => h' = h) (d := 0)
    (fun i fr h hi hI hp => by
      obtain ⟨rfl,tl,ts,ti,tn⟩ := hI
      obtain ⟨x,hx⟩:∃ x,l[i]? = some x := ⟨_,List.getElem?_eq_getElem hi⟩
      have hi':(i:Int) < (l.length:Int) := by omega
      simp only [hx] at hp
      simp [b107_0,iadv,ldv,cut,mk,V.cells,tl,ts,ti,tn,hi',hx,hp]
      exact ⟨_,_,⟨rfl,rfl⟩,rfl,by simp⟩)
    (fun i fr h hi hI hp => by
      obtain ⟨rfl,tl,ts,ti,tn⟩ := hI
      obtain ⟨x,hx⟩:∃ x,l[i]? = some x := ⟨_,List.getElem?_eq_getElem hi⟩
      have hi':(i:Int) < (l.length:Int) := by omega
      have hw:wrp .i64 ((i:Int) + 1) = (i:Int) + 1 := wrp_i64 (by omega) (by omega)
      simp only [hx] at hp
      simp [b107_0,iadv,ldv,cut,mk,V.cells,tl,ts,ti,tn,hi',hx,hp,hw]
      exact ⟨_,_,⟨rfl,rfl⟩,rfl,by simp [tl],by simp [ts],by simp,by simp [tn]⟩)
    (fun fr h hI => by
      obtain ⟨rfl,tl,ts,ti,tn⟩ := hI
      simp [b107_0,iadv,ldv,cut,mk,V.cells,tl,ts,ti,tn])
    m (by omega) [(8,.int .i64 0),(7,.int .i64 l.length),(4,.int .i64 0),(0,.sl full (l.map (V.int .i64))),(1,.int .i64 s)] h ⟨rfl,by simp,by simp,by simp,by simp⟩
  obtain ⟨k1,k2⟩ := idxOf_of (p := fun x => decide (s = x)) (l := l) (P := fun i => match l[i]? with | some x => decide (s = x) | none => false) (fun i hi => by simp [List.getElem?_eq_getElem hi])
  rcases L with ⟨i,fr',h',hi,hp,hj,e,rfl,q⟩ | ⟨hj,fr',h',e,rfl⟩
  · rw [k1 i hi hp hj]
    simp [f107,Fr.keep_cons',Fr.keep_nil,e,q]
  · rw [k2 hj]
    simp [f107,Fr.keep_cons',Fr.keep_nil,e]

theorem idxOf_range {α:Type} (p:α → Bool):∀ (l:List α) (k:Nat),-1 ≤ idxOf p l k ∧ idxOf p l k < ((k + l.length:Nat):Int) ∧ (0 ≤ idxOf p l k ↔ l.any p = true)
  | [],k => by simp [idxOf]; omega
  | x :: l,k => by
    unfold idxOf
    cases hx:p x with
    | true => simp [hx]; omega
    | false =>
      obtain ⟨h1,h2,h3⟩ := idxOf_range p l (k + 1)
      simp only [Bool.false_eq_true,if_false,List.any_cons,hx,Bool.false_or,List.length_cons]
      exact ⟨h1,by omega,h3⟩
theorem idxOf_ge {α:Type} (p:α → Bool) (l:List α):decide (0 ≤ idxOf p l 0) = l.any p := by
  have := (idxOf_range p l 0).2.2
  rw [Bool.eq_iff_iff,decide_eq_true_iff]
  exact this
theorem ok_37 (n:Nat) (full:Bool) (l:List (List Nat)) (s:List Nat) (hn:l.length + 5 ≤ n) (hl:l.length < 2 ^ 31) (h:H):call fns n 37 [.sl full (l.map .str),.str s] h = some (.bool (l.any fun x => s == x),h) := by
  obtain ⟨m,rfl⟩:∃ m,n = m + 1 := ⟨n - 1,by omega⟩
  have e := ok_57 m full l s (by omega) hl h
  have k := idxOf_ge (fun x => s == x) l
  rw [call_succ]
  show call1 (call fns m) m f37 _ _ = _
  simp [f37,Fr.keep_cons',Fr.keep_nil,e,k]
theorem ok_98 (n:Nat) (full:Bool) (l:List Int) (s:Int) (hn:l.length + 5 ≤ n) (hl:l.length < 2 ^ 31) (h:H):call fns n 98 [.sl full (l.map (V.int .i64)),.int .i64 s] h = some (.bool (l.any fun x => decide (s = x)),h) := by
  obtain ⟨m,rfl⟩:∃ m,n = m + 1 := ⟨n - 1,by omega⟩
  have e := ok_107 m full l s (by omega) hl h
  have k := idxOf_ge (fun x => decide (s = x)) l
  rw [call_succ]
  show call1 (call fns m) m f98 _ _ = _
  simp only [← k]
  simp [f98,Fr.keep_cons',Fr.keep_nil,e]
theorem ok_31 (m:Nat) (full:Bool) (l:List Decl) (fid:Nat) (caps:List V) (p:Decl → Bool) (hn:l.length + 3 ≤ m) (hl:l.length < 2 ^ 31) (h:H)
    (hp:∀ x,x ∈ l → ∀ k,Grow h k → ∃ k',call fns m fid (x.v :: caps) k = some (.bool (p x),k') ∧ Grow k k') :
    ∃ h',call fns (m + 2) 31 [.sl full (l.map Decl.v),.fn fid [] caps] h = some (.bool (l.any p),h') ∧ Grow h h' := by
  obtain ⟨h',e,g⟩ := ok_33 m full l fid caps p hn hl h hp
  have k := idxOf_ge p l
  refine ⟨h',?_,g⟩
  rw [call_succ]
  show call1 (call fns (m + 1)) (m + 1) f31 _ _ = _
  simp only [← k]
  simp [f31,Fr.keep_cons',Fr.keep_nil,e]
theorem ok_36 (m:Nat) (p:Prog) (s:List Nat) (hn:p.threads.length + 3 ≤ m) (hl:p.threads.length < 2 ^ 31) (h:H) :
    ∃ h',call fns (m + 2) 36 [p.v,.str s] h = some (.int .i64 (idxOf (fun t => t.name == s) p.threads 0),h') ∧ Grow h h' := by
  let h1:H := (({ h with nx := h.nx + 1 }:H).set (h.nx * 256) (.row [p.v] 2 .rw)).set (h.nx * 256 + 1) (.row [.str s] 1 .rw)
  have g1:Grow h h1 := (((Grow.refl h).up (h.nx + 1) (by omega)).set (Nat.le_refl _) _).set (by omega) _
  obtain ⟨h',e,g⟩ := ok_55 m p.ft p.threads 56 [.ptr (h.nx * 256 + 1) 0 0] (fun t => t.name == s) hn hl h1 (fun x hx k gk => by
    have hk:h.nx + 1 ≤ k.nx := gk.1
    refine ok_56 m (by omega) x s (h.nx * 256 + 1) .rw k (by omega) ?_
    rw [gk.2 _ (by show h.nx * 256 + 1 < (h.nx + 1) * 256; omega)]
    simp [h1,H.get_set])
  refine ⟨h',?_,g1.trans g⟩
  rw [call_succ]
  show call1 (call fns (m + 1)) (m + 1) f36 _ _ = _
  simp only [h1,Prog.v] at e
  simp [f36,Fr.keep_cons',Fr.keep_nil,stepE,H.get_set,ldv,cut,mk,V.cells,Prog.v,e]

/-! ### What a name means -/
def declared (d:Decl):Int := if d.kind = 1 then (if d.size = 0 then 2 else 3) else if d.kind = 2 then 2 else if d.kind = 3 then 4 else if d.kind = 4 then 5 else if d.kind = 5 then 6 else if d.kind = 6 then 7 else 9
def localAt (p:Prog) (i:Int) (s:List Nat):Bool := decide (0 ≤ i) && (match p.threads[i.toNat]? with
  | some t => t.locals.any fun x => s == x
  | none => false)
def tailMean (p:Prog) (s:List Nat):Int := match p.decls.find? (fun d => d.name == s) with
  | some d => declared d
  | none => if p.threads.any (fun t => t.name == s) then 8 else 0
def meaning (p:Prog) (i:Int) (s:List Nat):Int := if localAt p i s = true then 1 else tailMean p s

theorem ok_58 (n:Nat) (hn:1 ≤ n) (d:Decl) (h:H):∃ h',call fns n 58 [d.v] h = some (.int .i64 (declared d),h') ∧ Grow h h' := by
  obtain ⟨m,rfl⟩:∃ m,n = m + 1 := ⟨n - 1,by omega⟩
  rw [call_succ]
  show ∃ h',call1 (call fns m) m f58 _ _ = _ ∧ _
  refine ⟨({ h with nx := h.nx + 1 }:H).set (h.nx * 256) (.row [d.v] 6 .rw),?_,((Grow.refl h).up (h.nx + 1) (by simp)).set (Nat.le_refl _) _⟩
  unfold declared
  by_cases h1:d.kind = 1
  · by_cases h2:d.size = 0 <;> simp [f58,Fr.keep_cons',Fr.keep_nil,stepE,H.get_set,ldv,cut,mk,V.cells,Decl.v,h1,h2]
  · by_cases h2:d.kind = 2
    · simp [f58,Fr.keep_cons',Fr.keep_nil,stepE,H.get_set,ldv,cut,mk,V.cells,Decl.v,h1,h2]
    · by_cases h3:d.kind = 3
      · simp [f58,Fr.keep_cons',Fr.keep_nil,stepE,H.get_set,ldv,cut,mk,V.cells,Decl.v,h1,h2,h3]
      · by_cases h4:d.kind = 4
        · simp [f58,Fr.keep_cons',Fr.keep_nil,stepE,H.get_set,ldv,cut,mk,V.cells,Decl.v,h1,h2,h3,h4]
        · by_cases h5:d.kind = 5
          · simp [f58,Fr.keep_cons',Fr.keep_nil,stepE,H.get_set,ldv,cut,mk,V.cells,Decl.v,h1,h2,h3,h4,h5]
          · by_cases h6:d.kind = 6 <;> simp [f58,Fr.keep_cons',Fr.keep_nil,stepE,H.get_set,ldv,cut,mk,V.cells,Decl.v,h1,h2,h3,h4,h5,h6]

/-- The element at a place fits. -/
def hitAt {α:Type} (p:α → Bool) (l:List α) (i:Nat):Bool := match l[i]? with
  | some d => p d
  | none => false

structure I38 (p:Prog) (s:List Nat) (id:Nat) (h1:H) (i:Nat) (fr:Fr) (h:H):Prop where
  gr:Grow h1 h
  t2:Fr.get fr 2 = some (.str s)
  t3:Fr.get fr 3 = some (.ptr id 0 0)
  t29:Fr.get fr 29 = some (.sl p.fd (p.decls.map Decl.v))
  t30:Fr.get fr 30 = some (.int .i64 p.decls.length)
  t31:Fr.get fr 31 = some (.int .i64 i)
theorem loop38 (m:Nat) (hm:1 ≤ m) (p:Prog) (s:List Nat) (id:Nat) (h1:H) (hl:p.decls.length < 2 ^ 31) (k:Nat) (hk:p.decls.length < k) (fr:Fr) (hI:I38 p s id h1 0 fr h1) :
    (∃ i fr' h',i < p.decls.length ∧ hitAt (fun d:Decl => d.name == s) p.decls i = true ∧ (∀ j,j < i → hitAt (fun d:Decl => d.name == s) p.decls j = false) ∧
      loopN (exec (call fns m) m b38_0) k fr h1 = some (.ret,fr',h') ∧ Grow h1 h' ∧ (∀ d,p.decls[i]? = some d → Fr.get fr' 6 = some (.int .i64 (declared d)))) ∨
    ((∀ j,j < p.decls.length → hitAt (fun d:Decl => d.name == s) p.decls j = false) ∧ ∃ fr' h',loopN (exec (call fns m) m b38_0) k fr h1 = some (.brk 0,fr',h') ∧ Grow h1 h' ∧ Fr.get fr' 2 = some (.str s) ∧ Fr.get fr' 3 = some (.ptr id 0 0)) := by
  refine loopN_find (inv := I38 p s id h1) (P := hitAt (fun d:Decl => d.name == s) p.decls) (Q := fun i fr' h' => Grow h1 h' ∧ ∀ d,p.decls[i]? = some d → Fr.get fr' 6 = some (.int .i64 (declared d)))
    (R := fun fr' h' => Grow h1 h' ∧ Fr.get fr' 2 = some (.str s) ∧ Fr.get fr' 3 = some (.ptr id 0 0)) (d := 0) ?_ ?_ ?_ k hk fr h1 hI
  · intro i fr h hi hI hp
    obtain ⟨gr,t2,t3,t29,t30,t31⟩ := hI
    obtain ⟨x,hx⟩:∃ x,p.decls[i]? = some x := ⟨_,List.getElem?_eq_getElem hi⟩
    have hi':(i:Int) < (p.decls.length:Int) := by omega
    simp only [hitAt,hx] at hp
    have ga:Grow h1 (({ h with nx := h.nx + 1 }:H).set (h.nx * 256 + 2) (.row [.agg [.int .i64 0,.int .i64 0,.str [],.int .i64 0,.int .i64 0,.str []]] 6 .rw)) := (gr.up (h.nx + 1) (by omega)).set (by have := gr.1; omega) _
    have gb := ga.set (id := h.nx * 256 + 2) (by have := gr.1; omega) (.row [x.v] 6 .rw)
    obtain ⟨h',e58,g58⟩ := ok_58 m hm x ((({ h with nx := h.nx + 1 }:H).set (h.nx * 256 + 2) (.row [.agg [.int .i64 0,.int .i64 0,.str [],.int .i64 0,.int .i64 0,.str []]] 6 .rw)).set (h.nx * 256 + 2) (.row [x.v] 6 .rw))
    simp only [Decl.v] at e58
    simp [b38_0,iadv,ldv,cut,mk,V.cells,stepE,H.get_set,stv,splice,one,Decl.v,t2,t3,t29,t30,t31,hi',hx,hp,e58]
    exact ⟨_,_,⟨rfl,rfl⟩,gb.trans g58,by simp⟩
  · intro i fr h hi hI hp
    obtain ⟨gr,t2,t3,t29,t30,t31⟩ := hI
    obtain ⟨x,hx⟩:∃ x,p.decls[i]? = some x := ⟨_,List.getElem?_eq_getElem hi⟩
    have hi':(i:Int) < (p.decls.length:Int) := by omega
    have hw:wrp .i64 ((i:Int) + 1) = (i:Int) + 1 := wrp_i64 (by omega) (by omega)
    simp only [hitAt,hx] at hp
    have ga:Grow h1 (({ h with nx := h.nx + 1 }:H).set (h.nx * 256 + 2) (.row [.agg [.int .i64 0,.int .i64 0,.str [],.int .i64 0,.int .i64 0,.str []]] 6 .rw)) := (gr.up (h.nx + 1) (by omega)).set (by have := gr.1; omega) _
    have gb := ga.set (id := h.nx * 256 + 2) (by have := gr.1; omega) (.row [x.v] 6 .rw)
    simp only [Decl.v] at gb
    simp [b38_0,iadv,ldv,cut,mk,V.cells,stepE,H.get_set,stv,splice,one,Decl.v,t2,t3,t29,t30,t31,hi',hx,hp,hw]
    exact ⟨_,_,⟨rfl,rfl⟩,gb,by simp [t2],by simp [t3],by simp [t29],by simp [t30],by simp⟩
  · intro fr h hI
    obtain ⟨gr,t2,t3,t29,t30,t31⟩ := hI
    simp [b38_0,iadv,ldv,cut,mk,V.cells,t2,t3,t29,t30,t31]
    exact ⟨_,_,⟨rfl,rfl⟩,gr,by simp [t2],by simp [t3]⟩

/-- No list of a program is too long. -/
structure Prog.Small (p:Prog):Prop where
  d:p.decls.length < 2 ^ 31
  t:p.threads.length < 2 ^ 31
  l:∀ t,t ∈ p.threads → t.locals.length < 2 ^ 31
def Big (n:Nat):Prop := 2 ^ 31 + 10 ≤ n

theorem find_hit {α:Type} {p:α → Bool} {l:List α} {i:Nat} {x:α} (hx:l[i]? = some x) (h1:p x = true) (h2:∀ j,j < i → hitAt p l j = false):l.find? p = some x := by
  obtain ⟨hi,rfl⟩ := List.getElem?_eq_some_iff.1 hx
  rw [List.find?_eq_some_iff_getElem]
  refine ⟨h1,i,hi,rfl,fun j hj => ?_⟩
  have := h2 j hj
  rw [hitAt,List.getElem?_eq_getElem (by omega)] at this
  simpa using this
theorem find_none {α:Type} {p:α → Bool} {l:List α} (h2:∀ j,j < l.length → hitAt p l j = false):l.find? p = none := by
  rw [List.find?_eq_none]
  intro x hx
  obtain ⟨i,hi,rfl⟩ := List.getElem_of_mem hx
  have := h2 i hi
  rw [hitAt,List.getElem?_eq_getElem hi] at this
  simpa using this

/-- What stands behind the question on the locals. -/
theorem tail38 (m:Nat) (hm:Big m) (p:Prog) (hp:p.Small) (s:List Nat) (id:Nat) (kd:Kind) (h1:H) (hid:id < h1.nx * 256) (hg:h1.get id = some (.row [p.v] 2 kd)) (fr:Fr)
    (t2:Fr.get fr 2 = some (.str s)) (t3:Fr.get fr 3 = some (.ptr id 0 0)) :
    ∃ fr' h',exec (call fns m) m (.seq s38_2 (.seq s38_3 (.seq s38_4 s38_5))) fr h1 = some (.ret,fr',h') ∧ Grow h1 h' ∧
      Fr.get fr' 6 = some (.int .i64 (tailMean p s)) := by
  unfold Big at hm
  unfold tailMean
  have L:∀ fr,I38 p s id h1 0 fr h1 → _ := fun fr hI => loop38 m (by omega) p s id h1 hp.d m (by have := hp.d; omega) fr hI
  have e0:∃ fr3,exec (call fns m) m (.reg 3 false [⟨0,some 28,.fad (.t 3) 0,none⟩,⟨1,some 29,.ld 1 false (.t 28),none⟩,⟨2,some 30,.len false (.t 29),none⟩,⟨3,some 31,.mv (.c (.int .i64 0)),none⟩] [] (some 35467437277519)) fr h1 = some (.norm,fr3,h1) ∧ I38 p s id h1 0 fr3 h1 := by
    simp [iadv,ldv,cut,mk,V.cells,t3,hg,Prog.v]
    exact ⟨Grow.refl _,by simp [t2],by simp [t3],by simp,by simp,by simp⟩
  obtain ⟨fr3,e3,i3⟩ := e0
  have e2:s38_2 = .seq (.reg 3 false [⟨0,some 28,.fad (.t 3) 0,none⟩,⟨1,some 29,.ld 1 false (.t 28),none⟩,⟨2,some 30,.len false (.t 29),none⟩,⟨3,some 31,.mv (.c (.int .i64 0)),none⟩] [] (some 35467437277519)) (.block 0 (.loop b38_0)) := rfl
  rcases L fr3 i3 with ⟨i,fr',h',hi,hb,hj,e,g,q⟩ | ⟨hj,fr',h',e,g,k2,k3⟩
  · obtain ⟨x,hx⟩:∃ x,p.decls[i]? = some x := ⟨_,List.getElem?_eq_getElem hi⟩
    have hb':(x.name == s) = true := by simpa [hitAt,hx] using hb
    rw [find_hit (p := fun d:Decl => d.name == s) hx hb' hj]
    refine ⟨fr',h',?_,g,q x hx⟩
    rw [e2]
    simp only [exec] at e3 ⊢
    rw [e3]
    simp only [e]
  · rw [find_none (p := fun d:Decl => d.name == s) hj]
    have hid':h'.get id = some (.row [p.v] 2 kd) := by rw [g.2 id hid]; exact hg
    obtain ⟨m',rfl⟩:∃ m',m = m' + 2 := ⟨m - 2,by omega⟩
    obtain ⟨h2,e36,g36⟩ := ok_36 m' p s (by have := hp.t; omega) hp.t h'
    have k := idxOf_ge (fun t:Thread => t.name == s) p.threads
    simp only [Prog.v] at e36
    have q2:∀ fr h,exec (call fns (m' + 2)) (m' + 2) (.seq s38_2 (.seq s38_3 (.seq s38_4 s38_5))) fr h = match exec (call fns (m' + 2)) (m' + 2) s38_2 fr h with
      | some (.norm,fr',h') => exec (call fns (m' + 2)) (m' + 2) (.seq s38_3 (.seq s38_4 s38_5)) fr' h'
      | r => r := fun _ _ => rfl
    have e4:exec (call fns (m' + 2)) (m' + 2) s38_2 fr h1 = some (.norm,fr',h') := by
      rw [e2]
      simp only [exec] at e3 ⊢
      rw [e3]
      simp only [e]
      simp
    rw [q2,e4]
    simp only
    cases ht:p.threads.any fun t => t.name == s with
    | true =>
      rw [ht] at k
      have k':0 ≤ idxOf (fun t:Thread => t.name == s) p.threads 0 := by simpa using k
      simp [s38_3,iadv,ldv,cut,mk,V.cells,k2,k3,hid',Prog.v,e36,k']
      exact ⟨_,_,⟨rfl,rfl⟩,g.trans g36,by simp⟩
    | false =>
      rw [ht] at k
      have k':¬ 0 ≤ idxOf (fun t:Thread => t.name == s) p.threads 0 := by simpa using k
      simp [s38_3,s38_4,s38_5,iadv,ldv,cut,mk,V.cells,k2,k3,hid',Prog.v,e36,k']
      exact ⟨_,_,⟨rfl,rfl⟩,g.trans g36,by simp⟩

theorem meaning_tail {p:Prog} {i:Int} {s:List Nat} (h:localAt p i s = false):meaning p i s = tailMean p s := by
  simp [meaning,h]
theorem ok_38 (n:Nat) (hn:Big n) (hn':2 ^ 31 + 20 ≤ n) (p:Prog) (hp:p.Small) (i:Int) (s:List Nat) (h:H) :
    ∃ h',call fns n 38 [p.v,.int .i64 i,.str s] h = some (.int .i64 (meaning p i s),h') ∧ Grow h h' := by
  obtain ⟨m,rfl⟩:∃ m,n = m + 1 := ⟨n - 1,by unfold Big at hn; omega⟩
  have hm:Big m := by unfold Big; omega
  let h1:H := ({ h with nx := h.nx + 1 }:H).set (h.nx * 256) (.row [p.v] 2 .rw)
  have g1:Grow h h1 := ((Grow.refl h).up (h.nx + 1) (by omega)).set (Nat.le_refl _) _
  have hid:h1.get (h.nx * 256) = some (.row [p.v] 2 .rw) := by simp [h1,H.get_set]
  have hlt:h.nx * 256 < h1.nx * 256 := by show h.nx * 256 < (h.nx + 1) * 256; omega
  have tl := fun fr t2 t3 => tail38 m hm p hp s (h.nx * 256) .rw h1 hlt hid fr t2 t3
  rw [call_succ]
  show ∃ h',call1 (call fns m) m f38 _ _ = _ ∧ _
  have q:∀ fr h,exec (call fns m) m f38.body fr h = match exec (call fns m) m (.seq s38_0 s38_1) fr h with
      | some (.norm,fr',h') => exec (call fns m) m (.seq s38_2 (.seq s38_3 (.seq s38_4 s38_5))) fr' h'
      | r => r := fun fr h => by
    rw [body_38]
    simp only [exec]
    cases exec (call fns m) m s38_0 fr h with
    | none => rfl
    | some y =>
      obtain ⟨x,fr',h'⟩ := y
      cases x <;> rfl
  have fin:∀ fr':Fr,Fr.get fr' 2 = some (.str s) → Fr.get fr' 3 = some (.ptr (h.nx * 256) 0 0) → localAt p i s = false → exec (call fns m) m (.seq s38_0 s38_1) (enter 0 [p.v,.int .i64 i,.str s]) h = some (.norm,fr',h1) →
      ∃ h',call1 (call fns m) m f38 [p.v,.int .i64 i,.str s] h = some (.int .i64 (meaning p i s),h') ∧ Grow h h' := by
    intro fr' t2 t3 hl e
    obtain ⟨fr2,h2,e2,g2,r⟩ := tl fr' t2 t3
    refine ⟨h2,?_,g1.trans g2⟩
    unfold call1
    rw [q,e]
    simp only [e2]
    rw [meaning_tail hl]
    simp [res_38,fz_38,r]
  by_cases h0:0 ≤ i
  · by_cases hi:i < (p.threads.length:Int)
    · obtain ⟨x,hx⟩:∃ x,p.threads[i.toNat]? = some x := ⟨_,List.getElem?_eq_getElem (by omega)⟩
      have hx2 := hp.l x (List.mem_of_getElem? hx)
      obtain ⟨hil,hxe⟩ := List.getElem?_eq_some_iff.1 hx
      have e37 := fun h => ok_37 m x.fl x.locals s (by unfold Big at hm; omega) hx2 h
      cases hb:x.locals.any fun y => s == y with
      | true =>
        have hl:localAt p i s = true := by simp [localAt,h0,hx,hb]
        refine ⟨h1,?_,g1⟩
        unfold meaning
        rw [if_pos hl]
        rw [hb] at e37
        unfold call1
        rw [q]
        simp [s38_0,s38_1,Fr.keep_cons',Fr.keep_nil,stepE,H.get_set,ldv,cut,mk,V.cells,Prog.v,Thread.v,iadv,h0,hi,hx,hxe,e37,h1,res_38,fz_38]
      | false =>
        have hl:localAt p i s = false := by simp [localAt,h0,hx,hb]
        rw [hb] at e37
        obtain ⟨fr',e,t2,t3⟩:∃ fr',exec (call fns m) m (.seq s38_0 s38_1) (enter 0 [p.v,.int .i64 i,.str s]) h = some (.norm,fr',h1) ∧ Fr.get fr' 2 = some (.str s) ∧ Fr.get fr' 3 = some (.ptr (h.nx * 256) 0 0) := by
          simp [s38_0,s38_1,Fr.keep_cons',Fr.keep_nil,stepE,H.get_set,ldv,cut,mk,V.cells,Prog.v,Thread.v,iadv,h0,hi,hx,hxe,e37,h1]
        exact fin fr' t2 t3 hl e
    · have hl:localAt p i s = false := by
        have:p.threads[i.toNat]? = none := by rw [List.getElem?_eq_none_iff]; omega
        simp [localAt,this]
      obtain ⟨fr',e,t2,t3⟩:∃ fr',exec (call fns m) m (.seq s38_0 s38_1) (enter 0 [p.v,.int .i64 i,.str s]) h = some (.norm,fr',h1) ∧ Fr.get fr' 2 = some (.str s) ∧ Fr.get fr' 3 = some (.ptr (h.nx * 256) 0 0) := by
        simp [s38_0,s38_1,Fr.keep_cons',Fr.keep_nil,stepE,H.get_set,ldv,cut,mk,V.cells,Prog.v,h0,hi,h1]
      exact fin fr' t2 t3 hl e
  · have hl:localAt p i s = false := by simp [localAt,h0]
    obtain ⟨fr',e,t2,t3⟩:∃ fr',exec (call fns m) m (.seq s38_0 s38_1) (enter 0 [p.v,.int .i64 i,.str s]) h = some (.norm,fr',h1) ∧ Fr.get fr' 2 = some (.str s) ∧ Fr.get fr' 3 = some (.ptr (h.nx * 256) 0 0) := by
      simp [s38_0,s38_1,Fr.keep_cons',Fr.keep_nil,stepE,H.get_set,ldv,cut,mk,V.cells,Prog.v,h0,h1]
    exact fin fr' t2 t3 hl e

/-- The reference's number of a meaning. -/
def refCode (c:Int):Int := if c = 1 then 8 else if c = 2 then 1 else if c = 3 then 2 else if c = 4 then 3 else if c = 5 then 4 else if c = 6 then 5 else if c = 7 then 6 else if c = 8 then 7 else c
theorem idxOf_find {α:Type} (p:α → Bool) (l:List α):(∃ (i:Nat) (x:α),l.find? p = some x ∧ idxOf p l 0 = (i:Int) ∧ l[i]? = some x ∧ p x = true) ∨ (l.find? p = none ∧ idxOf p l 0 = -1) := by
  have key:∀ (l:List α) (k:Nat),(∃ (i:Nat) (x:α),l.find? p = some x ∧ idxOf p l k = ((k + i:Nat):Int) ∧ l[i]? = some x ∧ p x = true) ∨ (l.find? p = none ∧ idxOf p l k = -1) := by
    intro l
    induction l with
    | nil => intro k; exact .inr ⟨rfl,rfl⟩
    | cons y l ih =>
      intro k
      cases hy:p y with
      | true => exact .inl ⟨0,y,by simp [hy],by simp [idxOf,hy],rfl,hy⟩
      | false =>
        rcases ih (k + 1) with ⟨i,x,h1,h2,h3,h4⟩ | ⟨h1,h2⟩
        · exact .inl ⟨i + 1,x,by simp [hy,h1],by simp only [idxOf,hy,Bool.false_eq_true,if_false]; rw [h2]; congr 1; omega,by simpa using h3,h4⟩
        · exact .inr ⟨by simp [hy,h1],by simp [idxOf,hy,h2]⟩
  rcases key l 0 with ⟨i,x,h1,h2,h3,h4⟩ | h
  · exact .inl ⟨i,x,h1,by simpa using h2,h3,h4⟩
  · exact .inr h

def head90:IC := match f90.body with | .seq a (.seq b _) => .seq a b | _ => .skip
def rest90:IC := match f90.body with | .seq _ (.seq _ r) => r | _ => .skip
theorem tail90 (m:Nat) (hm:2 ^ 31 + 19 ≤ m) (p:Prog) (hp:p.Small) (s:List Nat) (id:Nat) (kd:Kind) (h1:H) (hg:h1.get id = some (.row [p.v] 2 kd)) (fr:Fr)
    (t2:Fr.get fr 2 = some (.str s)) (t3:Fr.get fr 3 = some (.ptr id 0 0)) :
    ∃ fr',exec (call fns m) m rest90 fr h1 = some (.ret,fr',h1) ∧ Fr.get fr' 6 = some (.int .i64 (refCode (tailMean p s))) := by
  have e43 := ok_43 m p.fd p.decls s (by have := hp.d; omega) hp.d h1
  have e44 := ok_44 m p.ft p.threads s (by have := hp.t; omega) hp.t h1
  have kt := idxOf_ge (fun t:Thread => t.name == s) p.threads
  unfold tailMean
  rcases idxOf_find (fun d:Decl => d.name == s) p.decls with ⟨j,d,q1,q2,q3,q4⟩ | ⟨q1,q2⟩
  · rw [q1]
    rw [q2] at e43
    have hj0:¬ ((j:Int) < 0) := by omega
    simp only
    by_cases c1:d.kind = 1
    · by_cases c2:d.size = 0 <;> simp [rest90,f90,iadv,ldv,cut,mk,V.cells,t2,t3,hg,Prog.v,e43,hj0,q3,Decl.v,c1,c2,declared,refCode]
    · by_cases c2:d.kind = 2
      · simp [rest90,f90,iadv,ldv,cut,mk,V.cells,t2,t3,hg,Prog.v,e43,hj0,q3,Decl.v,c1,c2,declared,refCode]
      · by_cases c3:d.kind = 3
        · simp [rest90,f90,iadv,ldv,cut,mk,V.cells,t2,t3,hg,Prog.v,e43,hj0,q3,Decl.v,c1,c2,c3,declared,refCode]
        · by_cases c4:d.kind = 4
          · simp [rest90,f90,iadv,ldv,cut,mk,V.cells,t2,t3,hg,Prog.v,e43,hj0,q3,Decl.v,c1,c2,c3,c4,declared,refCode]
          · by_cases c5:d.kind = 5
            · simp [rest90,f90,iadv,ldv,cut,mk,V.cells,t2,t3,hg,Prog.v,e43,hj0,q3,Decl.v,c1,c2,c3,c4,c5,declared,refCode]
            · by_cases c6:d.kind = 6 <;> simp [rest90,f90,iadv,ldv,cut,mk,V.cells,t2,t3,hg,Prog.v,e43,hj0,q3,Decl.v,c1,c2,c3,c4,c5,c6,declared,refCode]
  · rw [q1]
    rw [q2] at e43
    cases ht:p.threads.any fun t => t.name == s with
    | true =>
      have k2:0 ≤ idxOf (fun t:Thread => t.name == s) p.threads 0 := by rw [ht] at kt; simpa using kt
      simp [rest90,f90,iadv,ldv,cut,mk,V.cells,t2,t3,hg,Prog.v,e43,e44,k2,refCode]
    | false =>
      have k2:¬ 0 ≤ idxOf (fun t:Thread => t.name == s) p.threads 0 := by rw [ht] at kt; simpa using kt
      simp [rest90,f90,iadv,ldv,cut,mk,V.cells,t2,t3,hg,Prog.v,e43,e44,k2,refCode]
theorem any_swap (l:List (List Nat)) (s:List Nat):(l.any fun y => y == s) = (l.any fun y => s == y) := by
  congr 1; funext y
  exact Bool.eq_iff_iff.2 ⟨fun h => by simpa using (by simpa using h:y = s).symm,fun h => by simpa using (by simpa using h:s = y).symm⟩
theorem ok_90 (n:Nat) (hn:2 ^ 31 + 20 ≤ n) (p:Prog) (hp:p.Small) (i:Int) (s:List Nat) (h:H) :
    ∃ h',call fns n 90 [p.v,.int .i64 i,.str s] h = some (.int .i64 (refCode (meaning p i s)),h') ∧ Grow h h' := by
  obtain ⟨m,rfl⟩:∃ m,n = m + 1 := ⟨n - 1,by omega⟩
  let h1:H := ({ h with nx := h.nx + 1 }:H).set (h.nx * 256) (.row [p.v] 2 .rw)
  have g1:Grow h h1 := ((Grow.refl h).up (h.nx + 1) (by omega)).set (Nat.le_refl _) _
  have hid:h1.get (h.nx * 256) = some (.row [p.v] 2 .rw) := by simp [h1,H.get_set]
  refine ⟨h1,?_,g1⟩
  rw [call_succ]
  show call1 (call fns m) m f90 _ _ = _
  have q:∀ fr h,exec (call fns m) m f90.body fr h = match exec (call fns m) m head90 fr h with
      | some (.norm,fr',h') => exec (call fns m) m rest90 fr' h'
      | r => r := fun fr h => by
    have e:f90.body = .seq (match head90 with | .seq a _ => a | _ => .skip) (.seq (match head90 with | .seq _ b => b | _ => .skip) rest90) := rfl
    have e2:head90 = .seq (match head90 with | .seq a _ => a | _ => .skip) (match head90 with | .seq _ b => b | _ => .skip) := rfl
    rw [e]
    rw [e2]
    generalize (match head90 with | .seq a _ => a | _ => IC.skip) = A
    generalize (match head90 with | .seq _ b => b | _ => IC.skip) = B
    generalize rest90 = C
    simp only [exec]
    cases exec (call fns m) m A fr h with
    | none => rfl
    | some y =>
      obtain ⟨x,fr',h'⟩ := y
      cases x <;> rfl
  have fin:localAt p i s = false → (∃ fr',exec (call fns m) m head90 (enter 0 [p.v,.int .i64 i,.str s]) h = some (.norm,fr',h1) ∧ Fr.get fr' 2 = some (.str s) ∧ Fr.get fr' 3 = some (.ptr (h.nx * 256) 0 0)) →
      call1 (call fns m) m f90 [p.v,.int .i64 i,.str s] h = some (.int .i64 (refCode (meaning p i s)),h1) := by
    rintro hl ⟨fr',e,t2,t3⟩
    obtain ⟨fr2,e2,r⟩ := tail90 m (by omega) p hp s _ _ h1 hid fr' t2 t3
    have r1:f90.res = [.tmp 6] := rfl
    have r2:f90.fz = false := rfl
    unfold call1
    rw [q,e]
    simp only [e2]
    rw [meaning_tail hl]
    simp [r1,r2,r]
  by_cases h0:0 ≤ i
  · by_cases hi:i < (p.threads.length:Int)
    · obtain ⟨x,hx⟩:∃ x,p.threads[i.toNat]? = some x := ⟨_,List.getElem?_eq_getElem (by omega)⟩
      have hx2 := hp.l x (List.mem_of_getElem? hx)
      obtain ⟨hil,hxe⟩ := List.getElem?_eq_some_iff.1 hx
      have e45 := fun h => ok_45 m x.fl x.locals s (by omega) hx2 h
      have kl := idxOf_ge (fun y => y == s) x.locals
      rw [any_swap] at kl
      cases hb:x.locals.any fun y => s == y with
      | true =>
        have hl:localAt p i s = true := by simp [localAt,h0,hx,hb]
        have k':0 ≤ idxOf (fun y => y == s) x.locals 0 := by rw [hb] at kl; simpa using kl
        simp [f90,Fr.keep_cons',Fr.keep_nil,stepE,H.get_set,ldv,cut,mk,V.cells,Prog.v,Thread.v,iadv,h0,hi,hx,hxe,e45,k',h1,meaning,hl,refCode]
      | false =>
        have hl:localAt p i s = false := by simp [localAt,h0,hx,hb]
        have k':¬ 0 ≤ idxOf (fun y => y == s) x.locals 0 := by rw [hb] at kl; simpa using kl
        refine fin hl ?_
        simp [head90,f90,Fr.keep_cons',Fr.keep_nil,stepE,H.get_set,ldv,cut,mk,V.cells,Prog.v,Thread.v,iadv,h0,hi,hx,hxe,e45,k',h1]
    · have hl:localAt p i s = false := by
        have:p.threads[i.toNat]? = none := by rw [List.getElem?_eq_none_iff]; omega
        simp [localAt,this]
      refine fin hl ?_
      simp [head90,f90,Fr.keep_cons',Fr.keep_nil,stepE,H.get_set,ldv,cut,mk,V.cells,Prog.v,h0,hi,h1]
  · have hl:localAt p i s = false := by simp [localAt,h0]
    refine fin hl ?_
    simp [head90,f90,Fr.keep_cons',Fr.keep_nil,stepE,H.get_set,ldv,cut,mk,V.cells,Prog.v,h0,h1]

/-- The error of a name that means c,where the meanings ws are wanted. -/
def errOf (c:Int) (ws:List Int):Int := if c = 0 then 5 else if ws.any (fun x => decide (c = x)) then 0 else 6
theorem declared_range (d:Decl):2 ≤ declared d ∧ declared d ≤ 9 := by
  unfold declared
  split
  · split <;> omega
  · repeat (first | omega | split)
theorem tailMean_range (p:Prog) (s:List Nat):0 ≤ tailMean p s ∧ tailMean p s ≤ 9 := by
  unfold tailMean
  split
  · rename_i d _
    have := declared_range d
    omega
  · split <;> omega
theorem meaning_range (p:Prog) (i:Int) (s:List Nat):0 ≤ meaning p i s ∧ meaning p i s ≤ 9 := by
  unfold meaning
  have := tailMean_range p s
  split <;> omega

theorem ok_100 (n:Nat) (hn:2 ^ 31 + 22 ≤ n) (p:Prog) (hp:p.Small) (i:Int) (s:List Nat) (fw:Bool) (ws:List Int) (hw:ws.length ≤ 10) (h:H) :
    ∃ h',call fns n 100 [p.v,.int .i64 i,.str s,.sl fw (ws.map (V.int .i64))] h = some (.int .i64 (errOf (meaning p i s) ws),h') ∧ Grow h h' := by
  obtain ⟨m,rfl⟩:∃ m,n = m + 1 := ⟨n - 1,by omega⟩
  let h1:H := ({ h with nx := h.nx + 1 }:H).set (h.nx * 256) (.row [p.v] 2 .rw)
  have g1:Grow h h1 := ((Grow.refl h).up (h.nx + 1) (by omega)).set (Nat.le_refl _) _
  obtain ⟨h2,e38,g2⟩ := ok_38 m (by unfold Big; omega) (by omega) p hp i s h1
  refine ⟨h2,?_,g1.trans g2⟩
  have e98 := ok_98 m fw ws (meaning p i s) (by omega) (by omega) h2
  rw [call_succ]
  show call1 (call fns m) m f100 _ _ = _
  simp only [h1,Prog.v] at e38
  unfold errOf
  by_cases c0:meaning p i s = 0
  · simp [f100,Fr.keep_cons',Fr.keep_nil,stepE,H.get_set,ldv,cut,mk,V.cells,Prog.v,e38,c0]
  · cases hb:ws.any fun x => decide (meaning p i s = x) with
    | true => rw [hb] at e98; simp [f100,Fr.keep_cons',Fr.keep_nil,stepE,H.get_set,ldv,cut,mk,V.cells,Prog.v,e38,c0,e98]
    | false => rw [hb] at e98; simp [f100,Fr.keep_cons',Fr.keep_nil,stepE,H.get_set,ldv,cut,mk,V.cells,Prog.v,e38,c0,e98]

def wantE (c a b:Int):Int := if c = 0 then 5 else if refCode c = a ∨ refCode c = b then 0 else 6
theorem refCode_zero {c:Int} (h0:0 ≤ c) (h9:c ≤ 9):refCode c = 0 ↔ c = 0 := by
  unfold refCode
  repeat (first | omega | split)
theorem ok_66 (n:Nat) (hn:2 ^ 31 + 22 ≤ n) (p:Prog) (hp:p.Small) (i:Int) (s:List Nat) (a b:Int) (h:H) :
    ∃ h',call fns n 66 [p.v,.int .i64 i,.str s,.int .i64 a,.int .i64 b] h = some (.int .i64 (wantE (meaning p i s) a b),h') ∧ Grow h h' := by
  obtain ⟨m,rfl⟩:∃ m,n = m + 1 := ⟨n - 1,by omega⟩
  let h1:H := ({ h with nx := h.nx + 1 }:H).set (h.nx * 256) (.row [p.v] 2 .rw)
  have g1:Grow h h1 := ((Grow.refl h).up (h.nx + 1) (by omega)).set (Nat.le_refl _) _
  obtain ⟨h2,e90,g2⟩ := ok_90 m (by omega) p hp i s h1
  refine ⟨h2,?_,g1.trans g2⟩
  rw [call_succ]
  show call1 (call fns m) m f66 _ _ = _
  simp only [h1,Prog.v] at e90
  have r := meaning_range p i s
  have rz := refCode_zero r.1 r.2
  unfold wantE
  by_cases c0:meaning p i s = 0
  · have z:refCode 0 = 0 := rfl
    simp [f66,Fr.keep_cons',Fr.keep_nil,stepE,H.get_set,ldv,cut,mk,V.cells,Prog.v,e90,c0,z]
  · have z:¬ refCode (meaning p i s) = 0 := fun hz => c0 (rz.1 hz)
    by_cases ha:refCode (meaning p i s) = a
    · have za:¬ a = 0 := fun hz => z (ha.trans hz)
      simp [f66,Fr.keep_cons',Fr.keep_nil,stepE,H.get_set,ldv,cut,mk,V.cells,Prog.v,e90,c0,za,ha]
    · by_cases hb:refCode (meaning p i s) = b
      · have zb:¬ b = 0 := fun hz => z (hb.trans hz)
        have hba:¬ b = a := fun hz => ha (hb.trans hz)
        simp [f66,Fr.keep_cons',Fr.keep_nil,stepE,H.get_set,ldv,cut,mk,V.cells,Prog.v,e90,c0,zb,hba,hb]
      · simp [f66,Fr.keep_cons',Fr.keep_nil,stepE,H.get_set,ldv,cut,mk,V.cells,Prog.v,e90,c0,z,ha,hb]

/-! ### Expressions -/
def Expr.op:Expr → Int | .mk op _ _ _ _ => op
def Expr.num:Expr → Int | .mk _ n _ _ _ => n
def Expr.nm:Expr → List Nat | .mk _ _ nm _ _ => nm
def Expr.full:Expr → Bool | .mk _ _ _ f _ => f
def Expr.l:Expr → List Expr | .mk _ _ _ _ l => l
theorem Expr.v_eq (e:Expr):e.v = .agg [.int .i64 e.op,.int .i64 e.num,.str e.nm,.sl e.full (e.l.map Expr.v)] := by
  obtain ⟨o,n,nm,f,l⟩ := e
  simp [Expr.v,Expr.cs,Expr.vs_map,Expr.op,Expr.num,Expr.nm,Expr.full,Expr.l]
mutual
def Expr.nodes:Expr → Nat
  | .mk _ _ _ _ l => 1 + Expr.nodesL l
def Expr.nodesL:List Expr → Nat
  | [] => 0
  | e :: l => e.nodes + Expr.nodesL l
end
mutual
def Expr.depth:Expr → Nat
  | .mk _ _ _ _ l => Expr.depthL l + 1
def Expr.depthL:List Expr → Nat
  | [] => 0
  | e :: l => max e.depth (Expr.depthL l)
end
theorem Expr.nodes_eq (e:Expr):e.nodes = 1 + Expr.nodesL e.l := by obtain ⟨o,n,nm,f,l⟩ := e; rfl
theorem Expr.depth_eq (e:Expr):e.depth = Expr.depthL e.l + 1 := by obtain ⟨o,n,nm,f,l⟩ := e; rfl
theorem Expr.depth_lt {e x:Expr} (h:x ∈ e.l):x.depth < e.depth := by
  rw [Expr.depth_eq e]
  have:∀ l:List Expr,x ∈ l → x.depth ≤ Expr.depthL l := by
    intro l
    induction l with
    | nil => intro h; cases h
    | cons y l ih =>
      intro h
      simp only [Expr.depthL]
      rcases List.mem_cons.1 h with rfl | h
      · exact Nat.le_max_left ..
      · exact Nat.le_trans (ih h) (Nat.le_max_right ..)
  have := this _ h
  omega
theorem Expr.nodes_mem {e x:Expr} (h:x ∈ e.l):x.nodes < e.nodes := by
  rw [Expr.nodes_eq e]
  have:∀ l:List Expr,x ∈ l → x.nodes ≤ Expr.nodesL l := by
    intro l
    induction l with
    | nil => intro h; cases h
    | cons y l ih =>
      intro h
      simp only [Expr.nodesL]
      rcases List.mem_cons.1 h with rfl | h
      · omega
      · have := ih h; omega
  have := this _ h
  omega
theorem Expr.len_nodes (e:Expr):e.l.length < e.nodes := by
  rw [Expr.nodes_eq]
  have:∀ l:List Expr,l.length ≤ Expr.nodesL l := by
    intro l
    induction l with
    | nil => simp
    | cons y l ih =>
      simp only [List.length_cons,Expr.nodesL]
      have:1 ≤ y.nodes := by rw [Expr.nodes_eq]; omega
      omega
  have := this e.l
  omega
theorem nodesL_take (l:List Expr) (i:Nat) (x:Expr) (h:l[i]? = some x):Expr.nodesL (l.take (i + 1)) = Expr.nodesL (l.take i) + x.nodes := by
  induction l generalizing i with
  | nil => simp at h
  | cons y l ih =>
    cases i with
    | zero => simp at h; subst h; simp [Expr.nodesL]
    | succ i => simp only [List.take_succ_cons,Expr.nodesL]; rw [ih i (by simpa using h)]; omega
theorem nodesL_le (l:List Expr) (i:Nat):Expr.nodesL (l.take i) ≤ Expr.nodesL l := by
  induction l generalizing i with
  | nil => simp
  | cons y l ih =>
    cases i with
    | zero => simp [Expr.nodesL]
    | succ i => simp only [List.take_succ_cons,Expr.nodesL]; have := ih i; omega

theorem ldE (x:Expr) (h:H):ldv h 4 true (.vptr x.v.cells) = some x.v := by
  rw [Expr.v_eq]
  simp [ldv,V.cells,cut,mk]
structure I102 (e:Expr) (h1:H) (i:Nat) (fr:Fr) (h:H):Prop where
  gr:Grow h1 h
  t3:Fr.get fr 3 = some (.int .i64 ((1 + Expr.nodesL (e.l.take i):Nat):Int))
  t7:Fr.get fr 7 = some (.sl e.full (e.l.map Expr.v))
  t8:Fr.get fr 8 = some (.int .i64 e.l.length)
  t9:Fr.get fr 9 = some (.int .i64 i)
theorem ok_102' (d:Nat):∀ (e:Expr) (hde:e.depth ≤ d) (n:Nat) (hn:2147483668 + d ≤ n) (hs:e.nodes < 2147483648) (h:H),∃ h',call fns n 102 [e.v] h = some (.int .i64 e.nodes,h') ∧ Grow h h' := by
  induction d with
  | zero => intro e hde; rw [Expr.depth_eq] at hde; omega
  | succ d ih =>
  intro e hde n hn hs h
  obtain ⟨m,rfl⟩:∃ m,n = m + 1 := ⟨n - 1,by omega⟩
  let h1:H := ({ h with nx := h.nx + 1 }:H).set (h.nx * 256) (.row [e.v] 4 .rw)
  have g1:Grow h h1 := ((Grow.refl h).up (h.nx + 1) (by omega)).set (Nat.le_refl _) _
  have hlen := Expr.len_nodes e
  have L := loopN_ind (b := exec (call fns m) m b102_0) (n := e.l.length) (I := I102 e h1) (Q := fun x fr' h' => x = .brk 0 ∧ Grow h1 h' ∧ Fr.get fr' 3 = some (.int .i64 e.nodes))
    (fun i fr k hi hI => by
      obtain ⟨gr,t3,t7,t8,t9⟩ := hI
      obtain ⟨x,hx⟩:∃ x,e.l[i]? = some x := ⟨_,List.getElem?_eq_getElem hi⟩
      have hm := List.mem_of_getElem? hx
      have hd := Expr.depth_lt hm
      have hnm := Expr.nodes_mem hm
      have hi':(i:Int) < (e.l.length:Int) := by omega
      have hw:wrp .i64 ((i:Int) + 1) = (i:Int) + 1 := wrp_i64 (by omega) (by omega)
      have ga:Grow h1 (({ k with nx := k.nx + 1 }:H).set (k.nx * 256 + 2) (.row [.agg [.int .i64 0,.int .i64 0,.str [],.sl true []]] 4 .rw)) := (gr.up (k.nx + 1) (by omega)).set (by have := gr.1; omega) _
      have gb := ga.set (id := k.nx * 256 + 2) (by have := gr.1; omega) (.row [x.v] 4 .rw)
      obtain ⟨k',ec,gc⟩ := ih x (by omega) m (by omega) (by omega) ((({ k with nx := k.nx + 1 }:H).set (k.nx * 256 + 2) (.row [.agg [.int .i64 0,.int .i64 0,.str [],.sl true []]] 4 .rw)).set (k.nx * 256 + 2) (.row [x.v] 4 .rw))
      have hsum := nodesL_take e.l i x hx
      have hle := nodesL_le e.l (i + 1)
      have hne := Expr.nodes_eq e
      have hw2:wrp .i64 (1 + (Expr.nodesL (e.l.take i):Int) + (x.nodes:Int)) = 1 + (Expr.nodesL (e.l.take i):Int) + (x.nodes:Int) := wrp_i64 (by omega) (by omega)
      have el := ldE x k
      refine .inl ?_
      rw [Expr.v_eq x] at ec el gb gc
      simp [b102_0,iadv,ldv,cut,mk,V.cells,stepE,H.get_set,stv,splice,one,t3,t7,t8,t9,hi',hx,hw,hw2,Expr.v_eq x,ec]
      exact ⟨_,_,⟨rfl,rfl⟩,gb.trans gc,by simp [hsum]; omega,by simp [t7],by simp [t8],by simp⟩)
    (fun fr k hI => by
      obtain ⟨gr,t3,t7,t8,t9⟩ := hI
      have hne := Expr.nodes_eq e
      simp [b102_0,iadv,ldv,cut,mk,V.cells,t3,t7,t8,t9]
      exact ⟨.brk 0,by simp,_,_,⟨rfl,rfl,rfl⟩,rfl,gr,by simp [t3,hne]⟩)
    e.l.length 0 (by omega) (by omega) m (by omega)
  obtain ⟨fr3,e3,i3⟩:∃ fr3,exec (call fns m) m (.seq s102_0 (.seq s102_1 p102_2)) (enter 0 [e.v]) h = some (.norm,fr3,h1) ∧ I102 e h1 0 fr3 h1 := by
    have ev := Expr.v_eq e
    simp [s102_0,s102_1,p102_2,Fr.keep_cons',Fr.keep_nil,stepE,H.get_set,ldv,cut,mk,V.cells,ev,h1]
    exact ⟨Grow.refl _,by simp [Expr.nodesL],by simp,by simp,by simp⟩
  obtain ⟨x,fr4,h4,e4,rfl,g4,q4⟩ := L fr3 h1 i3
  refine ⟨h4,?_,g1.trans g4⟩
  rw [call_succ]
  show call1 (call fns m) m f102 _ _ = _
  have q:exec (call fns m) m f102.body (enter 0 [e.v]) h = exec (call fns m) m (.seq s102_3 s102_4) fr4 h4 := by
    rw [body_102,seg_102_2]
    simp only [exec] at e3 ⊢
    revert e3
    cases exec (call fns m) m s102_0 (enter 0 [e.v]) h with
    | none => intro e3; cases e3
    | some y =>
      obtain ⟨x,fr5,h5⟩ := y
      cases x <;> simp only <;> try (intro e3; cases e3; done)
      cases exec (call fns m) m s102_1 fr5 h5 with
      | none => intro e3; cases e3
      | some y =>
        obtain ⟨x,fr6,h6⟩ := y
        cases x <;> simp only <;> try (intro e3; cases e3; done)
        intro e3
        rw [e3]
        simp only [e4,if_true]
  unfold call1
  rw [q]
  simp [s102_3,s102_4,iadv,ldv,cut,mk,V.cells,q4,res_102,fz_102]

theorem exec_assoc (cf:CallF) (k:Nat) (a b c:IC) (fr:Fr) (h:H):exec cf k (.seq (.seq a b) c) fr h = exec cf k (.seq a (.seq b c)) fr h := by
  simp only [exec]
  cases exec cf k a fr h with
  | none => rfl
  | some y =>
    obtain ⟨x,fr',h'⟩ := y
    cases x <;> rfl
theorem exec_then {cf:CallF} {k:Nat} {a b:IC} {fr fr':Fr} {h h':H} (e:exec cf k a fr h = some (.norm,fr',h')):exec cf k (.seq a b) fr h = exec cf k b fr' h' := by
  simp only [exec,e]
theorem exec_out {cf:CallF} {k:Nat} {a b:IC} {fr fr':Fr} {h h':H} {x:X} (hx:x ≠ .norm) (e:exec cf k a fr h = some (x,fr',h')):exec cf k (.seq a b) fr h = some (x,fr',h') := by
  simp only [exec,e]
  cases x with
  | norm => exact absurd rfl hx
  | brk id => rfl
  | ret => rfl
theorem exec_brk {cf:CallF} {k:Nat} {b:IC} {d:Nat} {fr fr':Fr} {h h':H} (e:loopN (exec cf k b) k fr h = some (.brk d,fr',h')):exec cf k (.block d (.loop b)) fr h = some (.norm,fr',h') := by
  simp only [exec,e,if_true]
theorem exec_bret {cf:CallF} {k:Nat} {b:IC} {d:Nat} {fr fr':Fr} {h h':H} (e:loopN (exec cf k b) k fr h = some (.ret,fr',h')):exec cf k (.block d (.loop b)) fr h = some (.ret,fr',h') := by
  simp only [exec,e]

theorem exec_seq_norm {cf:CallF} {k:Nat} {a b:IC} {fr fr':Fr} {h h':H} (e:exec cf k (.seq a b) fr h = some (.norm,fr',h')):∃ fr1 h1,exec cf k a fr h = some (.norm,fr1,h1) ∧ exec cf k b fr1 h1 = some (.norm,fr',h') := by
  simp only [exec] at e
  split at e
  · rename_i fr1 h1 e1
    exact ⟨fr1,h1,e1,e⟩
  · rename_i r hr
    exact absurd e (hr fr' h')
theorem glue2 {cf:CallF} {k:Nat} {a p L R:IC} {fr fr3 fr4:Fr} {h h1 h4:H} (e:exec cf k (.seq a p) fr h = some (.norm,fr3,h1)) (eL:exec cf k L fr3 h1 = some (.norm,fr4,h4)) :
    exec cf k (.seq a (.seq (.seq p L) R)) fr h = exec cf k R fr4 h4 := by
  obtain ⟨f1,k1,e1,e2⟩ := exec_seq_norm e
  rw [exec_then e1,exec_assoc,exec_then e2,exec_then eL]
theorem glue3 {cf:CallF} {k:Nat} {a b p L R:IC} {fr fr3 fr4:Fr} {h h1 h4:H} (e:exec cf k (.seq a (.seq b p)) fr h = some (.norm,fr3,h1)) (eL:exec cf k L fr3 h1 = some (.norm,fr4,h4)) :
    exec cf k (.seq a (.seq b (.seq (.seq p L) R))) fr h = exec cf k R fr4 h4 := by
  obtain ⟨f1,k1,e1,e2⟩ := exec_seq_norm e
  rw [exec_then e1,glue2 e2 eL]

theorem depthL_take (l:List Expr) (i:Nat) (x:Expr) (h:l[i]? = some x):Expr.depthL (l.take (i + 1)) = max (Expr.depthL (l.take i)) x.depth := by
  induction l generalizing i with
  | nil => simp at h
  | cons y l ih =>
    cases i with
    | zero => simp at h; subst h; simp [Expr.depthL]
    | succ i => simp only [List.take_succ_cons,Expr.depthL]; rw [ih i (by simpa using h)]; omega
theorem Expr.depth_le_nodes (d:Nat):∀ e:Expr,e.depth ≤ d → e.depth ≤ e.nodes := by
  induction d with
  | zero => intro e h; omega
  | succ d ih =>
    intro e h
    rw [Expr.depth_eq,Expr.nodes_eq]
    have key:∀ l:List Expr,(∀ x,x ∈ l → x.depth ≤ x.nodes) → Expr.depthL l ≤ Expr.nodesL l := by
      intro l
      induction l with
      | nil => intro _; simp [Expr.depthL]
      | cons y l ihl =>
        intro hy
        simp only [Expr.depthL,Expr.nodesL]
        have := ihl fun x hx => hy x (List.mem_cons_of_mem _ hx)
        have := hy y (List.mem_cons_self ..)
        omega
    have := key e.l fun x hx => ih x (by have := Expr.depth_lt hx; omega)
    omega
theorem mx_nat (a b:Nat):(if (b:Int) > (a:Int) then V.int .i64 (b:Int) else V.int .i64 (a:Int)) = V.int .i64 ((max a b:Nat):Int) := by
  split
  · congr 1; omega
  · congr 1; omega
structure I103 (e:Expr) (h1:H) (i:Nat) (fr:Fr) (h:H):Prop where
  gr:Grow h1 h
  t3:Fr.get fr 3 = some (.int .i64 ((Expr.depthL (e.l.take i):Nat):Int))
  t7:Fr.get fr 7 = some (.sl e.full (e.l.map Expr.v))
  t8:Fr.get fr 8 = some (.int .i64 e.l.length)
  t9:Fr.get fr 9 = some (.int .i64 i)
theorem ok_103' (d:Nat):∀ (e:Expr) (hde:e.depth ≤ d) (n:Nat) (hn:2147483668 + d ≤ n) (hs:e.nodes < 2147483648) (h:H),∃ h',call fns n 103 [e.v] h = some (.int .i64 e.depth,h') ∧ Grow h h' := by
  induction d with
  | zero => intro e hde; rw [Expr.depth_eq] at hde; omega
  | succ d ih =>
  intro e hde n hn hs h
  obtain ⟨m,rfl⟩:∃ m,n = m + 1 := ⟨n - 1,by omega⟩
  let h1:H := ({ h with nx := h.nx + 1 }:H).set (h.nx * 256) (.row [e.v] 4 .rw)
  have g1:Grow h h1 := ((Grow.refl h).up (h.nx + 1) (by omega)).set (Nat.le_refl _) _
  have hlen := Expr.len_nodes e
  have L := loopN_ind (b := exec (call fns m) m b103_0) (n := e.l.length) (I := I103 e h1) (Q := fun x fr' h' => x = .brk 0 ∧ Grow h1 h' ∧ Fr.get fr' 3 = some (.int .i64 ((Expr.depthL e.l:Nat):Int)))
    (fun i fr k hi hI => by
      obtain ⟨gr,t3,t7,t8,t9⟩ := hI
      obtain ⟨x,hx⟩:∃ x,e.l[i]? = some x := ⟨_,List.getElem?_eq_getElem hi⟩
      have hm := List.mem_of_getElem? hx
      have hd := Expr.depth_lt hm
      have hnm := Expr.nodes_mem hm
      have hi':(i:Int) < (e.l.length:Int) := by omega
      have hw:wrp .i64 ((i:Int) + 1) = (i:Int) + 1 := wrp_i64 (by omega) (by omega)
      have ga:Grow h1 (({ k with nx := k.nx + 1 }:H).set (k.nx * 256 + 2) (.row [.agg [.int .i64 0,.int .i64 0,.str [],.sl true []]] 4 .rw)) := (gr.up (k.nx + 1) (by omega)).set (by have := gr.1; omega) _
      have gb := ga.set (id := k.nx * 256 + 2) (by have := gr.1; omega) (.row [x.v] 4 .rw)
      obtain ⟨k',ec,gc⟩ := ih x (by omega) m (by omega) (by omega) ((({ k with nx := k.nx + 1 }:H).set (k.nx * 256 + 2) (.row [.agg [.int .i64 0,.int .i64 0,.str [],.sl true []]] 4 .rw)).set (k.nx * 256 + 2) (.row [x.v] 4 .rw))
      have hsum := depthL_take e.l i x hx
      have hmx := mx_nat (Expr.depthL (e.l.take i)) x.depth
      have el := ldE x k
      refine .inl ?_
      rw [Expr.v_eq x] at ec el gb gc
      rcases Nat.lt_or_ge (Expr.depthL (e.l.take i)) x.depth with hlt | hge
      · have hg:(x.depth:Int) > (Expr.depthL (e.l.take i):Int) := by omega
        have hmm:max (Expr.depthL (e.l.take i)) x.depth = x.depth := by omega
        simp [b103_0,iadv,ldv,cut,mk,V.cells,stepE,H.get_set,stv,splice,one,t3,t7,t8,t9,hi',hx,hw,Expr.v_eq x,ec,foldv,mxv,hg]
        exact ⟨_,_,⟨rfl,rfl⟩,gb.trans gc,by simp [hsum,hmm],by simp [t7],by simp [t8],by simp⟩
      · have hg:¬ (x.depth:Int) > (Expr.depthL (e.l.take i):Int) := by omega
        have hmm:max (Expr.depthL (e.l.take i)) x.depth = Expr.depthL (e.l.take i) := by omega
        simp [b103_0,iadv,ldv,cut,mk,V.cells,stepE,H.get_set,stv,splice,one,t3,t7,t8,t9,hi',hx,hw,Expr.v_eq x,ec,foldv,mxv,hge]
        exact ⟨_,_,⟨rfl,rfl⟩,gb.trans gc,by simp [hsum,hmm]; intro hh; omega,by simp [t7],by simp [t8],by simp⟩)
    (fun fr k hI => by
      obtain ⟨gr,t3,t7,t8,t9⟩ := hI
      simp [b103_0,iadv,ldv,cut,mk,V.cells,t3,t7,t8,t9]
      exact ⟨.brk 0,by simp,_,_,⟨rfl,rfl,rfl⟩,rfl,gr,by simp [t3]⟩)
    e.l.length 0 (by omega) (by omega) m (by omega)
  obtain ⟨fr3,e3,i3⟩:∃ fr3,exec (call fns m) m (.seq s103_0 (.seq s103_1 p103_2)) (enter 0 [e.v]) h = some (.norm,fr3,h1) ∧ I103 e h1 0 fr3 h1 := by
    have ev := Expr.v_eq e
    simp [s103_0,s103_1,p103_2,Fr.keep_cons',Fr.keep_nil,stepE,H.get_set,ldv,cut,mk,V.cells,ev,h1]
    exact ⟨Grow.refl _,by simp [Expr.depthL],by simp,by simp,by simp⟩
  obtain ⟨x,fr4,h4,e4,rfl,g4,q4⟩ := L fr3 h1 i3
  refine ⟨h4,?_,g1.trans g4⟩
  rw [call_succ]
  show call1 (call fns m) m f103 _ _ = _
  have q:exec (call fns m) m f103.body (enter 0 [e.v]) h = exec (call fns m) m (.seq s103_3 s103_4) fr4 h4 := by
    rw [body_103,seg_103_2]
    exact glue3 e3 (exec_brk e4)
  have hde' := Expr.depth_eq e
  have hdn := Expr.depth_le_nodes _ e (Nat.le_refl _)
  have hw:wrp .i64 ((Expr.depthL e.l:Int) + 1) = (Expr.depthL e.l:Int) + 1 := wrp_i64 (by omega) (by omega)
  unfold call1
  rw [q]
  simp [s103_3,s103_4,iadv,ldv,cut,mk,V.cells,q4,res_103,fz_103,hw,hde']

structure I91 (e:Expr) (id:Nat) (h1:H) (i:Nat) (fr:Fr) (h:H):Prop where
  gr:Grow h1 h
  t1:Fr.get fr 1 = some (.ptr id 0 0)
  t4:Fr.get fr 4 = some (.int .i64 ((1 + Expr.nodesL (e.l.take i):Nat):Int))
  t5:Fr.get fr 5 = some (.int .i64 ((Expr.depthL (e.l.take i):Nat):Int))
  t6:Fr.get fr 6 = some (.int .i64 i)
theorem ok_91' (d:Nat):∀ (e:Expr) (hde:e.depth ≤ d) (n:Nat) (hn:2147483668 + d ≤ n) (hs:e.nodes < 2147483648) (h:H),∃ h',call fns n 91 [e.v] h = some (.tup [.int .i64 e.nodes,.int .i64 e.depth],h') ∧ Grow h h' := by
  induction d with
  | zero => intro e hde; rw [Expr.depth_eq] at hde; omega
  | succ d ih =>
  intro e hde n hn hs h
  obtain ⟨m,rfl⟩:∃ m,n = m + 1 := ⟨n - 1,by omega⟩
  let h1:H := ({ h with nx := h.nx + 1 }:H).set (h.nx * 256) (.row [e.v] 4 .rw)
  have g1:Grow h h1 := ((Grow.refl h).up (h.nx + 1) (by omega)).set (Nat.le_refl _) _
  have hid:h1.get (h.nx * 256) = some (.row [e.v] 4 .rw) := by simp [h1,H.get_set]
  have hlt:h.nx * 256 < h1.nx * 256 := by show h.nx * 256 < (h.nx + 1) * 256; omega
  have hlen := Expr.len_nodes e
  have hne := Expr.nodes_eq e
  have L := loopN_ind (b := exec (call fns m) m b91_0) (n := e.l.length) (I := I91 e (h.nx * 256) h1) (Q := fun x fr' h' => x = .brk 0 ∧ Grow h1 h' ∧ Fr.get fr' 4 = some (.int .i64 e.nodes) ∧ Fr.get fr' 5 = some (.int .i64 ((Expr.depthL e.l:Nat):Int)))
    (fun i fr k hi hI => by
      obtain ⟨gr,t1,t4,t5,t6⟩ := hI
      obtain ⟨x,hx⟩:∃ x,e.l[i]? = some x := ⟨_,List.getElem?_eq_getElem hi⟩
      have hm := List.mem_of_getElem? hx
      have hd := Expr.depth_lt hm
      have hnm := Expr.nodes_mem hm
      have hi':(i:Int) < (e.l.length:Int) := by omega
      have hw:wrp .i64 ((i:Int) + 1) = (i:Int) + 1 := wrp_i64 (by omega) (by omega)
      have hg:k.get (h.nx * 256) = some (.row [e.v] 4 .rw) := by rw [gr.2 _ hlt]; exact hid
      obtain ⟨k',ec,gc⟩ := ih x (by omega) m (by omega) (by omega) k
      have hsum := nodesL_take e.l i x hx
      have hle := nodesL_le e.l (i + 1)
      have hdm := depthL_take e.l i x hx
      have hw2:wrp .i64 (1 + (Expr.nodesL (e.l.take i):Int) + (x.nodes:Int)) = 1 + (Expr.nodesL (e.l.take i):Int) + (x.nodes:Int) := wrp_i64 (by omega) (by omega)
      have el := ldE x k
      refine .inl ?_
      rw [Expr.v_eq e] at hg
      rw [Expr.v_eq x] at ec el
      rcases Nat.lt_or_ge (Expr.depthL (e.l.take i)) x.depth with hlt2 | hge
      · have hmm:max (Expr.depthL (e.l.take i)) x.depth = x.depth := by omega
        have hg2:(x.depth:Int) > (Expr.depthL (e.l.take i):Int) := by omega
        simp [b91_0,iadv,ldv,cut,mk,V.cells,t1,t4,t5,t6,hg,hi',hx,hw,hw2,Expr.v_eq x,ec,foldv,mxv,hlt2]
        exact ⟨_,_,⟨rfl,rfl⟩,gr.trans gc,by simp [t1],by simp [hsum]; omega,by simp [hdm,hmm],by simp⟩
      · have hmm:max (Expr.depthL (e.l.take i)) x.depth = Expr.depthL (e.l.take i) := by omega
        simp [b91_0,iadv,ldv,cut,mk,V.cells,t1,t4,t5,t6,hg,hi',hx,hw,hw2,Expr.v_eq x,ec,foldv,mxv,hge]
        exact ⟨_,_,⟨rfl,rfl⟩,gr.trans gc,by simp [t1],by simp [hsum]; omega,by simp [hdm,hmm]; intro hh; omega,by simp⟩)
    (fun fr k hI => by
      obtain ⟨gr,t1,t4,t5,t6⟩ := hI
      have hg:k.get (h.nx * 256) = some (.row [e.v] 4 .rw) := by rw [gr.2 _ hlt]; exact hid
      rw [Expr.v_eq e] at hg
      simp [b91_0,iadv,ldv,cut,mk,V.cells,t1,t4,t5,t6,hg]
      exact ⟨.brk 0,by simp,_,_,⟨rfl,rfl,rfl⟩,rfl,gr,by simp [t4,hne],by simp [t5]⟩)
    e.l.length 0 (by omega) (by omega) m (by omega)
  obtain ⟨fr3,e3,i3⟩:∃ fr3,exec (call fns m) m (.seq s91_0 (.seq s91_1 p91_2)) (enter 0 [e.v]) h = some (.norm,fr3,h1) ∧ I91 e (h.nx * 256) h1 0 fr3 h1 := by
    have ev := Expr.v_eq e
    simp [s91_0,s91_1,p91_2,Fr.keep_cons',Fr.keep_nil,stepE,H.get_set,ldv,cut,mk,V.cells,ev,h1]
    exact ⟨Grow.refl _,by simp,by simp [Expr.nodesL],by simp [Expr.depthL],by simp⟩
  obtain ⟨x,fr4,h4,e4,rfl,g4,q4,q5⟩ := L fr3 h1 i3
  refine ⟨h4,?_,g1.trans g4⟩
  rw [call_succ]
  show call1 (call fns m) m f91 _ _ = _
  have q:exec (call fns m) m f91.body (enter 0 [e.v]) h = exec (call fns m) m (.seq s91_3 s91_4) fr4 h4 := by
    rw [body_91,seg_91_2]
    exact glue3 e3 (exec_brk e4)
  have hde' := Expr.depth_eq e
  have hdn := Expr.depth_le_nodes _ e (Nat.le_refl _)
  have hw:wrp .i64 ((Expr.depthL e.l:Int) + 1) = (Expr.depthL e.l:Int) + 1 := wrp_i64 (by omega) (by omega)
  unfold call1
  rw [q]
  simp [s91_3,s91_4,iadv,ldv,cut,mk,V.cells,q4,q5,res_91,fz_91,hw,hde']

/-! ### The names of an expression -/
/-- The code for the wanted meanings of an expression's own name. -/
def ownErr (p:Prog) (t:Int) (e:Expr):Int := if e.op = 2 then errOf (meaning p t e.nm) [1,2] else if e.op = 3 then errOf (meaning p t e.nm) [3] else 0
mutual
def namesErr (p:Prog) (t:Int):Expr → Int
  | .mk op n nm f l => if ownErr p t (.mk op n nm f l) = 0 then namesErrL p t l else ownErr p t (.mk op n nm f l)
def namesErrL (p:Prog) (t:Int):List Expr → Int
  | [] => 0
  | e :: l => if namesErr p t e = 0 then namesErrL p t l else namesErr p t e
end
theorem namesErr_eq (p:Prog) (t:Int) (e:Expr):namesErr p t e = if ownErr p t e = 0 then namesErrL p t e.l else ownErr p t e := by
  obtain ⟨op,n,nm,f,l⟩ := e
  rfl
/-- want's error at the constants that are used. -/
theorem want_local (c:Int) (h0:0 ≤ c) (h9:c ≤ 9):wantE c 8 1 = errOf c [1,2] := by
  have:c = 0 ∨ c = 1 ∨ c = 2 ∨ c = 3 ∨ c = 4 ∨ c = 5 ∨ c = 6 ∨ c = 7 ∨ c = 8 ∨ c = 9 := by omega
  rcases this with rfl | rfl | rfl | rfl | rfl | rfl | rfl | rfl | rfl | rfl <;> rfl
theorem want_array (c:Int) (h0:0 ≤ c) (h9:c ≤ 9):wantE c 2 2 = errOf c [3] := by
  have:c = 0 ∨ c = 1 ∨ c = 2 ∨ c = 3 ∨ c = 4 ∨ c = 5 ∨ c = 6 ∨ c = 7 ∨ c = 8 ∨ c = 9 := by omega
  rcases this with rfl | rfl | rfl | rfl | rfl | rfl | rfl | rfl | rfl | rfl <;> rfl

theorem namesErrL_take (p:Prog) (t:Int) (l:List Expr) (i:Nat) (x:Expr) (h:l[i]? = some x):namesErrL p t (l.take (i + 1)) = if namesErrL p t (l.take i) = 0 then namesErr p t x else namesErrL p t (l.take i) := by
  induction l generalizing i with
  | nil => simp at h
  | cons y l ih =>
    cases i with
    | zero => simp at h; subst h; simp [namesErrL]; intro hh; exact hh.symm
    | succ i =>
      simp only [List.take_succ_cons,namesErrL]
      rw [ih i (by simpa using h)]
      by_cases hy:namesErr p t y = 0 <;> simp [hy]
theorem namesErrL_stop (p:Prog) (t:Int) (l:List Expr) (i:Nat) (h:namesErrL p t (l.take i) ≠ 0):namesErrL p t l = namesErrL p t (l.take i) := by
  induction l generalizing i with
  | nil => simp
  | cons y l ih =>
    cases i with
    | zero => simp [namesErrL] at h
    | succ i =>
      simp only [List.take_succ_cons,namesErrL] at h ⊢
      by_cases hy:namesErr p t y = 0
      · simp only [hy,if_true] at h ⊢
        exact ih i h
      · simp [hy]
/-- The error behind the first i operands. -/
def errAt (p:Prog) (t:Int) (e:Expr) (i:Nat):Int := if ownErr p t e = 0 then namesErrL p t (e.l.take i) else ownErr p t e
theorem errAt_all (p:Prog) (t:Int) (e:Expr):errAt p t e e.l.length = namesErr p t e := by
  rw [namesErr_eq]; simp [errAt]
theorem errAt_stop (p:Prog) (t:Int) (e:Expr) (i:Nat) (h:errAt p t e i ≠ 0):namesErr p t e = errAt p t e i := by
  rw [namesErr_eq]
  unfold errAt at h ⊢
  split
  · rename_i h0
    rw [if_pos h0] at h
    exact namesErrL_stop p t e.l i h
  · rfl
theorem errAt_succ (p:Prog) (t:Int) (e:Expr) (i:Nat) (x:Expr) (hx:e.l[i]? = some x) (h:errAt p t e i = 0):errAt p t e (i + 1) = namesErr p t x := by
  unfold errAt at h ⊢
  split
  · rename_i h0
    rw [if_pos h0] at h
    rw [namesErrL_take p t e.l i x hx,if_pos h]
  · rename_i h0
    rw [if_neg h0] at h
    exact absurd h h0
structure I104 (p:Prog) (t:Int) (e:Expr) (ip ie:Nat) (h1:H) (i:Nat) (fr:Fr) (h:H):Prop where
  gr:Grow h1 h
  t1:Fr.get fr 1 = some (.int .i64 t)
  t3:Fr.get fr 3 = some (.ptr ip 0 0)
  t5:Fr.get fr 5 = some (.ptr ie 0 0)
  t7:Fr.get fr 7 = some (.int .i64 (errAt p t e i))
  t8:Fr.get fr 8 = some (.int .i64 i)
theorem ok_104' (p:Prog) (hp:p.Small) (t:Int) (d:Nat):∀ (e:Expr) (hde:e.depth ≤ d) (n:Nat) (hn:2147483680 + d ≤ n) (hs:e.nodes < 2147483648) (h:H),∃ h',call fns n 104 [p.v,.int .i64 t,e.v] h = some (.int .i64 (namesErr p t e),h') ∧ Grow h h' := by
  induction d with
  | zero => intro e hde; rw [Expr.depth_eq] at hde; omega
  | succ d ih =>
  intro e hde n hn hs h
  obtain ⟨m,rfl⟩:∃ m,n = m + 1 := ⟨n - 1,by omega⟩
  let h1:H := (({ h with nx := h.nx + 1 }:H).set (h.nx * 256) (.row [p.v] 2 .rw)).set (h.nx * 256 + 1) (.row [e.v] 4 .rw)
  have g1:Grow h h1 := (((Grow.refl h).up (h.nx + 1) (by omega)).set (Nat.le_refl _) _).set (by omega) _
  have hip:h1.get (h.nx * 256) = some (.row [p.v] 2 .rw) := by simp [h1,H.get_set]
  have hie:h1.get (h.nx * 256 + 1) = some (.row [e.v] 4 .rw) := by simp [h1,H.get_set]
  have hlt1:h.nx * 256 < h1.nx * 256 := by show h.nx * 256 < (h.nx + 1) * 256; omega
  have hlt2:h.nx * 256 + 1 < h1.nx * 256 := by show h.nx * 256 + 1 < (h.nx + 1) * 256; omega
  have hlen := Expr.len_nodes e
  have L := loopN_ind (b := exec (call fns m) m b104_0) (n := e.l.length) (I := I104 p t e (h.nx * 256) (h.nx * 256 + 1) h1) (Q := fun x fr' h' => x = .brk 1 ∧ Grow h1 h' ∧ Fr.get fr' 7 = some (.int .i64 (namesErr p t e)))
    (fun i fr k hi hI => by
      obtain ⟨gr,t1,t3,t5,t7,t8⟩ := hI
      obtain ⟨x,hx⟩:∃ x,e.l[i]? = some x := ⟨_,List.getElem?_eq_getElem hi⟩
      have hm := List.mem_of_getElem? hx
      have hd := Expr.depth_lt hm
      have hnm := Expr.nodes_mem hm
      have hi':(i:Int) < (e.l.length:Int) := by omega
      have hw:wrp .i64 ((i:Int) + 1) = (i:Int) + 1 := wrp_i64 (by omega) (by omega)
      have hgp:k.get (h.nx * 256) = some (.row [p.v] 2 .rw) := by rw [gr.2 _ hlt1]; exact hip
      have hge:k.get (h.nx * 256 + 1) = some (.row [e.v] 4 .rw) := by rw [gr.2 _ hlt2]; exact hie
      obtain ⟨k',ec,gc⟩ := ih x (by omega) m (by omega) (by omega) k
      have el := ldE x k
      rw [Expr.v_eq e] at hge
      rw [Expr.v_eq x] at ec el
      simp only [Prog.v] at hgp ec
      by_cases h0:errAt p t e i = 0
      · have hsucc := errAt_succ p t e i x hx h0
        refine .inl ?_
        simp [b104_0,iadv,ldv,cut,mk,V.cells,t1,t3,t5,t7,t8,hgp,hge,hi',hx,hw,h0,Expr.v_eq x,ec]
        exact ⟨_,_,⟨rfl,rfl⟩,gr.trans gc,by simp [t1],by simp [t3],by simp [t5],by simp [hsucc],by simp⟩
      · have hst := errAt_stop p t e i h0
        refine .inr ?_
        simp [b104_0,iadv,ldv,cut,mk,V.cells,t1,t3,t5,t7,t8,hgp,hge,hi',hx,h0]
        exact ⟨.brk 1,by simp,_,_,⟨rfl,rfl,rfl⟩,rfl,gr,by simp [t7,hst]⟩)
    (fun fr k hI => by
      obtain ⟨gr,t1,t3,t5,t7,t8⟩ := hI
      have hge:k.get (h.nx * 256 + 1) = some (.row [e.v] 4 .rw) := by rw [gr.2 _ hlt2]; exact hie
      rw [Expr.v_eq e] at hge
      have hall := errAt_all p t e
      simp [b104_0,iadv,ldv,cut,mk,V.cells,t1,t3,t5,t7,t8,hge]
      exact ⟨.brk 1,by simp,_,_,⟨rfl,rfl,rfl⟩,rfl,gr,by simp [t7,hall]⟩)
    e.l.length 0 (by omega) (by omega) m (by omega)
  have c2 := fun k => ok_100 m (by omega) p hp t e.nm true [1,2] (by decide) k
  have c3 := fun k => ok_100 m (by omega) p hp t e.nm true [3] (by decide) k
  simp only [List.map] at c2 c3
  obtain ⟨fr3,h3,e3,i3⟩:∃ fr3 h3,exec (call fns m) m (.seq s104_0 (.seq s104_1 (.seq s104_2 p104_3))) (enter 0 [p.v,.int .i64 t,e.v]) h = some (.norm,fr3,h3) ∧ I104 p t e (h.nx * 256) (h.nx * 256 + 1) h1 0 fr3 h3 := by
    have ev := Expr.v_eq e
    by_cases o2:e.op = 2
    · obtain ⟨k2,e2,g2⟩ := c2 h1
      have ho:errAt p t e 0 = errOf (meaning p t e.nm) [1,2] := by simp [errAt,ownErr,o2,namesErrL]; intro hh; exact hh.symm
      simp only [h1,Prog.v,ev,o2] at e2
      simp [s104_0,s104_1,s104_2,p104_3,Fr.keep_cons',Fr.keep_nil,stepE,H.get_set,ldv,cut,mk,V.cells,Prog.v,ev,o2,pairs,fillE,e2]
      first | exact ⟨_,_,⟨rfl,rfl⟩,⟨g2,by simp,by simp,by simp,by simp [ho],by simp⟩⟩ | exact ⟨_,rfl,⟨g2,by simp,by simp,by simp,by simp [ho],by simp⟩⟩ | exact ⟨g2,by simp,by simp,by simp,by simp [ho],by simp⟩
    · by_cases o3:e.op = 3
      · obtain ⟨k2,e2,g2⟩ := c3 h1
        have ho:errAt p t e 0 = errOf (meaning p t e.nm) [3] := by simp [errAt,ownErr,o2,o3,namesErrL]; intro hh; exact hh.symm
        simp only [h1,Prog.v,ev,o3] at e2
        simp [s104_0,s104_1,s104_2,p104_3,Fr.keep_cons',Fr.keep_nil,stepE,H.get_set,ldv,cut,mk,V.cells,Prog.v,ev,o2,o3,pairs,fillE,e2]
        first | exact ⟨_,_,⟨rfl,rfl⟩,⟨g2,by simp,by simp,by simp,by simp [ho],by simp⟩⟩ | exact ⟨_,rfl,⟨g2,by simp,by simp,by simp,by simp [ho],by simp⟩⟩ | exact ⟨g2,by simp,by simp,by simp,by simp [ho],by simp⟩
      · have ho:errAt p t e 0 = 0 := by simp [errAt,ownErr,o2,o3,namesErrL]
        simp [s104_0,s104_1,s104_2,p104_3,Fr.keep_cons',Fr.keep_nil,stepE,H.get_set,ldv,cut,mk,V.cells,Prog.v,ev,o2,o3,pairs,fillE]
        first | exact ⟨_,_,⟨rfl,rfl⟩,⟨by simpa only [h1,Prog.v,ev] using Grow.refl h1,by simp,by simp,by simp,by simp [ho],by simp⟩⟩ | exact ⟨_,rfl,⟨by simpa only [h1,Prog.v,ev] using Grow.refl h1,by simp,by simp,by simp,by simp [ho],by simp⟩⟩ | exact ⟨by simpa only [h1,Prog.v,ev] using Grow.refl h1,by simp,by simp,by simp,by simp [ho],by simp⟩
  obtain ⟨x,fr4,h4,e4,rfl,g4,q4⟩ := L fr3 h3 i3
  refine ⟨h4,?_,g1.trans g4⟩
  rw [call_succ]
  show call1 (call fns m) m f104 _ _ = _
  have q:exec (call fns m) m f104.body (enter 0 [p.v,.int .i64 t,e.v]) h = exec (call fns m) m (.seq s104_4 s104_5) fr4 h4 := by
    rw [body_104,seg_104_3]
    obtain ⟨f1,k1,a1,a2⟩ := exec_seq_norm e3
    rw [exec_then a1]
    exact glue3 a2 (exec_brk e4)
  unfold call1
  rw [q]
  simp [s104_4,s104_5,iadv,ldv,cut,mk,V.cells,q4,res_104,fz_104]
structure I92 (p:Prog) (t:Int) (e:Expr) (ip ie:Nat) (h1:H) (i:Nat) (fr:Fr) (h:H):Prop where
  gr:Grow h1 h
  t1:Fr.get fr 1 = some (.int .i64 t)
  t3:Fr.get fr 3 = some (.ptr ip 0 0)
  t5:Fr.get fr 5 = some (.ptr ie 0 0)
  t7:Fr.get fr 7 = some (.int .i64 (errAt p t e i))
  t8:Fr.get fr 8 = some (.int .i64 i)
theorem ok_92' (p:Prog) (hp:p.Small) (t:Int) (d:Nat):∀ (e:Expr) (hde:e.depth ≤ d) (n:Nat) (hn:2147483680 + d ≤ n) (hs:e.nodes < 2147483648) (h:H),∃ h',call fns n 92 [p.v,.int .i64 t,e.v] h = some (.int .i64 (namesErr p t e),h') ∧ Grow h h' := by
  induction d with
  | zero => intro e hde; rw [Expr.depth_eq] at hde; omega
  | succ d ih =>
  intro e hde n hn hs h
  obtain ⟨m,rfl⟩:∃ m,n = m + 1 := ⟨n - 1,by omega⟩
  let h1:H := (({ h with nx := h.nx + 1 }:H).set (h.nx * 256) (.row [p.v] 2 .rw)).set (h.nx * 256 + 1) (.row [e.v] 4 .rw)
  have g1:Grow h h1 := (((Grow.refl h).up (h.nx + 1) (by omega)).set (Nat.le_refl _) _).set (by omega) _
  have hip:h1.get (h.nx * 256) = some (.row [p.v] 2 .rw) := by simp [h1,H.get_set]
  have hie:h1.get (h.nx * 256 + 1) = some (.row [e.v] 4 .rw) := by simp [h1,H.get_set]
  have hlt1:h.nx * 256 < h1.nx * 256 := by show h.nx * 256 < (h.nx + 1) * 256; omega
  have hlt2:h.nx * 256 + 1 < h1.nx * 256 := by show h.nx * 256 + 1 < (h.nx + 1) * 256; omega
  have hlen := Expr.len_nodes e
  have L := loopN_ind (b := exec (call fns m) m b92_0) (n := e.l.length) (I := I92 p t e (h.nx * 256) (h.nx * 256 + 1) h1) (Q := fun x fr' h' => x = .brk 1 ∧ Grow h1 h' ∧ Fr.get fr' 7 = some (.int .i64 (namesErr p t e)))
    (fun i fr k hi hI => by
      obtain ⟨gr,t1,t3,t5,t7,t8⟩ := hI
      obtain ⟨x,hx⟩:∃ x,e.l[i]? = some x := ⟨_,List.getElem?_eq_getElem hi⟩
      have hm := List.mem_of_getElem? hx
      have hd := Expr.depth_lt hm
      have hnm := Expr.nodes_mem hm
      have hi':(i:Int) < (e.l.length:Int) := by omega
      have hw:wrp .i64 ((i:Int) + 1) = (i:Int) + 1 := wrp_i64 (by omega) (by omega)
      have hgp:k.get (h.nx * 256) = some (.row [p.v] 2 .rw) := by rw [gr.2 _ hlt1]; exact hip
      have hge:k.get (h.nx * 256 + 1) = some (.row [e.v] 4 .rw) := by rw [gr.2 _ hlt2]; exact hie
      obtain ⟨k',ec,gc⟩ := ih x (by omega) m (by omega) (by omega) k
      have el := ldE x k
      rw [Expr.v_eq e] at hge
      rw [Expr.v_eq x] at ec el
      simp only [Prog.v] at hgp ec
      by_cases h0:errAt p t e i = 0
      · have hsucc := errAt_succ p t e i x hx h0
        refine .inl ?_
        simp [b92_0,iadv,ldv,cut,mk,V.cells,t1,t3,t5,t7,t8,hgp,hge,hi',hx,hw,h0,Expr.v_eq x,ec]
        exact ⟨_,_,⟨rfl,rfl⟩,gr.trans gc,by simp [t1],by simp [t3],by simp [t5],by simp [hsucc],by simp⟩
      · have hst := errAt_stop p t e i h0
        refine .inr ?_
        simp [b92_0,iadv,ldv,cut,mk,V.cells,t1,t3,t5,t7,t8,hgp,hge,hi',hx,h0]
        exact ⟨.brk 1,by simp,_,_,⟨rfl,rfl,rfl⟩,rfl,gr,by simp [t7,hst]⟩)
    (fun fr k hI => by
      obtain ⟨gr,t1,t3,t5,t7,t8⟩ := hI
      have hge:k.get (h.nx * 256 + 1) = some (.row [e.v] 4 .rw) := by rw [gr.2 _ hlt2]; exact hie
      rw [Expr.v_eq e] at hge
      have hall := errAt_all p t e
      simp [b92_0,iadv,ldv,cut,mk,V.cells,t1,t3,t5,t7,t8,hge]
      exact ⟨.brk 1,by simp,_,_,⟨rfl,rfl,rfl⟩,rfl,gr,by simp [t7,hall]⟩)
    e.l.length 0 (by omega) (by omega) m (by omega)
  have c2 := fun k => ok_66 m (by omega) p hp t e.nm 8 1 k
  have c3 := fun k => ok_66 m (by omega) p hp t e.nm 2 2 k
  have rg := meaning_range p t e.nm
  simp only [want_local _ rg.1 rg.2,want_array _ rg.1 rg.2] at c2 c3
  obtain ⟨fr3,h3,e3,i3⟩:∃ fr3 h3,exec (call fns m) m (.seq s92_0 (.seq s92_1 (.seq s92_2 p92_3))) (enter 0 [p.v,.int .i64 t,e.v]) h = some (.norm,fr3,h3) ∧ I92 p t e (h.nx * 256) (h.nx * 256 + 1) h1 0 fr3 h3 := by
    have ev := Expr.v_eq e
    by_cases o2:e.op = 2
    · obtain ⟨k2,e2,g2⟩ := c2 h1
      have ho:errAt p t e 0 = errOf (meaning p t e.nm) [1,2] := by simp [errAt,ownErr,o2,namesErrL]; intro hh; exact hh.symm
      simp only [h1,Prog.v,ev,o2] at e2
      simp [s92_0,s92_1,s92_2,p92_3,Fr.keep_cons',Fr.keep_nil,stepE,H.get_set,ldv,cut,mk,V.cells,Prog.v,ev,o2,pairs,fillE,e2]
      first | exact ⟨_,_,⟨rfl,rfl⟩,⟨g2,by simp,by simp,by simp,by simp [ho],by simp⟩⟩ | exact ⟨_,rfl,⟨g2,by simp,by simp,by simp,by simp [ho],by simp⟩⟩ | exact ⟨g2,by simp,by simp,by simp,by simp [ho],by simp⟩
    · by_cases o3:e.op = 3
      · obtain ⟨k2,e2,g2⟩ := c3 h1
        have ho:errAt p t e 0 = errOf (meaning p t e.nm) [3] := by simp [errAt,ownErr,o2,o3,namesErrL]; intro hh; exact hh.symm
        simp only [h1,Prog.v,ev,o3] at e2
        simp [s92_0,s92_1,s92_2,p92_3,Fr.keep_cons',Fr.keep_nil,stepE,H.get_set,ldv,cut,mk,V.cells,Prog.v,ev,o2,o3,pairs,fillE,e2]
        first | exact ⟨_,_,⟨rfl,rfl⟩,⟨g2,by simp,by simp,by simp,by simp [ho],by simp⟩⟩ | exact ⟨_,rfl,⟨g2,by simp,by simp,by simp,by simp [ho],by simp⟩⟩ | exact ⟨g2,by simp,by simp,by simp,by simp [ho],by simp⟩
      · have ho:errAt p t e 0 = 0 := by simp [errAt,ownErr,o2,o3,namesErrL]
        simp [s92_0,s92_1,s92_2,p92_3,Fr.keep_cons',Fr.keep_nil,stepE,H.get_set,ldv,cut,mk,V.cells,Prog.v,ev,o2,o3,pairs,fillE]
        first | exact ⟨_,_,⟨rfl,rfl⟩,⟨by simpa only [h1,Prog.v,ev] using Grow.refl h1,by simp,by simp,by simp,by simp [ho],by simp⟩⟩ | exact ⟨_,rfl,⟨by simpa only [h1,Prog.v,ev] using Grow.refl h1,by simp,by simp,by simp,by simp [ho],by simp⟩⟩ | exact ⟨by simpa only [h1,Prog.v,ev] using Grow.refl h1,by simp,by simp,by simp,by simp [ho],by simp⟩
  obtain ⟨x,fr4,h4,e4,rfl,g4,q4⟩ := L fr3 h3 i3
  refine ⟨h4,?_,g1.trans g4⟩
  rw [call_succ]
  show call1 (call fns m) m f92 _ _ = _
  have q:exec (call fns m) m f92.body (enter 0 [p.v,.int .i64 t,e.v]) h = exec (call fns m) m (.seq s92_4 s92_5) fr4 h4 := by
    rw [body_92,seg_92_3]
    obtain ⟨f1,k1,a1,a2⟩ := exec_seq_norm e3
    rw [exec_then a1]
    exact glue3 a2 (exec_brk e4)
  unfold call1
  rw [q]
  simp [s92_4,s92_5,iadv,ldv,cut,mk,V.cells,q4,res_92,fz_92]

/-! ### Shaped expressions: only what is true of the programs that are made -/
def operands (op:Int):Int := if op = 1 ∨ op = 2 then 0 else if op = 3 ∨ op = 4 ∨ op = 5 then 1 else if 6 ≤ op ∧ op ≤ 18 then 2 else -1
theorem ok_93 (n:Nat) (hn:1 ≤ n) (op:Int) (h:H):call fns n 93 [.int .i64 op] h = some (.int .i64 (operands op),h) := by
  obtain ⟨m,rfl⟩:∃ m,n = m + 1 := ⟨n - 1,by omega⟩
  rw [call_succ]
  show call1 (call fns m) m f93 _ _ = _
  unfold operands
  by_cases h1:op = 1
  · simp [f93,Fr.keep_cons',Fr.keep_nil,h1]
  · by_cases h2:op = 2
    · simp [f93,Fr.keep_cons',Fr.keep_nil,h1,h2]
    · by_cases h3:op = 3
      · simp [f93,Fr.keep_cons',Fr.keep_nil,h1,h2,h3]
      · by_cases h4:op = 4
        · simp [f93,Fr.keep_cons',Fr.keep_nil,h1,h2,h3,h4]
        · by_cases h5:op = 5
          · simp [f93,Fr.keep_cons',Fr.keep_nil,h1,h2,h3,h4,h5]
          · have hr:¬ (3 ≤ op ∧ op ≤ 5) := by omega
            by_cases h6:6 ≤ op
            · have q3:3 ≤ op := by omega
              have q5:¬ op ≤ 5 := by omega
              by_cases h7:op ≤ 18 <;> simp [f93,Fr.keep_cons',Fr.keep_nil,h1,h2,h3,h4,h5,h6,h7,q3,q5]
            · have q3:¬ (3 ≤ op ∧ op ≤ 5) := hr
              by_cases q4:3 ≤ op
              · have q5:¬ op ≤ 5 := by omega
                simp [f93,Fr.keep_cons',Fr.keep_nil,h1,h2,h3,h4,h5,h6,q4,q5]
              · simp [f93,Fr.keep_cons',Fr.keep_nil,h1,h2,h3,h4,h5,h6,q4]
theorem ok_101 (n:Nat) (hn:1 ≤ n) (op:Int) (h:H):call fns n 101 [.int .i64 op] h = some (.int .i64 (operands op),h) := by
  obtain ⟨m,rfl⟩:∃ m,n = m + 1 := ⟨n - 1,by omega⟩
  rw [call_succ]
  show call1 (call fns m) m f101 _ _ = _
  unfold operands
  by_cases h1:op = 1
  · simp [f101,Fr.keep_cons',Fr.keep_nil,h1]
  · by_cases h2:op = 2
    · simp [f101,Fr.keep_cons',Fr.keep_nil,h1,h2]
    · by_cases h3:op = 3
      · simp [f101,Fr.keep_cons',Fr.keep_nil,h1,h2,h3]
      · by_cases h4:op = 4
        · simp [f101,Fr.keep_cons',Fr.keep_nil,h1,h2,h3,h4]
        · by_cases h5:op = 5
          · simp [f101,Fr.keep_cons',Fr.keep_nil,h1,h2,h3,h4,h5]
          · have hr:¬ (3 ≤ op ∧ op ≤ 5) := by omega
            by_cases h6:6 ≤ op
            · have q3:3 ≤ op := by omega
              have q5:¬ op ≤ 5 := by omega
              by_cases h7:op ≤ 18 <;> simp [f101,Fr.keep_cons',Fr.keep_nil,h1,h2,h3,h4,h5,h6,h7,q3,q5]
            · have q3:¬ (3 ≤ op ∧ op ≤ 5) := hr
              by_cases q4:3 ≤ op
              · have q5:¬ op ≤ 5 := by omega
                simp [f101,Fr.keep_cons',Fr.keep_nil,h1,h2,h3,h4,h5,h6,q4,q5]
              · simp [f101,Fr.keep_cons',Fr.keep_nil,h1,h2,h3,h4,h5,h6,q4]

/-- An expression's own shape. -/
structure Expr.Own (e:Expr):Prop where
  len:operands e.op = e.l.length
  named:e.op = 2 ∨ e.op = 3 → isName e.nm = true ∧ e.nm ≠ []
  bare:¬ (e.op = 2 ∨ e.op = 3) → e.nm = []
  num0:0 ≤ e.num
  num1:e.op ≠ 1 → e.num = 0
  asc:Ascii e.nm
  short:e.nm.length < 2 ^ 31
inductive Expr.Shaped:Expr → Prop
  | mk (e:Expr) (own:e.Own) (sub:∀ x,x ∈ e.l → Expr.Shaped x):Expr.Shaped e
theorem ok_50_no (n:Nat) (hn:1 ≤ n) (h:H):call fns n 50 [.str [],.bool false] h = some (.bool true,h) := by
  obtain ⟨m,rfl⟩:∃ m,n = m + 1 := ⟨n - 1,by omega⟩
  rw [call_succ]
  show call1 (call fns m) m f50 _ _ = _
  simp [f50,Fr.keep_cons',Fr.keep_nil]
theorem ok_50_yes (n:Nat) (s:List Nat) (hn:s.length + 5 ≤ n) (ha:Ascii s) (hs:s.length < 2 ^ 31) (h:H):∃ h',call fns n 50 [.str s,.bool true] h = some (.bool (isName s),h') ∧ Grow h h' := by
  obtain ⟨m,rfl⟩:∃ m,n = m + 1 := ⟨n - 1,by omega⟩
  obtain ⟨h',e,g⟩ := ok_29 m s (by omega) ha hs h
  refine ⟨h',?_,g⟩
  rw [call_succ]
  show call1 (call fns m) m f50 _ _ = _
  simp [f50,Fr.keep_cons',Fr.keep_nil,e]

structure I75 (e:Expr) (h1:H) (i:Nat) (fr:Fr) (h:H):Prop where
  gr:Grow h1 h
  t40:Fr.get fr 40 = some (.sl e.full (e.l.map Expr.v))
  t41:Fr.get fr 41 = some (.int .i64 e.l.length)
  t42:Fr.get fr 42 = some (.int .i64 i)
theorem ok_75' (d:Nat):∀ (e:Expr) (hde:e.depth ≤ d) (hsh:e.Shaped) (n:Nat) (hn:2147483680 + d ≤ n) (hs:e.nodes < 2147483648) (h:H),∃ h',call fns n 75 [e.v] h = some (.bool true,h') ∧ Grow h h' := by
  induction d with
  | zero => intro e hde; rw [Expr.depth_eq] at hde; omega
  | succ d ih =>
  intro e hde hsh n hn hs h
  obtain ⟨_,own,sub⟩ := hsh
  obtain ⟨m,rfl⟩:∃ m,n = m + 1 := ⟨n - 1,by omega⟩
  let h1:H := ({ h with nx := h.nx + 1 }:H).set (h.nx * 256) (.row [e.v] 4 .rw)
  have g1:Grow h h1 := ((Grow.refl h).up (h.nx + 1) (by omega)).set (Nat.le_refl _) _
  have hlen := Expr.len_nodes e
  have L := fun (h1:H) => loopN_ind (b := exec (call fns m) m b75_0) (n := e.l.length) (I := I75 e h1) (Q := fun x fr' h' => x = .brk 0 ∧ Grow h1 h')
    (fun i fr k hi hI => by
      obtain ⟨gr,t40,t41,t42⟩ := hI
      obtain ⟨x,hx⟩:∃ x,e.l[i]? = some x := ⟨_,List.getElem?_eq_getElem hi⟩
      have hm := List.mem_of_getElem? hx
      have hd := Expr.depth_lt hm
      have hnm := Expr.nodes_mem hm
      have hi':(i:Int) < (e.l.length:Int) := by omega
      have hw:wrp .i64 ((i:Int) + 1) = (i:Int) + 1 := wrp_i64 (by omega) (by omega)
      have ga:Grow h1 (({ k with nx := k.nx + 1 }:H).set (k.nx * 256 + 2) (.row [.agg [.int .i64 0,.int .i64 0,.str [],.sl true []]] 4 .rw)) := (gr.up (k.nx + 1) (by omega)).set (by have := gr.1; omega) _
      have gb := ga.set (id := k.nx * 256 + 2) (by have := gr.1; omega) (.row [x.v] 4 .rw)
      obtain ⟨k',ec,gc⟩ := ih x (by omega) (sub x hm) m (by omega) (by omega) ((({ k with nx := k.nx + 1 }:H).set (k.nx * 256 + 2) (.row [.agg [.int .i64 0,.int .i64 0,.str [],.sl true []]] 4 .rw)).set (k.nx * 256 + 2) (.row [x.v] 4 .rw))
      have el := ldE x k
      refine .inl ?_
      rw [Expr.v_eq x] at ec el gb gc
      simp [b75_0,iadv,ldv,cut,mk,V.cells,stepE,H.get_set,stv,splice,one,t40,t41,t42,hi',hx,hw,Expr.v_eq x,ec]
      exact ⟨_,_,⟨rfl,rfl⟩,gb.trans gc,by simp [t40],by simp [t41],by simp⟩)
    (fun fr k hI => by
      obtain ⟨gr,t40,t41,t42⟩ := hI
      simp [b75_0,iadv,ldv,cut,mk,V.cells,t40,t41,t42]
      exact ⟨.brk 0,by simp,_,_,⟨rfl,rfl,rfl⟩,rfl,gr⟩)
    e.l.length 0 (by omega) (by omega) m (by omega)
  have e93 := fun k => ok_93 m (by omega) e.op k
  rw [own.len] at e93
  have hn0:¬ e.num < 0 := by have := own.num0; omega
  obtain ⟨fr3,h3,e3,i3,g3⟩:∃ fr3 h3,exec (call fns m) m (.seq s75_0 (.seq s75_1 (.seq s75_2 p75_3))) (enter 0 [e.v]) h = some (.norm,fr3,h3) ∧ I75 e h3 0 fr3 h3 ∧ Grow h1 h3 := by
    have ev := Expr.v_eq e
    by_cases o2:e.op = 2 ∨ e.op = 3
    · obtain ⟨nm1,nm2⟩ := own.named o2
      have o1:e.op ≠ 1 := by omega
      have hz := own.num1 o1
      obtain ⟨k2,e50,g50⟩ := ok_50_yes m e.nm (by have := own.short; omega) own.asc own.short h1
      rw [nm1] at e50
      rcases o2 with o2 | o2
      · rw [o2] at e93
        simp only [h1,ev,o2,hz] at e50
        have hk:k2.get (h.nx * 256) = some (.row [e.v] 4 .rw) := by
          rw [g50.2 _ (by show h.nx * 256 < (h.nx + 1) * 256; omega)]; simp [h1,H.get_set]
        rw [ev] at hk
        simp only [o2,hz] at hk
        simp [s75_0,s75_1,s75_2,p75_3,Fr.keep_cons',Fr.keep_nil,stepE,H.get_set,ldv,cut,mk,V.cells,ev,o2,e93,e50,hz,Log.push,addrOf,findL,obeq_refl,hk]
        exact ⟨_,_,⟨rfl,rfl⟩,⟨Grow.refl _,by simp,by simp,by simp⟩,g50⟩
      · rw [o2] at e93
        simp only [h1,ev,o2,hz] at e50
        have hk:k2.get (h.nx * 256) = some (.row [e.v] 4 .rw) := by
          rw [g50.2 _ (by show h.nx * 256 < (h.nx + 1) * 256; omega)]; simp [h1,H.get_set]
        rw [ev] at hk
        simp only [o2,hz] at hk
        simp [s75_0,s75_1,s75_2,p75_3,Fr.keep_cons',Fr.keep_nil,stepE,H.get_set,ldv,cut,mk,V.cells,ev,o2,e93,e50,hz,Log.push,addrOf,findL,obeq_refl,hk]
        exact ⟨_,_,⟨rfl,rfl⟩,⟨Grow.refl _,by simp,by simp,by simp⟩,g50⟩
    · have hb := own.bare o2
      have o2':¬ e.op = 2 := fun h => o2 (.inl h)
      have o3':¬ e.op = 3 := fun h => o2 (.inr h)
      have e50 := fun k => ok_50_no m (by omega) k
      by_cases o1:e.op = 1
      · rw [o1] at e93
        by_cases hz:e.num = 0
        · simp [s75_0,s75_1,s75_2,p75_3,Fr.keep_cons',Fr.keep_nil,stepE,H.get_set,ldv,cut,mk,V.cells,ev,o1,hb,hz,e93,e50,Log.push,addrOf,findL,obeq_refl]
          exact ⟨_,_,⟨rfl,rfl⟩,⟨Grow.refl _,by simp,by simp,by simp⟩,by simpa only [h1,ev,o1,hb,hz] using Grow.refl h1⟩
        · simp [s75_0,s75_1,s75_2,p75_3,Fr.keep_cons',Fr.keep_nil,stepE,H.get_set,ldv,cut,mk,V.cells,ev,o1,hb,hn0,hz,e93,e50,Log.push,addrOf,findL,obeq_refl]
          exact ⟨_,_,⟨rfl,rfl⟩,⟨Grow.refl _,by simp,by simp,by simp⟩,by simpa only [h1,ev,o1,hb] using Grow.refl h1⟩
      · have hz := own.num1 o1
        simp [s75_0,s75_1,s75_2,p75_3,Fr.keep_cons',Fr.keep_nil,stepE,H.get_set,ldv,cut,mk,V.cells,ev,o1,o2',o3',hb,hz,e93,e50,Log.push,addrOf,findL,obeq_refl]
        exact ⟨_,_,⟨rfl,rfl⟩,⟨Grow.refl _,by simp,by simp,by simp⟩,by simpa only [h1,ev,hz,hb] using Grow.refl h1⟩
  obtain ⟨x,fr4,h4,e4,rfl,g4⟩ := L h3 fr3 h3 i3
  refine ⟨h4,?_,(g1.trans g3).trans g4⟩
  rw [call_succ]
  show call1 (call fns m) m f75 _ _ = _
  have q:exec (call fns m) m f75.body (enter 0 [e.v]) h = exec (call fns m) m (.seq s75_4 s75_5) fr4 h4 := by
    rw [body_75,seg_75_3]
    obtain ⟨f1,k1,a1,a2⟩ := exec_seq_norm e3
    rw [exec_then a1]
    exact glue3 a2 (exec_brk e4)
  unfold call1
  rw [q]
  simp [s75_4,s75_5,iadv,ldv,cut,mk,V.cells,res_75,fz_75]

structure I88 (e:Expr) (id:Nat) (h1:H) (i:Nat) (fr:Fr) (h:H):Prop where
  gr:Grow h1 h
  t1:Fr.get fr 1 = some (.ptr id 0 0)
  t4:Fr.get fr 4 = some (.int .i64 i)
theorem ok_88' (d:Nat):∀ (e:Expr) (hde:e.depth ≤ d) (hsh:e.Shaped) (n:Nat) (hn:2147483700 + d ≤ n) (hs:e.nodes < 2147483648) (h:H),∃ h',call fns n 88 [e.v] h = some (.bool true,h') ∧ Grow h h' := by
  induction d with
  | zero => intro e hde; rw [Expr.depth_eq] at hde; omega
  | succ d ih =>
  intro e hde hsh n hn hs h
  obtain ⟨_,own,sub⟩ := hsh
  obtain ⟨m,rfl⟩:∃ m,n = m + 1 := ⟨n - 1,by omega⟩
  let h1:H := ({ h with nx := h.nx + 1 }:H).set (h.nx * 256) (.row [e.v] 4 .rw)
  have g1:Grow h h1 := ((Grow.refl h).up (h.nx + 1) (by omega)).set (Nat.le_refl _) _
  have hid:h1.get (h.nx * 256) = some (.row [e.v] 4 .rw) := by simp [h1,H.get_set]
  have hlt:h.nx * 256 < h1.nx * 256 := by show h.nx * 256 < (h.nx + 1) * 256; omega
  have hlen := Expr.len_nodes e
  have L := loopN_ind (b := exec (call fns m) m b88_0) (n := e.l.length) (I := I88 e (h.nx * 256) h1) (Q := fun x fr' h' => x = .brk 0 ∧ Grow h1 h')
    (fun i fr k hi hI => by
      obtain ⟨gr,t1,t4⟩ := hI
      obtain ⟨x,hx⟩:∃ x,e.l[i]? = some x := ⟨_,List.getElem?_eq_getElem hi⟩
      have hm := List.mem_of_getElem? hx
      have hd := Expr.depth_lt hm
      have hnm := Expr.nodes_mem hm
      have hi':(i:Int) < (e.l.length:Int) := by omega
      have hw:wrp .i64 ((i:Int) + 1) = (i:Int) + 1 := wrp_i64 (by omega) (by omega)
      have hg:k.get (h.nx * 256) = some (.row [e.v] 4 .rw) := by rw [gr.2 _ hlt]; exact hid
      obtain ⟨k',ec,gc⟩ := ih x (by omega) (sub x hm) m (by omega) (by omega) k
      have el := ldE x k
      refine .inl ?_
      rw [Expr.v_eq e] at hg
      rw [Expr.v_eq x] at ec el
      simp [b88_0,iadv,ldv,cut,mk,V.cells,t1,t4,hg,hi',hx,hw,Expr.v_eq x,ec]
      exact ⟨_,_,⟨rfl,rfl⟩,gr.trans gc,by simp [t1],by simp⟩)
    (fun fr k hI => by
      obtain ⟨gr,t1,t4⟩ := hI
      have hg:k.get (h.nx * 256) = some (.row [e.v] 4 .rw) := by rw [gr.2 _ hlt]; exact hid
      rw [Expr.v_eq e] at hg
      simp [b88_0,iadv,ldv,cut,mk,V.cells,t1,t4,hg]
      exact ⟨.brk 0,by simp,_,_,⟨rfl,rfl,rfl⟩,rfl,gr⟩)
    e.l.length 0 (by omega) (by omega) m (by omega)
  have e101 := fun k => ok_101 m (by omega) e.op k
  rw [own.len] at e101
  have hn0:¬ e.num < 0 := by have := own.num0; omega
  obtain ⟨fr3,e3,i3⟩:∃ fr3,exec (call fns m) m (.seq s88_0 (.seq s88_1 (.seq s88_2 p88_3))) (enter 0 [e.v]) h = some (.norm,fr3,h1) ∧ I88 e (h.nx * 256) h1 0 fr3 h1 := by
    have ev := Expr.v_eq e
    by_cases o2:e.op = 2 ∨ e.op = 3
    · obtain ⟨nm1,nm2⟩ := own.named o2
      have o1:e.op ≠ 1 := by omega
      have hz := own.num1 o1
      have e41 := fun k => ok_41 m e.nm (by have := own.short; omega) own.short k
      rw [nm1] at e41
      have nb:(e.nm == ([]:List Nat)) = false := by simpa using nm2
      rcases o2 with o2 | o2
      · rw [o2] at e101
        simp [s88_0,s88_1,s88_2,p88_3,Fr.keep_cons',Fr.keep_nil,eqv,eq1,stepE,H.get_set,ldv,cut,mk,V.cells,ev,o2,e101,e41,hz,nb,nm2,Log.push,addrOf,findL,obeq_refl,h1]
        exact ⟨Grow.refl _,by simp,by simp⟩
      · rw [o2] at e101
        simp [s88_0,s88_1,s88_2,p88_3,Fr.keep_cons',Fr.keep_nil,eqv,eq1,stepE,H.get_set,ldv,cut,mk,V.cells,ev,o2,e101,e41,hz,nb,nm2,Log.push,addrOf,findL,obeq_refl,h1]
        exact ⟨Grow.refl _,by simp,by simp⟩
    · have hb := own.bare o2
      have o2':¬ e.op = 2 := fun h => o2 (.inl h)
      have o3':¬ e.op = 3 := fun h => o2 (.inr h)
      by_cases o1:e.op = 1
      · rw [o1] at e101
        by_cases hz:e.num = 0
        · simp [s88_0,s88_1,s88_2,p88_3,Fr.keep_cons',Fr.keep_nil,eqv,eq1,stepE,H.get_set,ldv,cut,mk,V.cells,ev,o1,hb,hz,e101,Log.push,addrOf,findL,obeq_refl,h1]
          exact ⟨Grow.refl _,by simp,by simp⟩
        · simp [s88_0,s88_1,s88_2,p88_3,Fr.keep_cons',Fr.keep_nil,eqv,eq1,stepE,H.get_set,ldv,cut,mk,V.cells,ev,o1,hb,hn0,hz,e101,Log.push,addrOf,findL,obeq_refl,h1]
          exact ⟨Grow.refl _,by simp,by simp⟩
      · have hz := own.num1 o1
        simp [s88_0,s88_1,s88_2,p88_3,Fr.keep_cons',Fr.keep_nil,eqv,eq1,stepE,H.get_set,ldv,cut,mk,V.cells,ev,o1,o2',o3',hb,hz,e101,Log.push,addrOf,findL,obeq_refl,h1]
        exact ⟨Grow.refl _,by simp,by simp⟩
  obtain ⟨x,fr4,h4,e4,rfl,g4⟩ := L fr3 h1 i3
  refine ⟨h4,?_,g1.trans g4⟩
  rw [call_succ]
  show call1 (call fns m) m f88 _ _ = _
  have q:exec (call fns m) m f88.body (enter 0 [e.v]) h = exec (call fns m) m (.seq s88_4 s88_5) fr4 h4 := by
    rw [body_88,seg_88_3]
    obtain ⟨f1,k1,a1,a2⟩ := exec_seq_norm e3
    rw [exec_then a1]
    exact glue3 a2 (exec_brk e4)
  unfold call1
  rw [q]
  simp [s88_4,s88_5,iadv,ldv,cut,mk,V.cells,res_88,fz_88]

/-- P4.1: the error of a shaped expression. -/
def exprErr (p:Prog) (t:Int) (e:Expr):Int := if 24 < e.nodes ∨ 6 < e.depth then 2 else namesErr p t e
theorem ok_94 (n:Nat) (p:Prog) (hp:p.Small) (t:Int) (e:Expr) (hsh:e.Shaped) (hs:e.nodes < 2147483648) (hn:2147483710 + e.depth ≤ n) (h:H) :
    ∃ h',call fns n 94 [p.v,.int .i64 t,e.v] h = some (.int .i64 (exprErr p t e),h') ∧ Grow h h' := by
  obtain ⟨m,rfl⟩:∃ m,n = m + 1 := ⟨n - 1,by omega⟩
  let h1:H := (({ h with nx := h.nx + 1 }:H).set (h.nx * 256) (.row [p.v] 2 .rw)).set (h.nx * 256 + 1) (.row [e.v] 4 .rw)
  have g1:Grow h h1 := (((Grow.refl h).up (h.nx + 1) (by omega)).set (Nat.le_refl _) _).set (by omega) _
  have hip:h1.get (h.nx * 256) = some (.row [p.v] 2 .rw) := by simp [h1,H.get_set]
  have hie:h1.get (h.nx * 256 + 1) = some (.row [e.v] 4 .rw) := by simp [h1,H.get_set]
  have hlt1:h.nx * 256 < h1.nx * 256 := by show h.nx * 256 < (h.nx + 1) * 256; omega
  have hlt2:h.nx * 256 + 1 < h1.nx * 256 := by show h.nx * 256 + 1 < (h.nx + 1) * 256; omega
  have keepP:∀ k,Grow h1 k → k.get (h.nx * 256) = some (.row [p.v] 2 .rw) := fun k g => by rw [g.2 _ hlt1]; exact hip
  have keepE:∀ k,Grow h1 k → k.get (h.nx * 256 + 1) = some (.row [e.v] 4 .rw) := fun k g => by rw [g.2 _ hlt2]; exact hie
  have hdn := Expr.depth_le_nodes _ e (Nat.le_refl _)
  have ev := Expr.v_eq e
  obtain ⟨k1,e75,q1⟩ := ok_75' e.depth e (Nat.le_refl _) hsh m (by omega) hs h1
  obtain ⟨k2,e102,q2⟩ := ok_102' e.depth e (Nat.le_refl _) m (by omega) hs k1
  obtain ⟨k3,e103,q3⟩ := ok_103' e.depth e (Nat.le_refl _) m (by omega) hs k2
  obtain ⟨k4,e104,q4⟩ := ok_104' p hp t e.depth e (Nat.le_refl _) m (by omega) hs k3
  have r2 := q1.trans q2
  have r3 := r2.trans q3
  have a1 := keepE k1 q1
  have a2 := keepE k2 r2
  have a3 := keepE k3 r3
  have b3 := keepP k3 r3
  rw [call_succ]
  show ∃ h',call1 (call fns m) m f94 _ _ = _ ∧ _
  unfold exprErr
  simp only [h1,Prog.v,ev] at e75
  simp only [Prog.v,ev] at a1 a2 a3 b3 e102 e103 e104
  by_cases c1:24 < e.nodes
  · refine ⟨k2,?_,g1.trans r2⟩
    have c1':(24:Int) < (e.nodes:Int) := by omega
    simp [f94,Fr.keep_cons',Fr.keep_nil,stepE,H.get_set,ldv,cut,mk,V.cells,Prog.v,ev,e75,a1,e102,c1,c1']
  · have c1':¬ (24:Int) < (e.nodes:Int) := by omega
    by_cases c2:6 < e.depth
    · refine ⟨k3,?_,g1.trans r3⟩
      have c2':(6:Int) < (e.depth:Int) := by omega
      simp [f94,Fr.keep_cons',Fr.keep_nil,stepE,H.get_set,ldv,cut,mk,V.cells,Prog.v,ev,e75,a1,e102,c1,c1',a2,e103,c2,c2']
    · refine ⟨k4,?_,g1.trans (r3.trans q4)⟩
      have c2':¬ (6:Int) < (e.depth:Int) := by omega
      simp [f94,Fr.keep_cons',Fr.keep_nil,stepE,H.get_set,ldv,cut,mk,V.cells,Prog.v,ev,e75,a1,e102,c1,c1',a2,e103,c2,c2',a3,b3,e104]
theorem ok_67 (n:Nat) (p:Prog) (hp:p.Small) (t:Int) (e:Expr) (hsh:e.Shaped) (hs:e.nodes < 2147483648) (hn:2147483710 + e.depth ≤ n) (h:H) :
    ∃ h',call fns n 67 [p.v,.int .i64 t,e.v] h = some (.int .i64 (exprErr p t e),h') ∧ Grow h h' := by
  obtain ⟨m,rfl⟩:∃ m,n = m + 1 := ⟨n - 1,by omega⟩
  let h1:H := (({ h with nx := h.nx + 1 }:H).set (h.nx * 256) (.row [p.v] 2 .rw)).set (h.nx * 256 + 1) (.row [e.v] 4 .rw)
  have g1:Grow h h1 := (((Grow.refl h).up (h.nx + 1) (by omega)).set (Nat.le_refl _) _).set (by omega) _
  have hip:h1.get (h.nx * 256) = some (.row [p.v] 2 .rw) := by simp [h1,H.get_set]
  have hie:h1.get (h.nx * 256 + 1) = some (.row [e.v] 4 .rw) := by simp [h1,H.get_set]
  have hlt1:h.nx * 256 < h1.nx * 256 := by show h.nx * 256 < (h.nx + 1) * 256; omega
  have hlt2:h.nx * 256 + 1 < h1.nx * 256 := by show h.nx * 256 + 1 < (h.nx + 1) * 256; omega
  have keepP:∀ k,Grow h1 k → k.get (h.nx * 256) = some (.row [p.v] 2 .rw) := fun k g => by rw [g.2 _ hlt1]; exact hip
  have keepE:∀ k,Grow h1 k → k.get (h.nx * 256 + 1) = some (.row [e.v] 4 .rw) := fun k g => by rw [g.2 _ hlt2]; exact hie
  have hdn := Expr.depth_le_nodes _ e (Nat.le_refl _)
  have ev := Expr.v_eq e
  obtain ⟨k1,e88,q1⟩ := ok_88' e.depth e (Nat.le_refl _) hsh m (by omega) hs h1
  obtain ⟨k2,e91,q2⟩ := ok_91' e.depth e (Nat.le_refl _) m (by omega) hs k1
  obtain ⟨k4,e92,q4⟩ := ok_92' p hp t e.depth e (Nat.le_refl _) m (by omega) hs k2
  have r2 := q1.trans q2
  have a1 := keepE k1 q1
  have a2 := keepE k2 r2
  have b2 := keepP k2 r2
  rw [call_succ]
  show ∃ h',call1 (call fns m) m f67 _ _ = _ ∧ _
  unfold exprErr
  simp only [h1,Prog.v,ev] at e88
  simp only [Prog.v,ev] at a1 a2 b2 e91 e92
  by_cases c1:24 < e.nodes
  · refine ⟨k2,?_,g1.trans r2⟩
    have c1':(24:Int) < (e.nodes:Int) := by omega
    simp [f67,Fr.keep_cons',Fr.keep_nil,stepE,H.get_set,ldv,cut,mk,V.cells,Prog.v,ev,e88,a1,e91,c1,c1']
  · have c1':¬ (24:Int) < (e.nodes:Int) := by omega
    by_cases c2:6 < e.depth
    · refine ⟨k2,?_,g1.trans r2⟩
      have c2':(6:Int) < (e.depth:Int) := by omega
      simp [f67,Fr.keep_cons',Fr.keep_nil,stepE,H.get_set,ldv,cut,mk,V.cells,Prog.v,ev,e88,a1,e91,c1,c1',c2,c2']
    · refine ⟨k4,?_,g1.trans (r2.trans q4)⟩
      have c2':¬ (6:Int) < (e.depth:Int) := by omega
      simp [f67,Fr.keep_cons',Fr.keep_nil,stepE,H.get_set,ldv,cut,mk,V.cells,Prog.v,ev,e88,a1,e91,c1,c1',c2,c2',a2,b2,e92]

/-! ### Statements -/
def Stmt.op:Stmt → Int | .mk op _ _ _ _ _ _ _ _ _ _ => op
def Stmt.line:Stmt → Int | .mk _ l _ _ _ _ _ _ _ _ _ => l
def Stmt.name:Stmt → List Nat | .mk _ _ n _ _ _ _ _ _ _ _ => n
def Stmt.arg:Stmt → List Nat | .mk _ _ _ a _ _ _ _ _ _ _ => a
def Stmt.fi:Stmt → Bool | .mk _ _ _ _ f _ _ _ _ _ _ => f
def Stmt.index:Stmt → List Expr | .mk _ _ _ _ _ i _ _ _ _ _ => i
def Stmt.expr:Stmt → Expr | .mk _ _ _ _ _ _ e _ _ _ _ => e
def Stmt.fb:Stmt → Bool | .mk _ _ _ _ _ _ _ f _ _ _ => f
def Stmt.body:Stmt → List Stmt | .mk _ _ _ _ _ _ _ _ b _ _ => b
def Stmt.fe:Stmt → Bool | .mk _ _ _ _ _ _ _ _ _ f _ => f
def Stmt.els:Stmt → List Stmt | .mk _ _ _ _ _ _ _ _ _ _ l => l
theorem Stmt.v_eq (s:Stmt):s.v = .agg [.int .i64 s.op,.int .i64 s.line,.str s.name,.str s.arg,.sl s.fi (s.index.map Expr.v),.int .i64 s.expr.op,.int .i64 s.expr.num,.str s.expr.nm,.sl s.expr.full (s.expr.l.map Expr.v),
    .sl s.fb (s.body.map Stmt.v),.sl s.fe (s.els.map Stmt.v)] := by
  obtain ⟨op,line,name,arg,fi,index,expr,fb,body,fe,els⟩ := s
  obtain ⟨o,n,nm,f,l⟩ := expr
  simp [Stmt.v,Stmt.vs_map,Expr.cs,Expr.vs_map,Stmt.op,Stmt.line,Stmt.name,Stmt.arg,Stmt.fi,Stmt.index,Stmt.expr,Stmt.fb,Stmt.body,Stmt.fe,Stmt.els,Expr.op,Expr.num,Expr.nm,Expr.full,Expr.l]
mutual
def Stmt.cnt:Stmt → Nat
  | .mk _ _ _ _ _ _ _ _ body _ els => 1 + (Stmt.cntL body + Stmt.cntL els)
def Stmt.cntL:List Stmt → Nat
  | [] => 0
  | s :: l => s.cnt + Stmt.cntL l
end
theorem Stmt.cnt_eq (s:Stmt):s.cnt = 1 + (Stmt.cntL s.body + Stmt.cntL s.els) := by
  obtain ⟨op,line,name,arg,fi,index,expr,fb,body,fe,els⟩ := s
  rfl
theorem cntL_take (l:List Stmt) (i:Nat) (x:Stmt) (h:l[i]? = some x):Stmt.cntL (l.take (i + 1)) = Stmt.cntL (l.take i) + x.cnt := by
  induction l generalizing i with
  | nil => simp at h
  | cons y l ih =>
    cases i with
    | zero => simp at h; subst h; simp [Stmt.cntL]
    | succ i => simp only [List.take_succ_cons,Stmt.cntL]; rw [ih i (by simpa using h)]; omega
theorem cntL_le (l:List Stmt) (i:Nat):Stmt.cntL (l.take i) ≤ Stmt.cntL l := by
  induction l generalizing i with
  | nil => simp
  | cons y l ih =>
    cases i with
    | zero => simp [Stmt.cntL]
    | succ i => simp only [List.take_succ_cons,Stmt.cntL]; have := ih i; omega
theorem len_cntL (l:List Stmt):l.length ≤ Stmt.cntL l := by
  induction l with
  | nil => simp
  | cons y l ih => simp only [List.length_cons,Stmt.cntL]; rw [Stmt.cnt_eq]; omega
theorem take_cntL (l:List Stmt) (i:Nat):(l.take i).length ≤ Stmt.cntL (l.take i) := len_cntL _
theorem ldS (x:Stmt) (h:H):ldv h 11 true (.vptr x.v.cells) = some x.v := by
  rw [Stmt.v_eq]
  simp [ldv,V.cells,cut,mk]

structure I18 (f:Bool) (l:List Stmt) (h1:H) (i:Nat) (fr:Fr) (h:H):Prop where
  gr:Grow h1 h
  t3:Fr.get fr 3 = some (.int .i64 ((l.length + (Stmt.cntL (l.take i) - (l.take i).length):Nat):Int))
  t8:Fr.get fr 8 = some (.sl f (l.map Stmt.v))
  t9:Fr.get fr 9 = some (.int .i64 l.length)
  t10:Fr.get fr 10 = some (.int .i64 i)
def zeroS:V := .agg [.int .i64 0,.int .i64 0,.str [],.str [],.sl true [],.int .i64 0,.int .i64 0,.str [],.sl true [],.sl true [],.sl true []]
theorem ok_18' (d:Nat):∀ (f:Bool) (l:List Stmt) (hd:Stmt.cntL l ≤ d) (n:Nat) (hn:2147483668 + d ≤ n) (hs:Stmt.cntL l < 2147483648) (h:H),∃ h',call fns n 18 [.sl f (l.map Stmt.v)] h = some (.int .i64 (Stmt.cntL l),h') ∧ Grow h h' := by
  induction d with
  | zero =>
    intro f l hd n hn hs h
    have:l = [] := by have := len_cntL l; cases l <;> simp_all
    subst this
    obtain ⟨m,rfl⟩:∃ m,n = m + 1 := ⟨n - 1,by omega⟩
    obtain ⟨m,rfl⟩:∃ k,m = k + 1 := ⟨m - 1,by omega⟩
    refine ⟨h,?_,Grow.refl _⟩
    rw [call_succ]
    show call1 (call fns (m + 1)) (m + 1) f18 _ _ = _
    simp [f18,Fr.keep_cons',Fr.keep_nil,b18_0,loopN,Stmt.cntL]
  | succ d ih =>
  intro f l hd n hn hs h
  obtain ⟨m,rfl⟩:∃ m,n = m + 1 := ⟨n - 1,by omega⟩
  have hlen := len_cntL l
  have L := loopN_ind (b := exec (call fns m) m b18_0) (n := l.length) (I := I18 f l h) (Q := fun x fr' h' => x = .brk 0 ∧ Grow h h' ∧ Fr.get fr' 3 = some (.int .i64 (Stmt.cntL l)))
    (fun i fr k hi hI => by
      obtain ⟨gr,t3,t8,t9,t10⟩ := hI
      obtain ⟨x,hx⟩:∃ x,l[i]? = some x := ⟨_,List.getElem?_eq_getElem hi⟩
      have hi':(i:Int) < (l.length:Int) := by omega
      have hw:wrp .i64 ((i:Int) + 1) = (i:Int) + 1 := wrp_i64 (by omega) (by omega)
      have hsum := cntL_take l i x hx
      have hle := cntL_le l (i + 1)
      have hce := Stmt.cnt_eq x
      have htl := take_cntL l i
      have htl1:(l.take i).length = i := by simp; omega
      have htl2:(l.take (i + 1)).length = i + 1 := by simp; omega
      have ga:Grow h (({ k with nx := k.nx + 1 }:H).set (k.nx * 256 + 2) (.row [zeroS] 11 .rw)) := (gr.up (k.nx + 1) (by omega)).set (by have := gr.1; omega) _
      have gb := ga.set (id := k.nx * 256 + 2) (by have := gr.1; omega) (.row [x.v] 11 .rw)
      let k0:H := (({ k with nx := k.nx + 1 }:H).set (k.nx * 256 + 2) (.row [zeroS] 11 .rw)).set (k.nx * 256 + 2) (.row [x.v] 11 .rw)
      obtain ⟨k1,e1,q1⟩ := ih x.fb x.body (by omega) m (by omega) (by omega) k0
      obtain ⟨k2,e2,q2⟩ := ih x.fe x.els (by omega) m (by omega) (by omega) k1
      have hk0:k0.get (k.nx * 256 + 2) = some (.row [x.v] 11 .rw) := by simp [k0,H.get_set]
      have hk1:k1.get (k.nx * 256 + 2) = some (.row [x.v] 11 .rw) := by rw [q1.2 _ (by show k.nx * 256 + 2 < (k.nx + 1) * 256; omega)]; exact hk0
      have hw1:wrp .i64 ((Stmt.cntL x.body:Int) + (Stmt.cntL x.els:Int)) = (Stmt.cntL x.body:Int) + (Stmt.cntL x.els:Int) := wrp_i64 (by omega) (by omega)
      have hw2:wrp .i64 (((l.length + (Stmt.cntL (l.take i) - i):Nat):Int) + ((Stmt.cntL x.body:Int) + (Stmt.cntL x.els:Int))) = ((l.length + (Stmt.cntL (l.take i) - i):Nat):Int) + ((Stmt.cntL x.body:Int) + (Stmt.cntL x.els:Int)) := wrp_i64 (by omega) (by omega)
      rw [htl1] at t3
      have el := ldS x k
      refine .inl ?_
      rw [Stmt.v_eq x] at el gb hk1
      simp only [k0,zeroS,Stmt.v_eq x] at e1 q1
      simp only [zeroS] at gb
      simp [b18_0,iadv,ldv,cut,mk,V.cells,stepE,H.get_set,stv,splice,one,t3,t8,t9,t10,hi',hx,hw,Stmt.v_eq x,e1,e2,hk1,Log.push,addrOf,findL,obeq_refl]
      have hv:wrp .i64 ((l.length:Int) + ((Stmt.cntL (l.take i) - i:Nat):Int) + wrp .i64 ((Stmt.cntL x.body:Int) + (Stmt.cntL x.els:Int))) = (l.length:Int) + ((Stmt.cntL (l.take (i + 1)) - (i + 1):Nat):Int) := by
        rw [hw1,wrp_i64 (by omega) (by omega)]; omega
      exact ⟨_,_,⟨rfl,rfl⟩,gb.trans (q1.trans q2),by simp only [htl2]; simp [hv],by simp [t8],by simp [t9],by simp⟩)
    (fun fr k hI => by
      obtain ⟨gr,t3,t8,t9,t10⟩ := hI
      have h3:l.length + (Stmt.cntL l - l.length) = Stmt.cntL l := by omega
      simp only [List.take_length] at t3
      rw [h3] at t3
      simp [b18_0,iadv,ldv,cut,mk,V.cells,t3,t8,t9,t10]
      exact ⟨.brk 0,by simp,_,_,⟨rfl,rfl,rfl⟩,rfl,gr,by simp [t3]⟩)
    l.length 0 (by omega) (by omega) m (by omega)
  obtain ⟨fr3,e3,i3⟩:∃ fr3,exec (call fns m) m (.seq s18_0 (.seq s18_1 p18_2)) (enter 0 [.sl f (l.map Stmt.v)]) h = some (.norm,fr3,h) ∧ I18 f l h 0 fr3 h := by
    simp [s18_0,s18_1,p18_2,Fr.keep_cons',Fr.keep_nil]
    exact ⟨Grow.refl _,by simp [Stmt.cntL],by simp,by simp,by simp⟩
  obtain ⟨x,fr4,h4,e4,rfl,g4,q4⟩ := L fr3 h i3
  refine ⟨h4,?_,g4⟩
  rw [call_succ]
  show call1 (call fns m) m f18 _ _ = _
  have q:exec (call fns m) m f18.body (enter 0 [.sl f (l.map Stmt.v)]) h = exec (call fns m) m (.seq s18_3 s18_4) fr4 h4 := by
    rw [body_18,seg_18_2]
    exact glue3 e3 (exec_brk e4)
  unfold call1
  rw [q]
  simp [s18_3,s18_4,iadv,ldv,cut,mk,V.cells,q4,res_18,fz_18]

structure I10 (f:Bool) (l:List Stmt) (h1:H) (i:Nat) (fr:Fr) (h:H):Prop where
  gr:Grow h1 h
  t0:Fr.get fr 0 = some (.sl f (l.map Stmt.v))
  t3:Fr.get fr 3 = some (.int .i64 ((l.length + (Stmt.cntL (l.take i) - (l.take i).length):Nat):Int))
  t4:Fr.get fr 4 = some (.int .i64 i)
theorem ok_10' (d:Nat):∀ (f:Bool) (l:List Stmt) (hd:Stmt.cntL l ≤ d) (n:Nat) (hn:2147483668 + d ≤ n) (hs:Stmt.cntL l < 2147483648) (h:H),∃ h',call fns n 10 [.sl f (l.map Stmt.v)] h = some (.int .i64 (Stmt.cntL l),h') ∧ Grow h h' := by
  induction d with
  | zero =>
    intro f l hd n hn hs h
    have:l = [] := by have := len_cntL l; cases l <;> simp_all
    subst this
    obtain ⟨m,rfl⟩:∃ m,n = m + 1 := ⟨n - 1,by omega⟩
    obtain ⟨m,rfl⟩:∃ k,m = k + 1 := ⟨m - 1,by omega⟩
    refine ⟨h,?_,Grow.refl _⟩
    rw [call_succ]
    show call1 (call fns (m + 1)) (m + 1) f10 _ _ = _
    simp [f10,Fr.keep_cons',Fr.keep_nil,b10_0,loopN,Stmt.cntL]
  | succ d ih =>
  intro f l hd n hn hs h
  obtain ⟨m,rfl⟩:∃ m,n = m + 1 := ⟨n - 1,by omega⟩
  have hlen := len_cntL l
  have L := loopN_ind (b := exec (call fns m) m b10_0) (n := l.length) (I := I10 f l h) (Q := fun x fr' h' => x = .brk 0 ∧ Grow h h' ∧ Fr.get fr' 3 = some (.int .i64 (Stmt.cntL l)))
    (fun i fr k hi hI => by
      obtain ⟨gr,t0,t3,t4⟩ := hI
      obtain ⟨x,hx⟩:∃ x,l[i]? = some x := ⟨_,List.getElem?_eq_getElem hi⟩
      have hi':(i:Int) < (l.length:Int) := by omega
      have hw:wrp .i64 ((i:Int) + 1) = (i:Int) + 1 := wrp_i64 (by omega) (by omega)
      have hsum := cntL_take l i x hx
      have hle := cntL_le l (i + 1)
      have hce := Stmt.cnt_eq x
      have htl := take_cntL l i
      have htl1:(l.take i).length = i := by simp; omega
      have htl2:(l.take (i + 1)).length = i + 1 := by simp; omega
      obtain ⟨k1,e1,q1⟩ := ih x.fb x.body (by omega) m (by omega) (by omega) k
      obtain ⟨k2,e2,q2⟩ := ih x.fe x.els (by omega) m (by omega) (by omega) k1
      rw [htl1] at t3
      refine .inl ?_
      simp [b10_0,iadv,ldv,cut,mk,V.cells,t0,t3,t4,hi',hx,hw,Stmt.v_eq x,e1,e2,Log.push,addrOf,findL,obeq_refl]
      have hv:wrp .i64 (wrp .i64 ((l.length:Int) + ((Stmt.cntL (l.take i) - i:Nat):Int) + (Stmt.cntL x.body:Int)) + (Stmt.cntL x.els:Int)) = (l.length:Int) + ((Stmt.cntL (l.take (i + 1)) - (i + 1):Nat):Int) := by
        have hw1:wrp .i64 ((l.length:Int) + ((Stmt.cntL (l.take i) - i:Nat):Int) + (Stmt.cntL x.body:Int)) = (l.length:Int) + ((Stmt.cntL (l.take i) - i:Nat):Int) + (Stmt.cntL x.body:Int) := wrp_i64 (by omega) (by omega)
        rw [hw1,wrp_i64 (by omega) (by omega)]; omega
      exact ⟨_,_,⟨rfl,rfl⟩,gr.trans (q1.trans q2),by simp [t0],by simp only [htl2]; simp [hv],by simp⟩)
    (fun fr k hI => by
      obtain ⟨gr,t0,t3,t4⟩ := hI
      have h3:l.length + (Stmt.cntL l - l.length) = Stmt.cntL l := by omega
      simp only [List.take_length] at t3
      rw [h3] at t3
      simp [b10_0,iadv,ldv,cut,mk,V.cells,t0,t3,t4]
      exact ⟨.brk 0,by simp,_,_,⟨rfl,rfl,rfl⟩,rfl,gr,by simp [t3]⟩)
    l.length 0 (by omega) (by omega) m (by omega)
  obtain ⟨fr3,e3,i3⟩:∃ fr3,exec (call fns m) m (.seq s10_0 (.seq s10_1 p10_2)) (enter 0 [.sl f (l.map Stmt.v)]) h = some (.norm,fr3,h) ∧ I10 f l h 0 fr3 h := by
    simp [s10_0,s10_1,p10_2,Fr.keep_cons',Fr.keep_nil]
    exact ⟨Grow.refl _,by simp,by simp [Stmt.cntL],by simp⟩
  obtain ⟨x,fr4,h4,e4,rfl,g4,q4⟩ := L fr3 h i3
  refine ⟨h4,?_,g4⟩
  rw [call_succ]
  show call1 (call fns m) m f10 _ _ = _
  have q:exec (call fns m) m f10.body (enter 0 [.sl f (l.map Stmt.v)]) h = exec (call fns m) m (.seq s10_3 s10_4) fr4 h4 := by
    rw [body_10,seg_10_2]
    exact glue3 e3 (exec_brk e4)
  unfold call1
  rw [q]
  simp [s10_3,s10_4,iadv,ldv,cut,mk,V.cells,q4,res_10,fz_10]

/-! ### Slices that are seen,by value or in memory -/
def lenV:V → Option V
  | .sl _ l => some (.int .i64 l.length)
  | .ref _ _ n _ _ => some (.int .i64 n)
  | _ => none
theorem lenV_cases {v:V} {n:Nat} (h:lenV v = some (.int .i64 n)):(∃ f l,v = .sl f l ∧ l.length = n) ∨ (∃ id lo e cap,v = .ref id lo n e cap) := by
  cases v with
  | sl f l => simp [lenV] at h; exact .inl ⟨f,l,rfl,by omega⟩
  | ref id lo len e cap => simp [lenV] at h; exact .inr ⟨id,lo,e,cap,by rw [show len = n by omega]⟩
  | _ => simp [lenV] at h
structure Sees (n:Nat) (ag:Bool) (h:H) (v:V) (xs:List V):Prop where
  len:lenV v = some (.int .i64 xs.length)
  at':∀ (i:Nat) x,xs[i]? = some x → ∃ a,iadv n v (i:Int) = some a ∧ ∀ k,Grow h k → ldv k n ag a = some x
theorem Sees.grow {n:Nat} {ag:Bool} {h k:H} {v:V} {xs:List V} (s:Sees n ag h v xs) (g:Grow h k):Sees n ag k v xs :=
  ⟨s.len,fun i x hx => by
    obtain ⟨a,e,q⟩ := s.at' i x hx
    exact ⟨a,e,fun k' g' => q k' (g.trans g')⟩⟩
theorem Sees.slS (h:H) (f:Bool) (l:List Stmt):Sees 11 true h (.sl f (l.map Stmt.v)) (l.map Stmt.v) :=
  ⟨by simp [lenV],fun i x hx => by
    obtain ⟨y,hy,rfl⟩:∃ y,l[i]? = some y ∧ Stmt.v y = x := by simpa [List.getElem?_map] using hx
    exact ⟨.vptr (Stmt.v y).cells,by simp [iadv,hy,len_106],fun k _ => ld_106 y k⟩⟩
theorem Sees.slT (h:H) (f:Bool) (l:List (List Nat)):Sees 1 false h (.sl f (l.map .str)) (l.map .str) :=
  ⟨by simp [lenV],fun i x hx => by
    obtain ⟨y,hy,rfl⟩:∃ y,l[i]? = some y ∧ V.str y = x := by simpa [List.getElem?_map] using hx
    exact ⟨.vptr [.str y],by simp [iadv,hy,V.cells],fun k _ => by simp [ldv,cut,Ai.mk]⟩⟩
theorem Sees.refS {h:H} {id:Nat} {es:List V} {kd:Kind} {cap:Option Nat} (l:List Stmt) (hid:id < h.nx * 256) (hg:h.get id = some (.row es 11 kd)) (ht:es.take l.length = l.map Stmt.v) :
    Sees 11 true h (.ref id 0 l.length 11 cap) (l.map Stmt.v) :=
  ⟨by simp [lenV],fun i x hx => by
    obtain ⟨y,hy,rfl⟩:∃ y,l[i]? = some y ∧ Stmt.v y = x := by simpa [List.getElem?_map] using hx
    obtain ⟨hi,_⟩ := List.getElem?_eq_some_iff.1 hy
    have hes:es[i]? = some (Stmt.v y) := by
      have:(es.take l.length)[i]? = some (Stmt.v y) := by rw [ht]; simp [hy]
      rwa [List.getElem?_take_of_lt hi] at this
    refine ⟨.ptr id i 0,by simp [iadv]; omega,fun k g => ?_⟩
    have hk:k.get id = some (.row es 11 kd) := by rw [g.2 id hid]; exact hg
    obtain ⟨cs,hcs,hcl⟩ := Stmt.v_cells y
    have h11:cs.take 11 = cs := List.take_of_length_le (by omega)
    simp [ldv,hk,hes,hcs,V.cells,cut,hcl,Ai.mk,h11]⟩
theorem Sees.refT {h:H} {id:Nat} {es:List V} {kd:Kind} {cap:Option Nat} (l:List (List Nat)) (hid:id < h.nx * 256) (hg:h.get id = some (.row es 1 kd)) (ht:es.take l.length = l.map .str) :
    Sees 1 false h (.ref id 0 l.length 1 cap) (l.map .str) :=
  ⟨by simp [lenV],fun i x hx => by
    obtain ⟨y,hy,rfl⟩:∃ y,l[i]? = some y ∧ V.str y = x := by simpa [List.getElem?_map] using hx
    obtain ⟨hi,_⟩ := List.getElem?_eq_some_iff.1 hy
    have hes:es[i]? = some (.str y) := by
      have:(es.take l.length)[i]? = some (.str y) := by rw [ht]; simp [hy]
      rwa [List.getElem?_take_of_lt hi] at this
    refine ⟨.ptr id i 0,by simp [iadv]; omega,fun k g => ?_⟩
    have hk:k.get id = some (.row es 1 kd) := by rw [g.2 id hid]; exact hg
    simp [ldv,hk,hes,V.cells,cut,Ai.mk]⟩

structure J106 (v:V) (l:List Stmt) (g:V) (h0:H) (i:Nat) (fr:Fr) (h:H):Prop where
  gr:Grow h0 h
  tl:Fr.get fr 0 = some v
  ts:Fr.get fr 1 = some g
  ti:Fr.get fr 8 = some (.int .i64 i)
  tn:Fr.get fr 7 = some (.int .i64 l.length)
theorem see_106 (m:Nat) (v:V) (l:List Stmt) (fid:Nat) (caps:List V) (p:Stmt → Bool) (hn:l.length + 3 ≤ m) (hl:l.length < 2 ^ 31) (h:H) (sv:Sees 11 true h v (l.map Stmt.v))
    (hp:∀ x,x ∈ l → ∀ k,Grow h k → ∃ k',call fns m fid (x.v :: caps) k = some (.bool (p x),k') ∧ Grow k k') :
    ∃ h',call fns (m + 1) 106 [v,.fn fid [] caps] h = some (.int .i64 (idxOf p l 0),h') ∧ Grow h h' := by
  rw [call_succ]
  show ∃ h',call1 (call fns m) m f106 _ _ = _ ∧ _
  have L := loopN_find (b := exec (call fns m) m b106_0) (n := l.length) (inv := J106 v l (.fn fid [] caps) h) (P := fun i => match l[i]? with | some x => p x | none => false) (Q := fun i fr' h' => Grow h h' ∧ Fr.get fr' 4 = some (.int .i64 i)) (R := fun fr' h' => Grow h h') (d := 0)
    (fun i fr k hi hI hpi => by
      obtain ⟨gr,tl,ts,ti,tn⟩ := hI
      obtain ⟨x,hx⟩:∃ x,l[i]? = some x := ⟨_,List.getElem?_eq_getElem hi⟩
      have hi':(i:Int) < (l.length:Int) := by omega
      simp only [hx] at hpi
      obtain ⟨k',hc,g'⟩ := hp x (List.mem_of_getElem? hx) k gr
      obtain ⟨a,e2,q1⟩ := sv.at' i x.v (by simp [hx])
      have e1 := q1 k gr
      simp [b106_0,tl,ts,ti,tn,hi',hx,hpi,hc,e1,e2]
      exact ⟨_,_,⟨rfl,rfl⟩,gr.trans g',by simp⟩)
    (fun i fr k hi hI hpi => by
      obtain ⟨gr,tl,ts,ti,tn⟩ := hI
      obtain ⟨x,hx⟩:∃ x,l[i]? = some x := ⟨_,List.getElem?_eq_getElem hi⟩
      have hi':(i:Int) < (l.length:Int) := by omega
      have hw:wrp .i64 ((i:Int) + 1) = (i:Int) + 1 := wrp_i64 (by omega) (by omega)
      simp only [hx] at hpi
      obtain ⟨k',hc,g'⟩ := hp x (List.mem_of_getElem? hx) k gr
      obtain ⟨a,e2,q1⟩ := sv.at' i x.v (by simp [hx])
      have e1 := q1 k gr
      simp [b106_0,tl,ts,ti,tn,hi',hx,hpi,hc,hw,e1,e2]
      exact ⟨_,_,⟨rfl,rfl⟩,gr.trans g',by simp [tl],by simp [ts],by simp,by simp [tn]⟩)
    (fun fr k hI => by
      obtain ⟨gr,tl,ts,ti,tn⟩ := hI
      simp [b106_0,tl,ts,ti,tn]
      exact ⟨_,_,⟨rfl,rfl⟩,gr⟩)
    m (by omega) [(8,.int .i64 0),(7,.int .i64 l.length),(4,.int .i64 0),(0,v),(1,.fn fid [] caps)] h ⟨Grow.refl h,by simp,by simp,by simp,by simp⟩
  obtain ⟨k1,k2⟩ := idxOf_of (p := p) (l := l) (P := fun i => match l[i]? with | some x => p x | none => false) (fun i hi => by simp [List.getElem?_eq_getElem hi])
  have hlen := sv.len
  simp only [List.length_map] at hlen
  rcases lenV_cases hlen with ⟨f,xs,rfl,hx⟩ | ⟨id,lo,e,cap,rfl⟩
  · rcases L with ⟨i,fr',h',hi,hp,hj,e,g,q⟩ | ⟨hj,fr',h',e,g⟩
    · refine ⟨h',?_,g⟩
      rw [k1 i hi hp hj]
      simp [f106,Fr.keep_cons',Fr.keep_nil,hx,e,q]
    · refine ⟨h',?_,g⟩
      rw [k2 hj]
      simp [f106,Fr.keep_cons',Fr.keep_nil,hx,e]
  · rcases L with ⟨i,fr',h',hi,hp,hj,e,g,q⟩ | ⟨hj,fr',h',e,g⟩
    · refine ⟨h',?_,g⟩
      rw [k1 i hi hp hj]
      simp [f106,Fr.keep_cons',Fr.keep_nil,e,q]
    · refine ⟨h',?_,g⟩
      rw [k2 hj]
      simp [f106,Fr.keep_cons',Fr.keep_nil,e]
theorem see_96 (m:Nat) (v:V) (l:List Stmt) (fid:Nat) (caps:List V) (p:Stmt → Bool) (hn:l.length + 3 ≤ m) (hl:l.length < 2 ^ 31) (h:H) (sv:Sees 11 true h v (l.map Stmt.v))
    (hp:∀ x,x ∈ l → ∀ k,Grow h k → ∃ k',call fns m fid (x.v :: caps) k = some (.bool (p x),k') ∧ Grow k k') :
    ∃ h',call fns (m + 2) 96 [v,.fn fid [] caps] h = some (.bool (l.any p),h') ∧ Grow h h' := by
  obtain ⟨h',e,g⟩ := see_106 m v l fid caps p hn hl h sv hp
  have k := idxOf_ge p l
  refine ⟨h',?_,g⟩
  rw [call_succ]
  show call1 (call fns (m + 1)) (m + 1) f96 _ _ = _
  simp only [← k]
  simp [f96,Fr.keep_cons',Fr.keep_nil,e]

structure J57 (v:V) (l:List (List Nat)) (s:List Nat) (h0:H) (i:Nat) (fr:Fr) (h:H):Prop where
  e:h = h0
  tl:Fr.get fr 0 = some v
  ts:Fr.get fr 1 = some (.str s)
  ti:Fr.get fr 8 = some (.int .i64 i)
  tn:Fr.get fr 7 = some (.int .i64 l.length)
theorem see_57 (n:Nat) (v:V) (l:List (List Nat)) (s:List Nat) (hn:l.length + 4 ≤ n) (hl:l.length < 2 ^ 31) (h:H) (sv:Sees 1 false h v (l.map .str)):call fns n 57 [v,.str s] h = some (.int .i64 (idxOf (fun x => s == x) l 0),h) := by
  obtain ⟨m,rfl⟩:∃ m,n = m + 1 := ⟨n - 1,by omega⟩
  rw [call_succ]
  show call1 (call fns m) m f57 _ _ = _
  have L := loopN_find (b := exec (call fns m) m b57_0) (n := l.length) (inv := J57 v l s h) (P := fun i => match l[i]? with | some x => s == x | none => false) (Q := fun i fr' h' => h' = h ∧ Fr.get fr' 4 = some (.int .i64 i)) (R := fun fr' h' => h' = h) (d := 0)
    (fun i fr k hi hI hp => by
      obtain ⟨rfl,tl,ts,ti,tn⟩ := hI
      obtain ⟨x,hx⟩:∃ x,l[i]? = some x := ⟨_,List.getElem?_eq_getElem hi⟩
      have hi':(i:Int) < (l.length:Int) := by omega
      simp only [hx] at hp
      obtain ⟨a,e2,q1⟩ := sv.at' i (.str x) (by simp [hx])
      have e1 := q1 k (Grow.refl k)
      simp [b57_0,tl,ts,ti,tn,hi',hx,hp,e1,e2]
      exact ⟨_,_,⟨rfl,rfl⟩,rfl,by simp⟩)
    (fun i fr k hi hI hp => by
      obtain ⟨rfl,tl,ts,ti,tn⟩ := hI
      obtain ⟨x,hx⟩:∃ x,l[i]? = some x := ⟨_,List.getElem?_eq_getElem hi⟩
      have hi':(i:Int) < (l.length:Int) := by omega
      have hw:wrp .i64 ((i:Int) + 1) = (i:Int) + 1 := wrp_i64 (by omega) (by omega)
      simp only [hx] at hp
      obtain ⟨a,e2,q1⟩ := sv.at' i (.str x) (by simp [hx])
      have e1 := q1 k (Grow.refl k)
      simp [b57_0,tl,ts,ti,tn,hi',hx,hp,hw,e1,e2]
      exact ⟨_,_,⟨rfl,rfl⟩,rfl,by simp [tl],by simp [ts],by simp,by simp [tn]⟩)
    (fun fr k hI => by
      obtain ⟨rfl,tl,ts,ti,tn⟩ := hI
      simp [b57_0,tl,ts,ti,tn])
    m (by omega) [(8,.int .i64 0),(7,.int .i64 l.length),(4,.int .i64 0),(0,v),(1,.str s)] h ⟨rfl,by simp,by simp,by simp,by simp⟩
  obtain ⟨k1,k2⟩ := idxOf_of (p := fun x => s == x) (l := l) (P := fun i => match l[i]? with | some x => s == x | none => false) (fun i hi => by simp [List.getElem?_eq_getElem hi])
  have hlen := sv.len
  simp only [List.length_map] at hlen
  rcases lenV_cases hlen with ⟨f,xs,rfl,hx⟩ | ⟨id,lo,e,cap,rfl⟩
  · rcases L with ⟨i,fr',h',hi,hp,hj,e,rfl,q⟩ | ⟨hj,fr',h',e,rfl⟩
    · rw [k1 i hi hp hj]
      simp [f57,Fr.keep_cons',Fr.keep_nil,hx,e,q]
    · rw [k2 hj]
      simp [f57,Fr.keep_cons',Fr.keep_nil,hx,e]
  · rcases L with ⟨i,fr',h',hi,hp,hj,e,rfl,q⟩ | ⟨hj,fr',h',e,rfl⟩
    · rw [k1 i hi hp hj]
      simp [f57,Fr.keep_cons',Fr.keep_nil,e,q]
    · rw [k2 hj]
      simp [f57,Fr.keep_cons',Fr.keep_nil,e]
theorem see_37 (n:Nat) (v:V) (l:List (List Nat)) (s:List Nat) (hn:l.length + 5 ≤ n) (hl:l.length < 2 ^ 31) (h:H) (sv:Sees 1 false h v (l.map .str)):call fns n 37 [v,.str s] h = some (.bool (l.any fun x => s == x),h) := by
  obtain ⟨m,rfl⟩:∃ m,n = m + 1 := ⟨n - 1,by omega⟩
  have e := see_57 m v l s (by omega) hl h sv
  have k := idxOf_ge (fun x => s == x) l
  rw [call_succ]
  show call1 (call fns m) m f37 _ _ = _
  simp [f37,Fr.keep_cons',Fr.keep_nil,e,k]

structure J45 (v:V) (l:List (List Nat)) (s:List Nat) (h0:H) (i:Nat) (fr:Fr) (h:H):Prop where
  e:h = h0
  tl:Fr.get fr 0 = some v
  ts:Fr.get fr 1 = some (.str s)
  ti:Fr.get fr 5 = some (.int .i64 i)
theorem see_45 (n:Nat) (v:V) (l:List (List Nat)) (s:List Nat) (hn:l.length + 4 ≤ n) (hl:l.length < 2 ^ 31) (h:H) (sv:Sees 1 false h v (l.map .str)):call fns n 45 [v,.str s] h = some (.int .i64 (idxOf (fun x => x == s) l 0),h) := by
  obtain ⟨m,rfl⟩:∃ m,n = m + 1 := ⟨n - 1,by omega⟩
  rw [call_succ]
  show call1 (call fns m) m f45 _ _ = _
  have hlen := sv.len
  simp only [List.length_map] at hlen
  have L := loopN_find (b := exec (call fns m) m b45_0) (n := l.length) (inv := J45 v l s h) (P := fun i => match l[i]? with | some x => x == s | none => false) (Q := fun i fr' h' => h' = h ∧ Fr.get fr' 4 = some (.int .i64 i)) (R := fun fr' h' => h' = h) (d := 0)
    (fun i fr k hi hI hp => by
      obtain ⟨rfl,tl,ts,ti⟩ := hI
      obtain ⟨x,hx⟩:∃ x,l[i]? = some x := ⟨_,List.getElem?_eq_getElem hi⟩
      have hi':(i:Int) < (l.length:Int) := by omega
      simp only [hx] at hp
      obtain ⟨a,e2,q1⟩ := sv.at' i (.str x) (by simp [hx])
      have e1 := q1 k (Grow.refl k)
      rcases lenV_cases hlen with ⟨f,xs,rfl,hxl⟩ | ⟨id,lo,e,cap,rfl⟩
      · simp [b45_0,tl,ts,ti,hi',hx,hp,e1,e2,hxl]
        exact ⟨_,_,⟨rfl,rfl⟩,rfl,by simp⟩
      · simp [b45_0,tl,ts,ti,hi',hx,hp,e1,e2]
        exact ⟨_,_,⟨rfl,rfl⟩,rfl,by simp⟩)
    (fun i fr k hi hI hp => by
      obtain ⟨rfl,tl,ts,ti⟩ := hI
      obtain ⟨x,hx⟩:∃ x,l[i]? = some x := ⟨_,List.getElem?_eq_getElem hi⟩
      have hi':(i:Int) < (l.length:Int) := by omega
      have hw:wrp .i64 ((i:Int) + 1) = (i:Int) + 1 := wrp_i64 (by omega) (by omega)
      simp only [hx] at hp
      obtain ⟨a,e2,q1⟩ := sv.at' i (.str x) (by simp [hx])
      have e1 := q1 k (Grow.refl k)
      rcases lenV_cases hlen with ⟨f,xs,rfl,hxl⟩ | ⟨id,lo,e,cap,rfl⟩
      · simp [b45_0,tl,ts,ti,hi',hx,hp,hw,e1,e2,hxl]
        exact ⟨_,_,⟨rfl,rfl⟩,rfl,by simp [tl],by simp [ts],by simp⟩
      · simp [b45_0,tl,ts,ti,hi',hx,hp,hw,e1,e2]
        exact ⟨_,_,⟨rfl,rfl⟩,rfl,by simp [tl],by simp [ts],by simp⟩)
    (fun fr k hI => by
      obtain ⟨rfl,tl,ts,ti⟩ := hI
      rcases lenV_cases hlen with ⟨f,xs,rfl,hxl⟩ | ⟨id,lo,e,cap,rfl⟩
      · simp [b45_0,tl,ts,ti,hxl]
      · simp [b45_0,tl,ts,ti])
    m (by omega) [(5,.int .i64 0),(4,.int .i64 0),(0,v),(1,.str s)] h ⟨rfl,by simp,by simp,by simp⟩
  obtain ⟨k1,k2⟩ := idxOf_of (p := fun x => x == s) (l := l) (P := fun i => match l[i]? with | some x => x == s | none => false) (fun i hi => by simp [List.getElem?_eq_getElem hi])
  rcases L with ⟨i,fr',h',hi,hp,hj,e,rfl,q⟩ | ⟨hj,fr',h',e,rfl⟩
  · rw [k1 i hi hp hj]
    simp [f45,Fr.keep_cons',Fr.keep_nil,e,q]
  · rw [k2 hj]
    simp [f45,Fr.keep_cons',Fr.keep_nil,e]

/-! ### Slices that one owns,and what a step may change -/
def ids:V → List Nat
  | .ref id _ _ _ _ => [id]
  | _ => []
def Own (esz:Nat) (h:H) (v:V) (l:List V):Prop :=
  (v = .sl true [] ∧ l = []) ∨
  ∃ id es,v = .ref id 0 l.length esz none ∧ h.get id = some (.row es esz .slk) ∧ es.take l.length = l ∧ l.length ≤ es.length ∧ id < h.nx * 256
theorem Own.nil (esz:Nat) (h:H):Own esz h (.sl true []) [] := .inl ⟨rfl,rfl⟩
theorem Own.keep {esz:Nat} {h k:H} {v:V} {l:List V} (o:Own esz h v l) (hk:∀ id,id ∈ ids v → k.get id = h.get id) (hn:h.nx ≤ k.nx):Own esz k v l := by
  rcases o with o | ⟨id,es,rfl,h1,h2,h3,h4⟩
  · exact .inl o
  · exact .inr ⟨id,es,rfl,by rw [hk id (by simp [ids])]; exact h1,h2,h3,by omega⟩
theorem Own.lt {esz:Nat} {h:H} {v:V} {l:List V} (o:Own esz h v l):∀ id,id ∈ ids v → id < h.nx * 256 := by
  rcases o with ⟨rfl,_⟩ | ⟨id,es,rfl,h1,h2,h3,h4⟩
  · simp [ids]
  · intro j hj
    simp [ids] at hj
    omega
/-- Its form. -/
theorem Own.form {esz:Nat} {h:H} {v:V} {l:List V} (o:Own esz h v l):(v = .sl true [] ∧ l = []) ∨ ∃ id,v = .ref id 0 l.length esz none := by
  rcases o with o | ⟨id,es,rfl,h1,h2,h3,h4⟩
  · exact .inl o
  · exact .inr ⟨id,rfl⟩
theorem Own.app {esz:Nat} {h:H} {v:V} {l:List V} (o:Own esz h v l) (x:V) (hx:cellsOk esz x = true) (he:0 < esz) (hl:l.length + 1 < bound) (nid:Nat) (hnid:nid < h.nx * 256) (hf:nid ∉ ids v) (w:V) (hw:elems h w = some [x]) :
    ∃ h',appv esz h nid v w = some (.ref nid 0 (l ++ [x]).length esz none,h') ∧ Own esz h' (.ref nid 0 (l ++ [x]).length esz none) (l ++ [x]) ∧ h'.nx = h.nx ∧ (∀ i,i ≠ nid → i ∉ ids v → h'.get i = h.get i) ∧ h'.get nid = some (.row (l ++ [x]) esz .slk) := by
  have h0:esz ≠ 0 := by omega
  rcases o with ⟨rfl,rfl⟩ | ⟨id,es,rfl,h1,h2,h3,h4⟩
  · refine ⟨h.set nid (.row ([] ++ [x]) esz .slk),?_,.inr ⟨nid,[] ++ [x],rfl,by simp [H.get_set],by rw [List.take_length],Nat.le_refl _,hnid⟩,rfl,fun i h1 _ => by simp [H.get_set,h1],by simp [H.get_set]⟩
    simp at hl
    simp [appv,hw,h0,hx,hl]
  · have hne:id ≠ nid := by simp [ids] at hf; omega
    refine ⟨(h.set id .dead).set nid (.row (l ++ [x]) esz .slk),?_,.inr ⟨nid,l ++ [x],rfl,by simp [H.get_set],by rw [List.take_length],Nat.le_refl _,hnid⟩,rfl,fun i h1 h5 => by simp [ids] at h5; simp [H.get_set,h1,h5],by simp [H.get_set]⟩
    simp [appv,hw,h0,hx,h1,h2,h3,hl]
theorem Own.pop {esz:Nat} {h:H} {v:V} {l:List V} {x:V} (o:Own esz h v (l ++ [x])):∃ id,v = .ref id 0 (l.length + 1) esz none ∧ Own esz h (.ref id 0 l.length esz none) l := by
  rcases o with ⟨rfl,hc⟩ | ⟨id,es,rfl,h1,h2,h3,h4⟩
  · simp at hc
  · refine ⟨id,by simp,.inr ⟨id,es,rfl,h1,?_,by simp at h3; omega,h4⟩⟩
    have:(es.take (l ++ [x]).length).take l.length = l := by rw [h2]; simp
    rwa [List.take_take,Nat.min_eq_left (by simp)] at this
theorem Own.seesS {h:H} {v:V} {l:List Stmt} (o:Own 11 h v (l.map Stmt.v)):Sees 11 true h v (l.map Stmt.v) := by
  rcases o with ⟨rfl,hc⟩ | ⟨id,es,rfl,h1,h2,h3,h4⟩
  · rw [hc]; exact Sees.slS h true []
  · simp only [List.length_map] at h2 ⊢
    exact Sees.refS l h4 h1 h2
theorem Own.seesT {h:H} {v:V} {l:List (List Nat)} (o:Own 1 h v (l.map .str)):Sees 1 false h v (l.map .str) := by
  rcases o with ⟨rfl,hc⟩ | ⟨id,es,rfl,h1,h2,h3,h4⟩
  · rw [hc]; exact Sees.slT h true []
  · simp only [List.length_map] at h2 ⊢
    exact Sees.refT l h4 h1 h2
structure Step (S S':List Nat) (h h':H):Prop where
  nx:h.nx ≤ h'.nx
  keep:∀ id,id < h.nx * 256 → id ∉ S → h'.get id = h.get id
  ids:∀ id,id ∈ S' → id ∈ S ∨ h.nx * 256 ≤ id
theorem Step.refl (S:List Nat) (h:H):Step S S h h := ⟨Nat.le_refl _,fun _ _ _ => rfl,fun _ h => .inl h⟩
theorem Step.grow {h h':H} (S:List Nat) (g:Grow h h'):Step S S h h' := ⟨g.1,fun id h1 _ => g.2 id h1,fun _ h => .inl h⟩
theorem Step.trans {S S' S'':List Nat} {h h' h'':H} (a:Step S S' h h') (b:Step S' S'' h' h''):Step S S'' h h'' :=
  ⟨Nat.le_trans a.nx b.nx,fun id h1 h2 => by
    have n1 := a.nx
    rw [b.keep id (by omega) (fun h3 => (a.ids id h3).elim h2 (by omega)),a.keep id h1 h2],
  fun id h1 => by
    have n1 := a.nx
    rcases b.ids id h1 with h2 | h2
    · exact a.ids id h2
    · exact .inr (by omega)⟩

/-! ### The walker -/
def wrow (p:Prog) (t:Int) (va vs vt:V):V := .agg [.sl p.fd (p.decls.map Decl.v),.sl p.ft (p.threads.map Thread.v),.int .i64 t,va,vs,vt]
def wS (w:Nat) (va vs vt:V):List Nat := w :: (ids va ++ (ids vs ++ ids vt))
structure WS (p:Prog) (t:Int) (w:Nat) (va vs vt:V) (ar:List Stmt) (sp st:List (List Nat)) (h:H):Prop where
  r:h.get w = some (.row [wrow p t va vs vt] 6 .rw)
  lt:w < h.nx * 256
  a:Own 11 h va (ar.map Stmt.v)
  s:Own 1 h vs (sp.map .str)
  t:Own 1 h vt (st.map .str)
  nd:(wS w va vs vt).Nodup
theorem WS.grow {p:Prog} {t:Int} {w:Nat} {va vs vt:V} {ar:List Stmt} {sp st:List (List Nat)} {h k:H} (s:WS p t w va vs vt ar sp st h) (g:Grow h k):WS p t w va vs vt ar sp st k :=
  ⟨by rw [g.2 w s.lt]; exact s.r,by have := g.1; have := s.lt; omega,s.a.keep (fun id hi => g.2 id (s.a.lt id hi)) g.1,s.s.keep (fun id hi => g.2 id (s.s.lt id hi)) g.1,s.t.keep (fun id hi => g.2 id (s.t.lt id hi)) g.1,s.nd⟩
theorem WS.ltS {p:Prog} {t:Int} {w:Nat} {va vs vt:V} {ar:List Stmt} {sp st:List (List Nat)} {h:H} (s:WS p t w va vs vt ar sp st h):∀ id,id ∈ wS w va vs vt → id < h.nx * 256 := by
  intro id hi
  simp only [wS,List.mem_cons,List.mem_append] at hi
  rcases hi with rfl | hi | hi | hi
  · exact s.lt
  · exact s.a.lt id hi
  · exact s.s.lt id hi
  · exact s.t.lt id hi

/-! ### Records in memory,read and written -/
theorem stvS0 {h:H} {id:Nat} {y:Stmt} (hg:h.get id = some (.row [zeroS] 11 .rw)):stv h 11 (.ptr id 0 0) y.v = some (h.set id (.row [y.v] 11 .rw)) := by
  simp [stv,hg,zeroS,Stmt.v_eq,V.cells,one,splice]
theorem ldSa {h:H} {id:Nat} {x:Stmt} {kd:Kind} (hg:h.get id = some (.row [x.v] 11 kd)):ldv h 11 true (.ptr id 0 0) = some (x.v) := by
  simp [ldv,hg,Stmt.v_eq,Expr.v_eq,V.cells,cut,mk]
theorem ldS0 {h:H} {id:Nat} {x:Stmt} {kd:Kind} (hg:h.get id = some (.row [x.v] 11 kd)):ldv h 1 false (.ptr id 0 0) = some (.int .i64 x.op) := by
  simp [ldv,hg,Stmt.v_eq,Expr.v_eq,V.cells,cut,mk]
theorem ldS1 {h:H} {id:Nat} {x:Stmt} {kd:Kind} (hg:h.get id = some (.row [x.v] 11 kd)):ldv h 1 false (.ptr id 0 1) = some (.int .i64 x.line) := by
  simp [ldv,hg,Stmt.v_eq,Expr.v_eq,V.cells,cut,mk]
theorem ldS2 {h:H} {id:Nat} {x:Stmt} {kd:Kind} (hg:h.get id = some (.row [x.v] 11 kd)):ldv h 1 false (.ptr id 0 2) = some (.str x.name) := by
  simp [ldv,hg,Stmt.v_eq,Expr.v_eq,V.cells,cut,mk]
theorem ldS3 {h:H} {id:Nat} {x:Stmt} {kd:Kind} (hg:h.get id = some (.row [x.v] 11 kd)):ldv h 1 false (.ptr id 0 3) = some (.str x.arg) := by
  simp [ldv,hg,Stmt.v_eq,Expr.v_eq,V.cells,cut,mk]
theorem ldS4 {h:H} {id:Nat} {x:Stmt} {kd:Kind} (hg:h.get id = some (.row [x.v] 11 kd)):ldv h 1 false (.ptr id 0 4) = some (.sl x.fi (x.index.map Expr.v)) := by
  simp [ldv,hg,Stmt.v_eq,Expr.v_eq,V.cells,cut,mk]
theorem ldS5 {h:H} {id:Nat} {x:Stmt} {kd:Kind} (hg:h.get id = some (.row [x.v] 11 kd)):ldv h 4 true (.ptr id 0 5) = some (x.expr.v) := by
  simp [ldv,hg,Stmt.v_eq,Expr.v_eq,V.cells,cut,mk]
theorem ldS9 {h:H} {id:Nat} {x:Stmt} {kd:Kind} (hg:h.get id = some (.row [x.v] 11 kd)):ldv h 1 false (.ptr id 0 9) = some (.sl x.fb (x.body.map Stmt.v)) := by
  simp [ldv,hg,Stmt.v_eq,Expr.v_eq,V.cells,cut,mk]
theorem ldS10 {h:H} {id:Nat} {x:Stmt} {kd:Kind} (hg:h.get id = some (.row [x.v] 11 kd)):ldv h 1 false (.ptr id 0 10) = some (.sl x.fe (x.els.map Stmt.v)) := by
  simp [ldv,hg,Stmt.v_eq,Expr.v_eq,V.cells,cut,mk]
theorem ldW0 {h:H} {w:Nat} {p:Prog} {t:Int} {va vs vt:V} {kd:Kind} (hg:h.get w = some (.row [wrow p t va vs vt] 6 kd)):ldv h 2 true (.ptr w 0 0) = some (p.v) := by
  simp [ldv,hg,wrow,V.cells,cut,mk,Prog.v]
theorem ldW2 {h:H} {w:Nat} {p:Prog} {t:Int} {va vs vt:V} {kd:Kind} (hg:h.get w = some (.row [wrow p t va vs vt] 6 kd)):ldv h 1 false (.ptr w 0 2) = some (.int .i64 t) := by
  simp [ldv,hg,wrow,V.cells,cut,mk,Prog.v]
theorem ldW3 {h:H} {w:Nat} {p:Prog} {t:Int} {va vs vt:V} {kd:Kind} (hg:h.get w = some (.row [wrow p t va vs vt] 6 kd)):ldv h 1 false (.ptr w 0 3) = some (va) := by
  simp [ldv,hg,wrow,V.cells,cut,mk,Prog.v]
theorem ldW4 {h:H} {w:Nat} {p:Prog} {t:Int} {va vs vt:V} {kd:Kind} (hg:h.get w = some (.row [wrow p t va vs vt] 6 kd)):ldv h 1 false (.ptr w 0 4) = some (vs) := by
  simp [ldv,hg,wrow,V.cells,cut,mk,Prog.v]
theorem ldW5 {h:H} {w:Nat} {p:Prog} {t:Int} {va vs vt:V} {kd:Kind} (hg:h.get w = some (.row [wrow p t va vs vt] 6 kd)):ldv h 1 false (.ptr w 0 5) = some (vt) := by
  simp [ldv,hg,wrow,V.cells,cut,mk,Prog.v]
theorem ldWd {h:H} {w:Nat} {p:Prog} {t:Int} {va vs vt:V} {kd:Kind} (hg:h.get w = some (.row [wrow p t va vs vt] 6 kd)):ldv h 1 false (.ptr w 0 0) = some (.sl p.fd (p.decls.map Decl.v)) := by
  simp [ldv,hg,wrow,V.cells,cut,mk,Prog.v]
theorem stW2 {h:H} {w:Nat} {p:Prog} {t:Int} {va vs vt:V} (hg:h.get w = some (.row [wrow p t va vs vt] 6 .rw)) (t':Int):stv h 1 (.ptr w 0 2) (.int .i64 t') = some (h.set w (.row [wrow p t' va vs vt] 6 .rw)) := by
  simp [stv,hg,wrow,V.cells,one,splice]
theorem stW3 {h:H} {w:Nat} {p:Prog} {t:Int} {va vs vt:V} (hg:h.get w = some (.row [wrow p t va vs vt] 6 .rw)) (id lo len e:Nat) (cap:Option Nat):stv h 1 (.ptr w 0 3) (.ref id lo len e cap) = some (h.set w (.row [wrow p t (.ref id lo len e cap) vs vt] 6 .rw)) := by
  simp [stv,hg,wrow,V.cells,one,splice]
theorem stW4 {h:H} {w:Nat} {p:Prog} {t:Int} {va vs vt:V} (hg:h.get w = some (.row [wrow p t va vs vt] 6 .rw)) (id lo len e:Nat) (cap:Option Nat):stv h 1 (.ptr w 0 4) (.ref id lo len e cap) = some (h.set w (.row [wrow p t va (.ref id lo len e cap) vt] 6 .rw)) := by
  simp [stv,hg,wrow,V.cells,one,splice]
theorem stW5 {h:H} {w:Nat} {p:Prog} {t:Int} {va vs vt:V} (hg:h.get w = some (.row [wrow p t va vs vt] 6 .rw)) (id lo len e:Nat) (cap:Option Nat):stv h 1 (.ptr w 0 5) (.ref id lo len e cap) = some (h.set w (.row [wrow p t va vs (.ref id lo len e cap)] 6 .rw)) := by
  simp [stv,hg,wrow,V.cells,one,splice]
theorem WS.put_a {p:Prog} {t:Int} {w:Nat} {va vs vt:V} {ar:List Stmt} {sp st:List (List Nat)} {h:H} (hw:WS p t w va vs vt ar sp st h) (h':H) (nid n:Nat) (l':List Stmt) (hn:h.nx * 256 ≤ nid) (hlt:nid < h'.nx * 256) (hnx:h.nx ≤ h'.nx)
    (o:Own 11 h' (.ref nid 0 n 11 none) (l'.map Stmt.v)) (keep:∀ i,i < h.nx * 256 → i ∉ ids va → h'.get i = h.get i) :
    WS p t w (.ref nid 0 n 11 none) vs vt l' sp st (h'.set w (.row [wrow p t (.ref nid 0 n 11 none) vs vt] 6 .rw)) ∧ Step (wS w va vs vt) (wS w (.ref nid 0 n 11 none) vs vt) h (h'.set w (.row [wrow p t (.ref nid 0 n 11 none) vs vt] 6 .rw)) := by
  have hwl := hw.lt
  have hnw:nid ≠ w := by omega
  have nd := hw.nd
  simp only [wS,List.nodup_cons,List.nodup_append,List.mem_append,not_or] at nd
  obtain ⟨⟨n1,n2,n3⟩,n4,⟨n5,n6,n7⟩,n8⟩ := nd
  have djs:∀ id,id ∈ ids vs → id ≠ w ∧ id ∉ ids va := fun id hi => ⟨fun h => n2 (h ▸ hi),fun h => n8 id h id (.inl hi) rfl⟩
  have djt:∀ id,id ∈ ids vt → id ≠ w ∧ id ∉ ids va := fun id hi => ⟨fun h => n3 (h ▸ hi),fun h => n8 id h id (.inr hi) rfl⟩
  refine ⟨⟨by simp [H.get_set],by show w < h'.nx * 256; omega,o.keep (fun id hi => by simp [ids] at hi; subst hi; simp [H.get_set,hnw]) (Nat.le_refl _),hw.s.keep (fun id hi => by have h1 := hw.s.lt id hi; have h2 := djs id hi; rw [H.get_set,if_neg h2.1]; exact keep id h1 h2.2) hnx,hw.t.keep (fun id hi => by have h1 := hw.t.lt id hi; have h2 := djt id hi; rw [H.get_set,if_neg h2.1]; exact keep id h1 h2.2) hnx,?_⟩,⟨hnx,fun id h1 h2 => ?_,fun id h1 => ?_⟩⟩
  · have fa:∀ x,x ∈ ids va → x < h.nx * 256 := hw.a.lt
    have fs:∀ x,x ∈ ids vs → x < h.nx * 256 := hw.s.lt
    have ft:∀ x,x ∈ ids vt → x < h.nx * 256 := hw.t.lt
    simp only [wS,ids,List.nodup_cons,List.nodup_append,List.mem_append,not_or,List.mem_cons,List.not_mem_nil,or_false,List.nodup_nil,not_false_eq_true,and_true,true_and]
    refine ⟨⟨by omega,n2,n3⟩,⟨n5,n6,n7⟩,fun a ha b hb => ?_⟩
    subst ha
    rcases hb with hb | hb
    · have := fs b hb; omega
    · have := ft b hb; omega
  · simp only [wS,List.mem_cons,List.mem_append,not_or] at h2
    rw [H.get_set,if_neg h2.1]
    exact keep id h1 h2.2.1
  · simp only [wS,ids,List.mem_cons,List.mem_append,List.not_mem_nil,or_false] at h1 ⊢
    rcases h1 with h1 | h1 | h1 | h1
    · exact .inl (.inl h1)
    · exact .inr (by omega)
    · exact .inl (.inr (.inr (.inl h1)))
    · exact .inl (.inr (.inr (.inr h1)))
theorem WS.put_s {p:Prog} {t:Int} {w:Nat} {va vs vt:V} {ar:List Stmt} {sp st:List (List Nat)} {h:H} (hw:WS p t w va vs vt ar sp st h) (h':H) (nid n:Nat) (l':List (List Nat)) (hn:h.nx * 256 ≤ nid) (hlt:nid < h'.nx * 256) (hnx:h.nx ≤ h'.nx)
    (o:Own 1 h' (.ref nid 0 n 1 none) (l'.map .str)) (keep:∀ i,i < h.nx * 256 → i ∉ ids vs → h'.get i = h.get i) :
    WS p t w va (.ref nid 0 n 1 none) vt ar l' st (h'.set w (.row [wrow p t va (.ref nid 0 n 1 none) vt] 6 .rw)) ∧ Step (wS w va vs vt) (wS w va (.ref nid 0 n 1 none) vt) h (h'.set w (.row [wrow p t va (.ref nid 0 n 1 none) vt] 6 .rw)) := by
  have hwl := hw.lt
  have hnw:nid ≠ w := by omega
  have nd := hw.nd
  simp only [wS,List.nodup_cons,List.nodup_append,List.mem_append,not_or] at nd
  obtain ⟨⟨n1,n2,n3⟩,n4,⟨n5,n6,n7⟩,n8⟩ := nd
  have dja:∀ id,id ∈ ids va → id ≠ w ∧ id ∉ ids vs := fun id hi => ⟨fun h => n1 (h ▸ hi),fun h => n8 id hi id (.inl h) rfl⟩
  have djt:∀ id,id ∈ ids vt → id ≠ w ∧ id ∉ ids vs := fun id hi => ⟨fun h => n3 (h ▸ hi),fun h => n7 id h id hi rfl⟩
  refine ⟨⟨by simp [H.get_set],by show w < h'.nx * 256; omega,hw.a.keep (fun id hi => by have h1 := hw.a.lt id hi; have h2 := dja id hi; rw [H.get_set,if_neg h2.1]; exact keep id h1 h2.2) hnx,o.keep (fun id hi => by simp [ids] at hi; subst hi; simp [H.get_set,hnw]) (Nat.le_refl _),hw.t.keep (fun id hi => by have h1 := hw.t.lt id hi; have h2 := djt id hi; rw [H.get_set,if_neg h2.1]; exact keep id h1 h2.2) hnx,?_⟩,⟨hnx,fun id h1 h2 => ?_,fun id h1 => ?_⟩⟩
  · have fa:∀ x,x ∈ ids va → x < h.nx * 256 := hw.a.lt
    have fs:∀ x,x ∈ ids vs → x < h.nx * 256 := hw.s.lt
    have ft:∀ x,x ∈ ids vt → x < h.nx * 256 := hw.t.lt
    simp only [wS,ids,List.nodup_cons,List.nodup_append,List.mem_append,not_or,List.mem_cons,List.not_mem_nil,or_false,List.nodup_nil,not_false_eq_true,and_true,true_and]
    refine ⟨⟨n1,by omega,n3⟩,n4,⟨n6,fun a ha b hb => ?_⟩,fun a ha b hb => ?_⟩
    · have := ft b hb; omega
    · rcases hb with hb | hb
      · have := fa a ha; omega
      · exact n8 a ha b (.inr hb)
  · simp only [wS,List.mem_cons,List.mem_append,not_or] at h2
    rw [H.get_set,if_neg h2.1]
    exact keep id h1 h2.2.2.1
  · simp only [wS,ids,List.mem_cons,List.mem_append,List.not_mem_nil,or_false] at h1 ⊢
    rcases h1 with h1 | h1 | h1 | h1
    · exact .inl (.inl h1)
    · exact .inl (.inr (.inl h1))
    · exact .inr (by omega)
    · exact .inl (.inr (.inr (.inr h1)))
theorem WS.put_t {p:Prog} {t:Int} {w:Nat} {va vs vt:V} {ar:List Stmt} {sp st:List (List Nat)} {h:H} (hw:WS p t w va vs vt ar sp st h) (h':H) (nid n:Nat) (l':List (List Nat)) (hn:h.nx * 256 ≤ nid) (hlt:nid < h'.nx * 256) (hnx:h.nx ≤ h'.nx)
    (o:Own 1 h' (.ref nid 0 n 1 none) (l'.map .str)) (keep:∀ i,i < h.nx * 256 → i ∉ ids vt → h'.get i = h.get i) :
    WS p t w va vs (.ref nid 0 n 1 none) ar sp l' (h'.set w (.row [wrow p t va vs (.ref nid 0 n 1 none)] 6 .rw)) ∧ Step (wS w va vs vt) (wS w va vs (.ref nid 0 n 1 none)) h (h'.set w (.row [wrow p t va vs (.ref nid 0 n 1 none)] 6 .rw)) := by
  have hwl := hw.lt
  have hnw:nid ≠ w := by omega
  have nd := hw.nd
  simp only [wS,List.nodup_cons,List.nodup_append,List.mem_append,not_or] at nd
  obtain ⟨⟨n1,n2,n3⟩,n4,⟨n5,n6,n7⟩,n8⟩ := nd
  have dja:∀ id,id ∈ ids va → id ≠ w ∧ id ∉ ids vt := fun id hi => ⟨fun h => n1 (h ▸ hi),fun h => n8 id hi id (.inr h) rfl⟩
  have djs:∀ id,id ∈ ids vs → id ≠ w ∧ id ∉ ids vt := fun id hi => ⟨fun h => n2 (h ▸ hi),fun h => n7 id hi id h rfl⟩
  refine ⟨⟨by simp [H.get_set],by show w < h'.nx * 256; omega,hw.a.keep (fun id hi => by have h1 := hw.a.lt id hi; have h2 := dja id hi; rw [H.get_set,if_neg h2.1]; exact keep id h1 h2.2) hnx,hw.s.keep (fun id hi => by have h1 := hw.s.lt id hi; have h2 := djs id hi; rw [H.get_set,if_neg h2.1]; exact keep id h1 h2.2) hnx,o.keep (fun id hi => by simp [ids] at hi; subst hi; simp [H.get_set,hnw]) (Nat.le_refl _),?_⟩,⟨hnx,fun id h1 h2 => ?_,fun id h1 => ?_⟩⟩
  · have fa:∀ x,x ∈ ids va → x < h.nx * 256 := hw.a.lt
    have fs:∀ x,x ∈ ids vs → x < h.nx * 256 := hw.s.lt
    have ft:∀ x,x ∈ ids vt → x < h.nx * 256 := hw.t.lt
    simp only [wS,ids,List.nodup_cons,List.nodup_append,List.mem_append,not_or,List.mem_cons,List.not_mem_nil,or_false,List.nodup_nil,not_false_eq_true,and_true,true_and]
    refine ⟨⟨n1,n2,by omega⟩,n4,⟨n5,fun a ha b hb => ?_⟩,fun a ha b hb => ?_⟩
    · have := fs a ha; omega
    · rcases hb with hb | hb
      · exact n8 a ha b (.inl hb)
      · have := fa a ha; omega
  · simp only [wS,List.mem_cons,List.mem_append,not_or] at h2
    rw [H.get_set,if_neg h2.1]
    exact keep id h1 h2.2.2.2
  · simp only [wS,ids,List.mem_cons,List.mem_append,List.not_mem_nil,or_false] at h1 ⊢
    rcases h1 with h1 | h1 | h1 | h1
    · exact .inl (.inl h1)
    · exact .inl (.inr (.inl h1))
    · exact .inl (.inr (.inr (.inl h1)))
    · exact .inr (by omega)
theorem ok_80 (n:Nat) (hn:1 ≤ n) (b:Bool) (h:H):call fns n 80 [.bool b] h = some (.int .i64 (if b then 7 else 0),h) := by
  obtain ⟨m,rfl⟩:∃ m,n = m + 1 := ⟨n - 1,by omega⟩
  rw [call_succ]
  show call1 (call fns m) m f80 _ _ = _
  cases b <;> simp [f80,Fr.keep_cons',Fr.keep_nil]
theorem ok_68 (n:Nat) (hn:1 ≤ n) (b:Bool) (h:H):call fns n 68 [.bool b] h = some (.int .i64 (if b then 7 else 0),h) := by
  obtain ⟨m,rfl⟩:∃ m,n = m + 1 := ⟨n - 1,by omega⟩
  rw [call_succ]
  show call1 (call fns m) m f68 _ _ = _
  cases b <;> simp [f68,Fr.keep_cons',Fr.keep_nil]
theorem ok_65 (n:Nat) (hn:1 ≤ n) (a b:Int) (h:H):call fns n 65 [.int .i64 a,.int .i64 b] h = some (.int .i64 (if a = 0 then b else a),h) := by
  obtain ⟨m,rfl⟩:∃ m,n = m + 1 := ⟨n - 1,by omega⟩
  rw [call_succ]
  show call1 (call fns m) m f65 _ _ = _
  by_cases ha:a = 0 <;> simp [f65,Fr.keep_cons',Fr.keep_nil,ha]
def hitOps (ops:List Int) (x:Stmt):Bool := ops.any fun o => decide (x.op = o)
def insideOps (ar:List Stmt) (ops:List Int):Bool := ar.any (hitOps ops)
def insideName (ar:List Stmt) (nm:List Nat) (ops:List Int):Bool := ar.any fun x => x.name == nm && hitOps ops x
theorem ok_97 (n:Nat) (hn:20 ≤ n) (x:Stmt) (c:Nat) (f:Bool) (ops:List Int) (ho:ops.length ≤ 10) (kd:Kind) (h:H) (hc:c < h.nx * 256) (hg:h.get c = some (.row [.sl f (ops.map (V.int .i64))] 1 kd)) :
    ∃ h',call fns n 97 [x.v,.ptr c 0 0] h = some (.bool (hitOps ops x),h') ∧ Grow h h' := by
  obtain ⟨m,rfl⟩:∃ m,n = m + 1 := ⟨n - 1,by omega⟩
  have e := fun h => ok_98 m f ops x.op (by omega) (by omega) h
  have el := len_106 x
  have hne:c ≠ h.nx * 256 := by omega
  refine ⟨({ h with nx := h.nx + 1 }:H).set (h.nx * 256) (.row [x.v] 11 .rw),?_,((Grow.refl h).up (h.nx + 1) (by omega)).set (Nat.le_refl _) _⟩
  have e0 := ldS0 (x := x) (kd := .rw) (id := h.nx * 256) (h := ({ h with nx := h.nx + 1 }:H).set (h.nx * 256) (.row [x.v] 11 .rw)) (by simp [H.get_set])
  have e1:ldv (({ h with nx := h.nx + 1 }:H).set (h.nx * 256) (.row [x.v] 11 .rw)) 1 false (.ptr c 0 0) = some (.sl f (ops.map (V.int .i64))) := by
    have:({ h with nx := h.nx + 1 }:H).get c = h.get c := rfl
    simp [ldv,H.get_set,hne,this,hg,V.cells,cut,mk]
  rw [call_succ]
  show call1 (call fns m) m f97 _ _ = _
  simp [f97,Fr.keep_cons',Fr.keep_nil,stepE,el,e0,e1,e,hitOps]
theorem ok_105 (n:Nat) (hn:20 ≤ n) (x:Stmt) (a c:Nat) (f:Bool) (nm:List Nat) (ops:List Int) (ho:ops.length ≤ 10) (ka kd:Kind) (h:H) (hc:c < h.nx * 256) (hg:h.get c = some (.row [.sl f (ops.map (V.int .i64))] 1 kd)) (ha:a < h.nx * 256) (hga:h.get a = some (.row [.str nm] 1 ka)) :
    ∃ h',call fns n 105 [x.v,.ptr a 0 0,.ptr c 0 0] h = some (.bool (x.name == nm && hitOps ops x),h') ∧ Grow h h' := by
  obtain ⟨m,rfl⟩:∃ m,n = m + 1 := ⟨n - 1,by omega⟩
  have e := fun h => ok_98 m f ops x.op (by omega) (by omega) h
  have el := len_106 x
  have hne:c ≠ h.nx * 256 := by omega
  have hne2:a ≠ h.nx * 256 := by omega
  refine ⟨({ h with nx := h.nx + 1 }:H).set (h.nx * 256) (.row [x.v] 11 .rw),?_,((Grow.refl h).up (h.nx + 1) (by omega)).set (Nat.le_refl _) _⟩
  have e0 := ldS0 (x := x) (kd := .rw) (id := h.nx * 256) (h := ({ h with nx := h.nx + 1 }:H).set (h.nx * 256) (.row [x.v] 11 .rw)) (by simp [H.get_set])
  have e2 := ldS2 (x := x) (kd := .rw) (id := h.nx * 256) (h := ({ h with nx := h.nx + 1 }:H).set (h.nx * 256) (.row [x.v] 11 .rw)) (by simp [H.get_set])
  have e1:ldv (({ h with nx := h.nx + 1 }:H).set (h.nx * 256) (.row [x.v] 11 .rw)) 1 false (.ptr c 0 0) = some (.sl f (ops.map (V.int .i64))) := by
    have:({ h with nx := h.nx + 1 }:H).get c = h.get c := rfl
    simp [ldv,H.get_set,hne,this,hg,V.cells,cut,mk]
  have e3:ldv (({ h with nx := h.nx + 1 }:H).set (h.nx * 256) (.row [x.v] 11 .rw)) 1 false (.ptr a 0 0) = some (.str nm) := by
    have:({ h with nx := h.nx + 1 }:H).get a = h.get a := rfl
    simp [ldv,H.get_set,hne2,this,hga,V.cells,cut,mk]
  rw [call_succ]
  show call1 (call fns m) m f105 _ _ = _
  cases hb:x.name == nm <;> simp [f105,Fr.keep_cons',Fr.keep_nil,stepE,el,e0,e1,e2,e3,e,hitOps,hb]
theorem ok_81 (n:Nat) (hn:2147483700 ≤ n) (w:Nat) (p:Prog) (t:Int) (va vs vt:V) (kd:Kind) (ar:List Stmt) (hal:ar.length < 2 ^ 31) (f:Bool) (ops:List Int) (ho:ops.length ≤ 10) (h:H) (hlt:w < h.nx * 256)
    (hg:h.get w = some (.row [wrow p t va vs vt] 6 kd)) (sv:Sees 11 true h va (ar.map Stmt.v)) :
    ∃ h',call fns n 81 [.ptr w 0 0,.sl f (ops.map (V.int .i64))] h = some (.bool (insideOps ar ops),h') ∧ Grow h h' := by
  obtain ⟨m,rfl⟩:∃ m,n = m + 3 := ⟨n - 3,by omega⟩
  let h1:H := ({ h with nx := h.nx + 1 }:H).set (h.nx * 256) (.row [.sl f (ops.map (V.int .i64))] 1 .rw)
  have g1:Grow h h1 := ((Grow.refl h).up (h.nx + 1) (by omega)).set (Nat.le_refl _) _
  have hg1:h1.get w = some (.row [wrow p t va vs vt] 6 kd) := by rw [g1.2 w hlt]; exact hg
  have e3 := ldW3 hg1
  have hc:h1.get (h.nx * 256) = some (.row [.sl f (ops.map (V.int .i64))] 1 .rw) := by simp [h1,H.get_set]
  obtain ⟨h',e96,g96⟩ := see_96 m va ar 97 [.ptr (h.nx * 256) 0 0] (hitOps ops) (by omega) hal h1 (sv.grow g1) (fun x _ k gk => by
    have hlt1:h.nx * 256 < h1.nx * 256 := by show h.nx * 256 < (h.nx + 1) * 256; omega
    exact ok_97 m (by omega) x (h.nx * 256) f ops ho .rw k (by have := gk.1; omega) (by rw [gk.2 _ hlt1]; exact hc))
  refine ⟨h',?_,g1.trans g96⟩
  rw [call_succ]
  show call1 (call fns (m + 2)) (m + 2) f81 _ _ = _
  simp only [h1] at e3 e96
  simp [f81,Fr.keep_cons',Fr.keep_nil,stepE,V.cells,nilv,e3,e96,insideOps]
theorem ok_95 (n:Nat) (hn:2147483700 ≤ n) (w:Nat) (p:Prog) (t:Int) (va vs vt:V) (kd:Kind) (ar:List Stmt) (hal:ar.length < 2 ^ 31) (nm:List Nat) (f:Bool) (ops:List Int) (ho:ops.length ≤ 10) (h:H) (hlt:w < h.nx * 256)
    (hg:h.get w = some (.row [wrow p t va vs vt] 6 kd)) (sv:Sees 11 true h va (ar.map Stmt.v)) :
    ∃ h',call fns n 95 [.ptr w 0 0,.str nm,.sl f (ops.map (V.int .i64))] h = some (.bool (insideName ar nm ops),h') ∧ Grow h h' := by
  obtain ⟨m,rfl⟩:∃ m,n = m + 3 := ⟨n - 3,by omega⟩
  let h0:H := ({ h with nx := h.nx + 1 }:H).set (h.nx * 256) (.row [.str nm] 1 .rw)
  let h1:H := h0.set (h.nx * 256 + 1) (.row [.sl f (ops.map (V.int .i64))] 1 .rw)
  have g1:Grow h h1 := (((Grow.refl h).up (h.nx + 1) (by omega)).set (Nat.le_refl _) _).set (by omega) _
  have hg1:h1.get w = some (.row [wrow p t va vs vt] 6 kd) := by rw [g1.2 w hlt]; exact hg
  have e3 := ldW3 hg1
  have hc:h1.get (h.nx * 256 + 1) = some (.row [.sl f (ops.map (V.int .i64))] 1 .rw) := by simp [h1,H.get_set]
  have ha:h1.get (h.nx * 256) = some (.row [.str nm] 1 .rw) := by simp [h1,h0,H.get_set]
  obtain ⟨h',e96,g96⟩ := see_96 m va ar 105 [.ptr (h.nx * 256) 0 0,.ptr (h.nx * 256 + 1) 0 0] (fun x => x.name == nm && hitOps ops x) (by omega) hal h1 (sv.grow g1) (fun x _ k gk => by
    have hlt1:h.nx * 256 + 1 < h1.nx * 256 := by show h.nx * 256 + 1 < (h.nx + 1) * 256; omega
    exact ok_105 m (by omega) x (h.nx * 256) (h.nx * 256 + 1) f nm ops ho .rw .rw k (by have := gk.1; omega) (by rw [gk.2 _ hlt1]; exact hc) (by have := gk.1; omega) (by rw [gk.2 _ (by omega)]; exact ha))
  refine ⟨h',?_,g1.trans g96⟩
  rw [call_succ]
  show call1 (call fns (m + 2)) (m + 2) f95 _ _ = _
  simp only [h1,h0] at e3 e96
  simp [f95,Fr.keep_cons',Fr.keep_nil,stepE,V.cells,nilv,e3,e96,insideName]
theorem ok_99s (n:Nat) (hn:2147483700 ≤ n) {p:Prog} {t:Int} {w:Nat} {va vs vt:V} {ar:List Stmt} {sp st:List (List Nat)} {h:H} (hw:WS p t w va vs vt ar sp st h) (s:List Nat) (hl:sp.length + 1 < 2 ^ 31) :
    (sp.contains s = true → call fns n 99 [.ptr w 0 4,.str s] h = some (.int .i64 8,h)) ∧
    (sp.contains s = false → ∃ v' h',call fns n 99 [.ptr w 0 4,.str s] h = some (.int .i64 0,h') ∧ WS p t w va v' vt ar (sp ++ [s]) st h' ∧ Step (wS w va vs vt) (wS w va v' vt) h h') := by
  obtain ⟨m,rfl⟩:∃ m,n = m + 1 := ⟨n - 1,by omega⟩
  have e37 := see_37 m vs sp s (by omega) (by omega) h hw.s.seesT
  have ek:(sp.any fun x => s == x) = sp.contains s := by rw [List.contains_eq_any_beq]
  rw [ek] at e37
  have e4 := ldW4 hw.r
  refine ⟨fun hc => ?_,fun hc => ?_⟩
  · rw [hc] at e37
    rw [call_succ]
    show call1 (call fns m) m f99 _ _ = _
    simp [f99,Fr.keep_cons',Fr.keep_nil,nilv,e4,e37]
  · rw [hc] at e37
    have o1:Own 1 ({ h with nx := h.nx + 1 }:H) vs (sp.map .str) := hw.s.keep (fun _ _ => rfl) (by show h.nx ≤ h.nx + 1; omega)
    have hf:h.nx * 256 + 6 ∉ ids vs := fun hh => by have := hw.s.lt _ hh; omega
    obtain ⟨h',ea,o2,hnx,keep,_⟩ := o1.app (.str s) rfl (by omega) (by simp [bound]; omega) (h.nx * 256 + 6) (by show _ < (h.nx + 1) * 256; omega) hf (.sl true [.str s]) rfl
    have hd := hw.nd
    have hlt := hw.lt
    have hwv:w ∉ ids vs := by
      intro hh
      simp only [wS,List.nodup_cons,List.mem_append,not_or] at hd
      exact hd.1.2.1 hh
    have hgw:h'.get w = some (.row [wrow p t va vs vt] 6 .rw) := by rw [keep w (by omega) hwv]; exact hw.r
    have es := stW4 hgw (h.nx * 256 + 6) 0 (sp.map V.str ++ [V.str s]).length 1 none
    have e4':ldv ({ h with nx := h.nx + 1 }:H) 1 false (.ptr w 0 4) = some vs := ldW4 (h := ({ h with nx := h.nx + 1 }:H)) hw.r
    have P := hw.put_s h' (h.nx * 256 + 6) _ (sp ++ [s]) (by omega) (by rw [hnx]; show _ < (h.nx + 1) * 256; omega) (by rw [hnx]; show h.nx ≤ h.nx + 1; omega) (by simpa using o2) (fun i hi hii => by rw [keep i (by omega) hii]; rfl)
    refine ⟨_,_,?_,P.1,P.2⟩
    rw [call_succ]
    show call1 (call fns m) m f99 _ _ = _
    simp at ea es
    simp [f99,Fr.keep_cons',Fr.keep_nil,nilv,pairs,fillE,V.cells,e4,e4',e37,ea,es]
theorem ok_99t (n:Nat) (hn:2147483700 ≤ n) {p:Prog} {t:Int} {w:Nat} {va vs vt:V} {ar:List Stmt} {sp st:List (List Nat)} {h:H} (hw:WS p t w va vs vt ar sp st h) (s:List Nat) (hl:st.length + 1 < 2 ^ 31) :
    (st.contains s = true → call fns n 99 [.ptr w 0 5,.str s] h = some (.int .i64 8,h)) ∧
    (st.contains s = false → ∃ v' h',call fns n 99 [.ptr w 0 5,.str s] h = some (.int .i64 0,h') ∧ WS p t w va vs v' ar sp (st ++ [s]) h' ∧ Step (wS w va vs vt) (wS w va vs v') h h') := by
  obtain ⟨m,rfl⟩:∃ m,n = m + 1 := ⟨n - 1,by omega⟩
  have e37 := see_37 m vt st s (by omega) (by omega) h hw.t.seesT
  have ek:(st.any fun x => s == x) = st.contains s := by rw [List.contains_eq_any_beq]
  rw [ek] at e37
  have e4 := ldW5 hw.r
  refine ⟨fun hc => ?_,fun hc => ?_⟩
  · rw [hc] at e37
    rw [call_succ]
    show call1 (call fns m) m f99 _ _ = _
    simp [f99,Fr.keep_cons',Fr.keep_nil,nilv,e4,e37]
  · rw [hc] at e37
    have o1:Own 1 ({ h with nx := h.nx + 1 }:H) vt (st.map .str) := hw.t.keep (fun _ _ => rfl) (by show h.nx ≤ h.nx + 1; omega)
    have hf:h.nx * 256 + 6 ∉ ids vt := fun hh => by have := hw.t.lt _ hh; omega
    obtain ⟨h',ea,o2,hnx,keep,_⟩ := o1.app (.str s) rfl (by omega) (by simp [bound]; omega) (h.nx * 256 + 6) (by show _ < (h.nx + 1) * 256; omega) hf (.sl true [.str s]) rfl
    have hd := hw.nd
    have hlt := hw.lt
    have hwv:w ∉ ids vt := by
      intro hh
      simp only [wS,List.nodup_cons,List.mem_append,not_or] at hd
      exact hd.1.2.2 hh
    have hgw:h'.get w = some (.row [wrow p t va vs vt] 6 .rw) := by rw [keep w (by omega) hwv]; exact hw.r
    have es := stW5 hgw (h.nx * 256 + 6) 0 (st.map V.str ++ [V.str s]).length 1 none
    have e4':ldv ({ h with nx := h.nx + 1 }:H) 1 false (.ptr w 0 5) = some vt := ldW5 (h := ({ h with nx := h.nx + 1 }:H)) hw.r
    have P := hw.put_t h' (h.nx * 256 + 6) _ (st ++ [s]) (by omega) (by rw [hnx]; show _ < (h.nx + 1) * 256; omega) (by rw [hnx]; show h.nx ≤ h.nx + 1; omega) (by simpa using o2) (fun i hi hii => by rw [keep i (by omega) hii]; rfl)
    refine ⟨_,_,?_,P.1,P.2⟩
    rw [call_succ]
    show call1 (call fns m) m f99 _ _ = _
    simp at ea es
    simp [f99,Fr.keep_cons',Fr.keep_nil,nilv,pairs,fillE,V.cells,e4,e4',e37,ea,es]

theorem cells_int (k:IntKind) (n:Int):V.cells (.int k n) = [.int k n] := rfl
theorem cells_str (s:List Nat):V.cells (.str s) = [.str s] := rfl
theorem cells_sl (f:Bool) (l:List V):V.cells (.sl f l) = [.sl f l] := rfl
theorem cells_bool (b:Bool):V.cells (.bool b) = [.bool b] := rfl
structure WR (p:Prog) (t:Int) (w:Nat) (va vs vt:V) (ar:List Stmt) (h:H):Prop where
  r:h.get w = some (.row [wrow p t va vs vt] 6 .rw)
  lt:w < h.nx * 256
  sv:Sees 11 true h va (ar.map Stmt.v)
  len:ar.length < 2 ^ 31
theorem WR.grow {p:Prog} {t:Int} {w:Nat} {va vs vt:V} {ar:List Stmt} {h k:H} (s:WR p t w va vs vt ar h) (g:Grow h k):WR p t w va vs vt ar k :=
  ⟨by rw [g.2 w s.lt]; exact s.r,by have := g.1; have := s.lt; omega,s.sv.grow g,s.len⟩
theorem WS.wr {p:Prog} {t:Int} {w:Nat} {va vs vt:V} {ar:List Stmt} {sp st:List (List Nat)} {h:H} (s:WS p t w va vs vt ar sp st h) (hl:ar.length < 2 ^ 31):WR p t w va vs vt ar h :=
  ⟨s.r,s.lt,s.a.seesS,hl⟩
def Expr.Fine (e:Expr):Prop := e.Shaped ∧ e.nodes < 2147483648
def orE (a b:Int):Int := if a = 0 then b else a
def nst (b:Bool):Int := if b then 7 else 0
def K (p:Prog) (t:Int) (nm:List Nat) (ws:List Int):Int := errOf (meaning p t nm) ws
theorem ok_85 (n:Nat) (hn:4294967400 ≤ n) {p:Prog} (hp:p.Small) {t:Int} {w:Nat} {va vs vt:V} {ar:List Stmt} {h:H} (hw:WR p t w va vs vt ar h) (s:List Nat) (f:Bool) (ws:List Int) (ho:ws.length ≤ 10) :
    ∃ h',call fns n 85 [.ptr w 0 0,.str s,.sl f (ws.map (V.int .i64))] h = some (.int .i64 (K p t s ws),h') ∧ Grow h h' := by
  obtain ⟨m,rfl⟩:∃ m,n = m + 1 := ⟨n - 1,by omega⟩
  obtain ⟨h',e,g⟩ := ok_100 m (by omega) p hp t s f ws ho h
  refine ⟨h',?_,g⟩
  rw [call_succ]
  show call1 (call fns m) m f85 _ _ = _
  simp [f85,Fr.keep_cons',Fr.keep_nil,nilv,ldW0 hw.r,ldW2 hw.r,e,K]
theorem ok_78 (n:Nat) (hn:4294967400 ≤ n) {p:Prog} (hp:p.Small) {t:Int} {w:Nat} {va vs vt:V} {ar:List Stmt} {h:H} (hw:WR p t w va vs vt ar h) (e:Expr) (he:e.Fine) :
    ∃ h',call fns n 78 [.ptr w 0 0,e.v] h = some (.int .i64 (exprErr p t e),h') ∧ Grow h h' := by
  obtain ⟨m,rfl⟩:∃ m,n = m + 1 := ⟨n - 1,by omega⟩
  let h1:H := ({ h with nx := h.nx + 1 }:H).set (h.nx * 256) (.row [e.v] 4 .rw)
  have g1:Grow h h1 := ((Grow.refl h).up (h.nx + 1) (by omega)).set (Nat.le_refl _) _
  have w1 := hw.grow g1
  have hdn := Expr.depth_le_nodes e.depth e (Nat.le_refl _)
  obtain ⟨h',e94,g⟩ := ok_94 m p hp t e he.1 he.2 (by have := he.2; omega) h1
  have ld:ldv h1 4 true (.ptr (h.nx * 256) 0 0) = some e.v := by simp [h1,ldv,H.get_set,Expr.v_eq,V.cells,cut,mk]
  refine ⟨h',?_,g1.trans g⟩
  have k0 := ldW0 w1.r
  have k2 := ldW2 w1.r
  have hc:e.v.cells.length = 4 := by simp [Expr.v_eq,V.cells]
  simp only [h1] at k0 k2 ld e94
  rw [call_succ]
  show call1 (call fns m) m f78 _ _ = _
  simp [f78,Fr.keep_cons',Fr.keep_nil,stepE,hc,nilv,k0,k2,ld,e94]
theorem boxS (h:H) (x:Stmt) (k:Nat):∃ h1,h1 = ({ h with nx := h.nx + 1 }:H).set (h.nx * 256) (.row [x.v] 11 .rw) ∧ Grow h h1 ∧ h1.get (h.nx * 256) = some (.row [x.v] 11 .rw) ∧ h.nx * 256 < h1.nx * 256 :=
  ⟨_,rfl,((Grow.refl h).up (h.nx + 1) (by omega)).set (Nat.le_refl _) _,by simp [H.get_set],by show h.nx * 256 < (h.nx + 1) * 256; omega⟩
theorem gget {h k:H} {id:Nat} {b:Blk} (g:Grow h k) (hl:id < h.nx * 256) (hg:h.get id = some b):k.get id = some b := by rw [g.2 id hl]; exact hg
theorem ok_79 (n:Nat) (hn:4294967402 ≤ n) {p:Prog} (hp:p.Small) {t:Int} {w:Nat} {va vs vt:V} {ar:List Stmt} {h:H} (hw:WR p t w va vs vt ar h) (x:Stmt) (kd:Int) (f:Bool) (ops:List Int) (ho:ops.length ≤ 10) :
    ∃ h',call fns n 79 [.ptr w 0 0,x.v,.int .i64 kd,.sl f (ops.map (V.int .i64))] h = some (.int .i64 (orE (K p t x.name [kd]) (nst (insideOps ar [7] || insideName ar x.name ops))),h') ∧ Grow h h' := by
  obtain ⟨m,rfl⟩:∃ m,n = m + 1 := ⟨n - 1,by omega⟩
  obtain ⟨h1,hh1,g1,b1,l1⟩ := boxS h x 0
  have w1 := hw.grow g1
  have el := len_106 x
  obtain ⟨h2,e2,g2⟩ := ok_85 m (by omega) hp w1 x.name true [kd] (by simp)
  have k1 := ldS2 b1
  rw [call_succ]
  show ∃ h',call1 (call fns m) m f79 _ _ = _ ∧ _
  by_cases hk:K p t x.name [kd] = 0
  · have w2 := w1.grow g2
    have b2 := gget g2 l1 b1
    have k2 := ldS2 b2
    obtain ⟨h3,e3,g3⟩ := ok_81 m (by omega) w p t va vs vt .rw ar w2.len true [7] (by simp) h2 w2.lt w2.r w2.sv
    have w3 := w2.grow g3
    have b3 := gget g3 (by have := g2.1; omega) b2
    have k3 := ldS2 b3
    obtain ⟨h4,e4,g4⟩ := ok_95 m (by omega) w p t va vs vt .rw ar w3.len x.name f ops ho h3 w3.lt w3.r w3.sv
    have e80 := fun b h => ok_80 m (by omega) b h
    cases hi:insideOps ar [7] with
    | true =>
      refine ⟨h3,?_,(g1.trans g2).trans g3⟩
      simp only [hh1,hi] at e2 e3 k1
      simp at e2 e3
      simp [f79,Fr.keep_cons',Fr.keep_nil,stepE,pairs,fillE,cells_int,cells_str,cells_sl,cells_bool,el,k1,e2,e3,hk,e80,orE,nst]
    | false =>
      refine ⟨h4,?_,((g1.trans g2).trans g3).trans g4⟩
      simp only [hh1,hi] at e2 e3 k1
      simp at e2 e3
      cases hj:insideName ar x.name ops <;> simp [f79,Fr.keep_cons',Fr.keep_nil,stepE,pairs,fillE,cells_int,cells_str,cells_sl,cells_bool,el,k1,k3,e2,e3,e4,hk,hj,e80,orE,nst]
  · refine ⟨h2,?_,g1.trans g2⟩
    simp only [hh1] at e2 k1
    simp at e2
    simp [f79,Fr.keep_cons',Fr.keep_nil,stepE,pairs,fillE,cells_int,cells_str,cells_sl,cells_bool,el,k1,e2,hk,orE]
end Go.Proofs.Ytakahhnlbciicaa.Cl
