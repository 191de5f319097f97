/-
An abstract machine, and that its runs are runs of the program.
-/
import Derived.Test.YtdckmenbbbfdaaaGreatDoorA2
import Derived.Below
import Derived.MapKept
import Derived.Laws.AppendOwn
import Derived.KernelRfl
import GoSem.ClaimGoes
namespace Go.AM

def allSplit {α : Type} (f : List α → α → List α → Bool) : List α → List α → Bool
  | _, [] => true
  | d, x :: r => f d x r && allSplit f (d ++ [x]) r

theorem allSplit_mem {α : Type} {f : List α → α → List α → Bool} : ∀ {s p : List α}, allSplit f p s = true → ∀ d x r, s = d ++ x :: r → f (p ++ d) x r = true
  | [], p, h, d, x, r, e => by simp at e
  | y :: s, p, h, d, x, r, e => by
    simp only [allSplit, Bool.and_eq_true] at h
    cases d with
    | nil => simp at e; obtain ⟨rfl, rfl⟩ := e; simpa using h.1
    | cons z d =>
      simp at e
      obtain ⟨rfl, rfl⟩ := e
      have := allSplit_mem h.2 d x r rfl
      simpa using this

def predsL (ops : Array Oper) (j : Nat) : List Nat :=
  match ops[j]? with
  | none => []
  | some o => (o.after.toList.filter (Region.binds .any ·)).map (·.on)

theorem mem_predsL {ops : Array Oper} {i j : Nat} : predOf ops i j ↔ i ∈ predsL ops j := by
  unfold predOf predsL
  cases h : ops[j]? with
  | none => simp
  | some o => simp [and_assoc]

def lookM (M : List (Nat × Nat)) (j : Nat) : Nat :=
  match M with
  | [] => 0
  | (k, m) :: l => if k = j then m else lookM l j

def bfB (M : List (Nat × Nat)) (i j : Nat) : Bool := (lookM M j).testBit i

def maskOf (M : List (Nat × Nat)) : List Nat → Nat
  | [] => 0
  | p :: l => 2 ^ p ||| lookM M p ||| maskOf M l

def tabM (ops : Array Oper) : List (Nat × List Nat) → List (Nat × Nat) → List (Nat × Nat)
  | [], M => M
  | x :: s, M => tabM ops s ((x.1, maskOf M (predsL ops x.1)) :: M)

def TabOk (ops : Array Oper) (M : List (Nat × Nat)) : Prop := ∀ i j, bfB M i j = true → Bf ops i j

theorem maskOf_ok {ops : Array Oper} {M : List (Nat × Nat)} (h : TabOk ops M) {j : Nat} : ∀ {l : List Nat}, (∀ p ∈ l, predOf ops p j) → ∀ i, (maskOf M l).testBit i = true → Bf ops i j
  | [], _, i, hi => by simp [maskOf] at hi
  | p :: l, hl, i, hi => by
    simp only [maskOf, Nat.testBit_or, Bool.or_eq_true, Nat.testBit_two_pow, decide_eq_true_eq] at hi
    rcases hi with (rfl | hi) | hi
    · exact .one (hl _ (by simp))
    · exact .step (h _ _ hi) (hl _ (by simp))
    · exact maskOf_ok h (fun p hp => hl p (by simp [hp])) i hi

theorem tabM_ok {ops : Array Oper} : ∀ {s : List (Nat × List Nat)} {M : List (Nat × Nat)}, TabOk ops M → TabOk ops (tabM ops s M)
  | [], M, h => h
  | x :: s, M, h => by
    refine tabM_ok (s := s) ?_
    intro i j hij
    simp only [bfB, lookM] at hij
    split at hij
    · rename_i e
      subst e
      exact maskOf_ok h (fun p hp => mem_predsL.2 hp) i hij
    · exact h i j hij

def eB (ops : Array Oper) (i : Nat) : Bool :=
  match ops[i]? with
  | some o => isE o.op
  | none => false

theorem eB_iff {ops : Array Oper} {i : Nat} : isEAt ops i ↔ eB ops i = true := by
  unfold isEAt eB
  cases h : ops[i]? <;> simp

def dstL (ops : Array Oper) : List (Nat × Nat) := ops.toList.zipIdx.filterMap fun p => p.1.dst.map fun d => (p.2, d)

theorem mem_dstL {ops : Array Oper} {i t : Nat} : dstIs ops i t ↔ (i, t) ∈ dstL ops := by
  unfold dstIs dstL
  simp only [List.mem_filterMap, Option.map_eq_some_iff, Prod.mk.injEq]
  constructor
  · rintro ⟨o, ho, hd⟩
    refine ⟨(o, i), ?_, t, hd, rfl, rfl⟩
    rw [List.mk_mem_zipIdx_iff_getElem?]
    simpa using ho
  · rintro ⟨⟨o, k⟩, hm, d, hd, rfl, rfl⟩
    rw [List.mk_mem_zipIdx_iff_getElem?] at hm
    exact ⟨o, by simpa using hm, hd⟩

def drOkB (ops : Array Oper) (s : List (Nat × List Nat)) : Bool :=
  let ids := s.map (·.1)
  let M := tabM ops s []
  let dl := dstL ops
  let es := (List.range ops.size).filter (eB ops)
  (List.range ops.size).all (fun i => ids.contains i) && ids.all (fun i => decide (i < ops.size)) && decide ids.Nodup &&
    allSplit (fun d x _ => (predsL ops x.1).all fun i => (d.map (·.1)).contains i) [] s &&
    decide (dl.map (·.2)).Nodup &&
    (ops.toList.zipIdx.all fun p => (opSlots p.1 ++ guardSlots ops p.1).all fun t => dl.all fun q => q.2 != t || q.1 == p.2 || bfB M q.1 p.2 || bfB M p.2 q.1) &&
    (es.all fun i => es.all fun j => i == j || bfB M i j || bfB M j i) &&
    allSplit (fun d x r => !eB ops x.1 || (r.map (·.1)).all fun j => eB ops j || (predsL ops j).any fun i => !(d.map (·.1)).contains i) [] s &&
    allSplit (fun d x _ => !eB ops x.1 || (d.map (·.1)).all fun j => eB ops j || bfB M j x.1 || x.2.contains j) [] s

theorem nodup_snd {l : List (Nat × Nat)} (h : (l.map (·.2)).Nodup) {i j t : Nat} (hi : (i, t) ∈ l) (hj : (j, t) ∈ l) : i = j := by
  induction l with
  | nil => simp at hi
  | cons x l ih =>
    rw [List.map_cons, List.nodup_cons] at h
    simp only [List.mem_cons] at hi hj
    rcases hi with rfl | hi <;> rcases hj with e | hj
    · exact (congrArg (·.1) e).symm
    · exact absurd (List.mem_map.2 ⟨_, hj, rfl⟩) h.1
    · subst e; exact absurd (List.mem_map.2 ⟨_, hi, rfl⟩) h.1
    · exact ih h.2 hi hj

theorem drOk_of {ops : Array Oper} {s : List (Nat × List Nat)} (h : drOkB ops s = true) : DrOk ops s := by
  simp only [drOkB, Bool.and_eq_true] at h
  obtain ⟨⟨⟨⟨⟨⟨⟨⟨h1, h2⟩, h3⟩, h4⟩, h5⟩, h6⟩, h7⟩, h8⟩, h9⟩ := h
  have hM : TabOk ops (tabM ops s []) := tabM_ok (fun i j h => by simp [bfB, lookM] at h)
  refine ⟨?_, ?_, by simpa using h3, ?_, ?_, ?_, ?_, ?_, ?_⟩
  · intro i hi
    rw [List.all_eq_true] at h1
    simpa using h1 i (by simpa using hi)
  · intro i hi
    rw [List.all_eq_true] at h2
    simpa using h2 i hi
  · intro d x r hs i hp
    have := allSplit_mem h4 d x r hs
    rw [List.all_eq_true] at this
    simpa using this i (mem_predsL.1 hp)
  · intro i j t hi hj
    exact nodup_snd (by simpa using h5) (mem_dstL.1 hi) (mem_dstL.1 hj)
  · intro i j o t hd ho ht hne
    rw [List.all_eq_true] at h6
    have h := h6 (o, j) (by rw [List.mk_mem_zipIdx_iff_getElem?]; simpa using ho)
    rw [List.all_eq_true] at h
    have h := h t (by simpa using ht)
    rw [List.all_eq_true] at h
    have h := h (i, t) (mem_dstL.1 hd)
    simp only [bne_self_eq_false, Bool.false_or, Bool.or_eq_true, beq_iff_eq] at h
    rcases h with (h | h) | h
    · exact absurd h hne
    · exact .inl (hM _ _ h)
    · exact .inr (hM _ _ h)
  · intro i j hi hj hne
    rw [List.all_eq_true] at h7
    have lt : ∀ k, isEAt ops k → k < ops.size := fun k ⟨o, ho, _⟩ => (Array.getElem?_eq_some_iff.1 ho).1
    have h := h7 i (by simp [lt i hi, eB_iff.1 hi])
    rw [List.all_eq_true] at h
    have h := h j (by simp [lt j hj, eB_iff.1 hj])
    simp only [Bool.or_eq_true, beq_iff_eq] at h
    rcases h with (h | h) | h
    · exact absurd h hne
    · exact .inl (hM _ _ h)
    · exact .inr (hM _ _ h)
  · intro d x r hs hE j hj hnE
    have h := allSplit_mem h8 d x r hs
    rw [eB_iff.1 hE] at h
    simp only [Bool.not_true, Bool.false_or, List.all_eq_true] at h
    have h := h j hj
    rw [eB_iff] at hnE
    simp only [Bool.or_eq_true, hnE, Bool.false_eq_true, false_or, List.any_eq_true] at h
    obtain ⟨i, hi, hn⟩ := h
    exact ⟨i, mem_predsL.2 hi, by simpa using hn⟩
  · intro d x r hs hE j hj hnE
    have h := allSplit_mem h9 d x r hs
    rw [eB_iff.1 hE] at h
    simp only [Bool.not_true, Bool.false_or, List.all_eq_true] at h
    have h := h j hj
    rw [eB_iff] at hnE
    simp only [Bool.or_eq_true, hnE, Bool.false_eq_true, false_or] at h
    rcases h with h | h
    · exact .inl (hM _ _ h)
    · exact .inr (by simpa using h)

def opsOkB (n : Nat) (ops : Array Oper) : Bool := ops.toList.all fun o => match o.dst with | some d => decide (d < n) | none => true

theorem opsOk_of {n : Nat} {ops : Array Oper} (h : opsOkB n ops = true) : opsOk n ops := by
  intro i o ho d hd
  unfold opsOkB at h
  rw [List.all_eq_true] at h
  have := h o (by simpa using Array.mem_of_getElem? ho)
  rw [hd] at this
  simpa using this

def codeOkB (an : Ann) (n : Nat) : Code → Bool
  | .region _ ops false => opsOkB n ops
  | .region id ops true => opsOkB n ops && (match an.dr id with | some s => drOkB ops s | none => true)
  | .seq a b => codeOkB an n a && codeOkB an n b
  | .cond _ a b => codeOkB an n a && codeOkB an n b
  | .block _ a => codeOkB an n a
  | .loop a => codeOkB an n a
  | _ => true

theorem codeOk_of {an : Ann} {n : Nat} : ∀ {c : Code}, codeOkB an n c = true → CodeOk an n c := by
  intro c
  induction c with
  | region id ops draw =>
    intro h
    cases draw with
    | false => simpa only [CodeOk] using opsOk_of h
    | true =>
      simp only [codeOkB, Bool.and_eq_true] at h
      refine ⟨opsOk_of h.1, fun s hs => ?_⟩
      rw [hs] at h
      exact drOk_of h.2
  | seq a b iha ihb => intro h; simp only [codeOkB, Bool.and_eq_true] at h; exact ⟨iha h.1, ihb h.2⟩
  | cond _ a b iha ihb => intro h; simp only [codeOkB, Bool.and_eq_true] at h; exact ⟨iha h.1, ihb h.2⟩
  | block _ a ih => intro h; exact ih h
  | loop a ih => intro h; exact ih h
  | _ => intro _; trivial

/-- One function of the program, as the machine holds it. -/
def fnOkB (an : Ann) (fn : Func) : Bool :=
  !(fn.name == "runtime.NumGoroutine") && (match fn.body with | some c => codeOkB an fn.ntmps c | none => true)

theorem fnOk_of {an : Ann} {fn : Func} (h : fnOkB an fn = true) : (fn.name == "runtime.NumGoroutine") = false ∧ ∀ c, fn.body = some c → CodeOk an fn.ntmps c := by
  simp only [fnOkB, Bool.and_eq_true, Bool.not_eq_true'] at h
  refine ⟨h.1, fun c hc => ?_⟩
  rw [hc] at h
  exact codeOk_of h.2
end Go.AM
namespace Go.AM

def mkTI (P : Program) (t : TypeId) : Option TI :=
  match P.underlying t, P.info? t with
  | some d, some i => some ⟨tdOf d, i.size, i.bytes, match i.zero with | some z => constAV z | none => .dead⟩
  | _, _ => none

theorem mkTI_ok {P : Program} {t : TypeId} {i : TI} (h : mkTI P t = some i) : TIok P t i := by
  unfold mkTI at h
  split at h
  · rename_i d ti hd hti
    injection h with h
    subst h
    refine ⟨d, ti, hd, hti, rfl, rfl, rfl, ?_⟩
    cases hz : ti.zero with
    | none => exact .inl rfl
    | some z => exact .inr ⟨z, rfl, rfl⟩
  · simp at h

def Tr.mapIx {α β : Type} (f : Nat → α → β) : Tr α → Nat → Nat → List β
  | .leaf, _, _ => []
  | .node l v r, b, s => (match v with | some x => [f b x] | none => []) ++ (Tr.mapIx f l (b + s) (s * 2) ++ Tr.mapIx f r (b + 2 * s) (s * 2))

theorem Tr.mapIx_len {α β γ : Type} (f : Nat → α → β) (g : Nat → α → γ) : ∀ (t : Tr α) (b s : Nat), (t.mapIx f b s).length = (t.mapIx g b s).length
  | .leaf, _, _ => rfl
  | .node l v r, b, s => by
    simp only [Tr.mapIx, List.length_append]
    rw [Tr.mapIx_len f g l, Tr.mapIx_len f g r]
    cases v <;> simp

theorem Tr.mapIx_eq {α β : Type} {f g : Nat → α → β} : ∀ {t : Tr α} {b s : Nat}, t.mapIx f b s = t.mapIx g b s → ∀ n v, t.get n = some v → f (b + s * n) v = g (b + s * n) v
  | .leaf, _, _, _, n, v, h => by simp [Tr.get] at h
  | .node l w r, b, s, he, n, v, h => by
    simp only [Tr.mapIx] at he
    have h1 := List.append_inj he (by cases w <;> simp)
    have h2 := List.append_inj h1.2 (Tr.mapIx_len f g l _ _)
    simp only [Tr.get, bcond, nmod, ndiv, nsub] at h
    split at h
    · rename_i e
      subst e; subst h
      simpa using h1.1
    · split at h
      · rename_i e1 e2
        have := Tr.mapIx_eq h2.1 _ _ h
        have hn : b + s + s * 2 * (n / 2) = b + s * n := by
          have : n = 2 * (n / 2) + 1 := by omega
          calc b + s + s * 2 * (n / 2) = b + s * (2 * (n / 2) + 1) := by rw [Nat.mul_add, Nat.mul_one, ← Nat.mul_assoc]; omega
            _ = b + s * n := by rw [← this]
        rwa [hn] at this
      · rename_i e1 e2
        have := Tr.mapIx_eq h2.2 _ _ h
        have hn : b + 2 * s + s * 2 * (n / 2 - 1) = b + s * n := by
          have : n = 2 * (n / 2 - 1) + 2 := by omega
          calc b + 2 * s + s * 2 * (n / 2 - 1) = b + s * (2 * (n / 2 - 1) + 2) := by rw [Nat.mul_add, ← Nat.mul_assoc, Nat.mul_comm s 2]; omega
            _ = b + s * n := by rw [← this]
        rwa [hn] at this

def Tr.allB {α : Type} (p : Nat → α → Bool) : Tr α → Nat → Nat → Bool
  | .leaf, _, _ => true
  | .node l v r, b, s => (match v with | some x => p b x | none => true) && Tr.allB p l (b + s) (s * 2) && Tr.allB p r (b + 2 * s) (s * 2)

theorem Tr.allB_get {α : Type} {p : Nat → α → Bool} : ∀ {t : Tr α} {b s : Nat}, t.allB p b s = true → ∀ n v, t.get n = some v → p (b + s * n) v = true
  | .leaf, _, _, _, n, v, h => by simp [Tr.get] at h
  | .node l w r, b, s, he, n, v, h => by
    simp only [Tr.allB, Bool.and_eq_true] at he
    obtain ⟨⟨h0, h1⟩, h2⟩ := he
    simp only [Tr.get, bcond, nmod, ndiv, nsub] at h
    split at h
    · rename_i e
      subst e; subst h
      simpa using h0
    · split at h
      · rename_i e1 e2
        have := Tr.allB_get h1 _ _ h
        have hn : b + s + s * 2 * (n / 2) = b + s * n := by
          have : n = 2 * (n / 2) + 1 := by omega
          calc b + s + s * 2 * (n / 2) = b + s * (2 * (n / 2) + 1) := by rw [Nat.mul_add, Nat.mul_one, ← Nat.mul_assoc]; omega
            _ = b + s * n := by rw [← this]
        rwa [hn] at this
      · rename_i e1 e2
        have := Tr.allB_get h2 _ _ h
        have hn : b + 2 * s + s * 2 * (n / 2 - 1) = b + s * n := by
          have : n = 2 * (n / 2 - 1) + 2 := by omega
          calc b + 2 * s + s * 2 * (n / 2 - 1) = b + s * (2 * (n / 2 - 1) + 2) := by rw [Nat.mul_add, ← Nat.mul_assoc, Nat.mul_comm s 2]; omega
            _ = b + s * n := by rw [← this]
        rwa [hn] at this

def assoc {α : Type} (l : List (Nat × α)) (k : Nat) : Option α :=
  match l with
  | [] => none
  | (a, x) :: l => if a = k then some x else assoc l k

/-- A program's tables. -/
structure Tabs where
  ty : Tr TI
  code : Tr Func
  keep : Tr Nat
  dr : Tr (List (Nat × List (Nat × List Nat)))

def Tabs.cfg (T : Tabs) (P : Program) (flat : TypeId → Bool) (prim : FuncId → Option (List AV → AHeap → Option (Comp (AV × AHeap)))) (lf : Nat) : Cfg where
  ty := T.ty.get
  code := T.code.get
  mth := fun t n => (P.info? t).bind fun i => i.methods.find? (·.name == n)
  flat := flat
  keep := T.keep.get
  lkeep := fun _ _ => none
  dr := fun f id => (T.dr.get f).bind fun l => assoc l id
  prim := prim
  lf := lf

def Tabs.annOk (T : Tabs) (f : FuncId) : Ann := ⟨T.keep.get f, fun _ => none, fun id => (T.dr.get f).bind fun l => assoc l id⟩

def flatAt (l : List TypeId) (t : TypeId) : Bool := l.any fun u => Nat.beq u t

theorem flatAt_ok {P : Program} {l : List TypeId} (h : l.all (fun t => !P.eqGuardType P.depth t && flatB P 8 t) = true) : ∀ t, flatAt l t = true → FlatOk P t := by
  intro t ht
  obtain ⟨u, hu, e⟩ := List.any_eq_true.1 ht
  have := Nat.eq_of_beq_eq_true e
  subst this
  have := List.all_eq_true.1 h u hu
  simp only [Bool.and_eq_true, Bool.not_eq_true'] at this
  exact this

theorem Tabs.ok {P : Program} {T : Tabs} {flat : TypeId → Bool} {prim : FuncId → Option (List AV → AHeap → Option (Comp (AV × AHeap)))} {lf : Nat} (hm : P.follows .mixedOrders = true)
    (hty : T.ty.mapIx (fun n _ => mkTI P n) 0 1 = T.ty.mapIx (fun _ i => some i) 0 1)
    (hfn : T.code.mapIx (fun n _ => P.funcs[n]?) 0 1 = T.code.mapIx (fun _ f => some f) 0 1)
    (hco : T.code.allB (fun n fn => fnOkB (T.annOk n) fn) 0 1 = true)
    (hfl : ∀ t, flat t = true → FlatOk P t)
    (hpr : ∀ f p, prim f = some p → PrimOk P f p) :
    CfgOk P (T.cfg P flat prim lf) where
  ty := fun t i h => mkTI_ok (by have := Tr.mapIx_eq hty t i h; simpa using this)
  flat := hfl
  mth := fun t n m h => by
    simp only [Tabs.cfg] at h
    cases hi : P.info? t with
    | none => rw [hi] at h; simp at h
    | some ti => rw [hi] at h; exact ⟨ti, rfl, h⟩
  mixed := hm
  code := fun f fn h => by
    have h1 := Tr.mapIx_eq hfn f fn h
    have h2 := Tr.allB_get hco f fn h
    simp only [Nat.zero_add, Nat.one_mul] at h1 h2
    obtain ⟨g1, g2⟩ := fnOk_of h2
    exact ⟨h1, g1, g2⟩
  prim := hpr
end Go.AM
namespace Go.AM

mutual
theorem VR.back {β β' : Inj} (hle : β.le β') : ∀ {a : AV} {v1 v2 : Value}, VR β a v1 → VR β' a v2 → VR β a v2
  | _, _, _, .dead _, .dead v => .dead v
  | _, _, _, .bool _, .bool b => .bool b
  | _, _, _, .int _ _, .int k n => .int k n
  | _, _, _, .str _, .str l => .str l
  | _, _, _, .ptrNil, .ptrNil => .ptrNil
  | _, _, _, .ptr h1, .ptr h2 => by
    have := hle _ _ h1
    rw [h2] at this
    injection this with this
    injection this with e1 e2
    injection e2 with e2 e3
    subst e1; subst e2; subst e3
    exact .ptr h1
  | _, _, _, .sliceNil _ _, .sliceNil s e => .sliceNil s e
  | _, _, _, .slice h1 _ _ _ _, .slice h2 hc hx hl ha => by
    have := hle _ _ h1
    rw [h2] at this
    injection this with this
    injection this with e1 e2
    injection e2 with e2 e3
    subst e1; subst e2; subst e3
    exact .slice h1 hc hx hl ha
  | _, _, _, .mapNil, .mapNil => .mapNil
  | _, _, _, .map h1, .map h2 => by
    have := hle _ _ h1
    rw [h2] at this
    injection this with this
    injection this with e1 e2
    subst e1
    exact .map h1
  | _, _, _, .func f a1 c1, .func _ a2 c2 => .func f (VRs.back hle a1 a2) (VRs.back hle c1 c2)
  | _, _, _, .nilFunc, .nilFunc => .nilFunc
  | _, _, _, .iface t h1, .iface _ h2 => .iface t (VR.back hle h1 h2)
  | _, _, _, .nilIface, .nilIface => .nilIface
  | _, _, _, .agg h1 _, .agg h2 o => .agg (VRs.back hle h1 h2) o
  | _, _, _, .tuple h1, .tuple h2 => .tuple (VRs.back hle h1 h2)
theorem VRs.back {β β' : Inj} (hle : β.le β') : ∀ {as : List AV} {l1 l2 : List Value}, VRs β as l1 → VRs β' as l2 → VRs β as l2
  | _, _, _, .nil, .nil => .nil
  | _, _, _, .cons h1 t1, .cons h2 t2 => .cons (VR.back hle h1 h2) (VRs.back hle t1 t2)
end

theorem ESR.back {β β' : Inj} (hle : β.le β') : ∀ {l : List (AV × AV × Nat)} {r1 r2 : List MapEntry}, ESR β l r1 → ESR β' l r2 → ESR β l r2
  | [], [], [], _, _ => trivial
  | (_, _, _) :: _, _ :: _, _ :: _, h1, h2 => ⟨h1.1.back hle h2.1, h1.2.1.back hle h2.2.1, h2.2.2.1, ESR.back hle h1.2.2.2 h2.2.2.2⟩
  | [], [], _ :: _, _, h => h.elim
  | [], _ :: _, _, h, _ => h.elim
  | (_, _, _) :: _, [], _, h, _ => h.elim
  | (_, _, _) :: _, _ :: _, [], _, h => h.elim

theorem OR.back {β β' : Inj} (hle : β.le β') {H H' : Array Obj} {B O N : Nat} : ∀ {o : AObj}, OR β H B O N o → OR β' H' B O N o → OR β H' B O N o
  | .cells cs fz, ⟨c1, e1, lo1, hi1, h1, n1, f1, o1, C1⟩, ⟨c2, e2, lo2, hi2, h2, n2, f2, o2, C2⟩ => by
    refine ⟨c2, e2, lo2, hi2, h2, n2, f2, o2, fun i v hv => ?_⟩
    obtain ⟨v1, _, g1, _⟩ := C1 i v hv
    obtain ⟨v2, q1, g2, q3⟩ := C2 i v hv
    exact ⟨v2, q1, g1.back hle g2, q3⟩
  | .map es clock, ⟨_, _, E1⟩, ⟨es2, h2, E2⟩ => ⟨es2, h2, E1.back hle E2⟩
  | .miter m since seen last, ⟨_, m1, _, g1⟩, ⟨o2, m2, h2, g2⟩ => ⟨o2, m2, h2, g1.back hle g2⟩
  | .kbox m, ⟨_, m1, e1, lo1, hi1, _, g1⟩, ⟨o2, m2, e2, lo2, hi2, h2, g2⟩ => ⟨o2, m2, e2, lo2, hi2, h2, g1.back hle g2⟩
  | .gone, _, _ => trivial

/-- Blocks made meanwhile are forgotten. -/
theorem Tn.forget {β β' : Inj} {h h' : AHeap} {H H' : Array Obj} (hr : HR β h H) (t : Tn β h H β' h' H') (hs : ∀ b, b < h.next → h'.get b = h.get b) : Tn β h H β h H' := by
  refine ⟨fun _ _ e => e, fun _ _ e => .inl e, Nat.le_refl _, ⟨hr.top, hr.dom, ?_, hr.inj, ?_⟩, t.sz, fun b B O N e l => .inl ⟨b, O, N, e, l⟩, t.frame⟩
  · intro b B O N e
    have := hr.low _ _ _ _ e
    have := t.sz
    omega
  · intro b B O N o e ho
    have hb := hr.dom _ _ e
    have h1 := hr.obj _ _ _ _ _ e ho
    have h2 := t.rel.obj _ _ _ _ _ (t.ext _ _ e) (by rw [hs b hb]; exact ho)
    exact h1.back t.ext h2

theorem TnW.forget {β β' : Inj} {h h' : AHeap} {w w' : World} (hr : HR β h w.heap) (t : TnW β h w β' h' w') (hs : ∀ b, b < h.next → h'.get b = h.get b) : TnW β h w β h w' :=
  ⟨t.toTn.forget hr hs, t.kp⟩

mutual
/-- Does it lead nowhere? -/
def noRef : AV → Bool
  | .bool _ | .int _ _ | .str _ | .ptr none | .map none | .nilFunc | .nilIface => true
  | .slice none _ _ _ _ => true
  | .iface _ v => noRef v
  | .agg l => noRefs l
  | .tuple l => noRefs l
  | _ => false
def noRefs : List AV → Bool
  | [] => true
  | a :: l => noRef a && noRefs l
end

mutual
theorem VR.plain {β β' : Inj} : ∀ (a : AV) (v : Value), noRef a = true → VR β' a v → VR β a v := by
  intro a v hn h
  cases h with
  | bool b => exact .bool b
  | int k n => exact .int k n
  | str l => exact .str l
  | ptrNil => exact .ptrNil
  | sliceNil s e => exact .sliceNil s e
  | mapNil => exact .mapNil
  | nilFunc => exact .nilFunc
  | nilIface => exact .nilIface
  | iface t g => exact .iface t (VR.plain _ _ (by simpa [noRef] using hn) g)
  | agg g o => exact .agg (VRs.plain _ _ (by simpa [noRef] using hn) g) o
  | tuple g => exact .tuple (VRs.plain _ _ (by simpa [noRef] using hn) g)
  | dead => simp [noRef] at hn
  | ptr => simp [noRef] at hn
  | slice => simp [noRef] at hn
  | map => simp [noRef] at hn
  | func => simp [noRef] at hn
theorem VRs.plain {β β' : Inj} : ∀ (as : List AV) (l : List Value), noRefs as = true → VRs β' as l → VRs β as l := by
  intro as l hn h
  cases h with
  | nil => exact .nil
  | cons g t =>
    simp only [noRefs, Bool.and_eq_true] at hn
    exact .cons (VR.plain _ _ hn.1 g) (VRs.plain _ _ hn.2 t)
end

/-- A primitive that answers outright. -/
def retP (p : List AV → AHeap → Option (AV × AHeap)) : List AV → AHeap → Option (Comp (AV × AHeap)) := fun args h =>
  match p args h with
  | some r => some (.ret r)
  | none => none

theorem PrimOk.of {P : Program} {f : FuncId} {p : List AV → AHeap → Option (AV × AHeap)}
    (hp : ∀ args h r, p args h = some r → Enters P f ∧ ∀ (β : Inj) (w : World) (args' : Array Value), VRs β args args'.toList → HR β h w.heap → Calls P f args' w (CallPost β h w (fun q => q = r))) : PrimOk P f (retP p) := by
  intro args h c hc Q hQ
  unfold retP at hc
  split at hc
  · rename_i r hr
    injection hc with hc
    subst hc
    obtain ⟨g1, g2⟩ := hp args h r hr
    refine ⟨g1, fun β w args' ha hh => (g2 β w args' ha hh).mono ?_⟩
    rintro e w' ⟨v, h', v', β', q1, q2, q3, q4⟩
    exact ⟨v, h', v', β', by rw [q1]; exact hQ, q2, q3, q4⟩
  · exact absurd hc (by simp)

/-- A function that answers with plain data, and changes nothing that was there, as a primitive. -/
theorem PrimOk.pure {P : Program} {ck : CallK} (hck : CallsOk P ck) {f : FuncId} {p : List AV → AHeap → Option (AV × AHeap)}
    (hp : ∀ args h r, p args h = some r → noRef r.1 = true ∧ r.2 = h ∧ (ck f args h).all fun q => q.1 = r.1 ∧ ∀ b, b < h.next → q.2.get b = h.get b) : PrimOk P f (retP p) := by
  apply PrimOk.of
  intro args h r hr
  obtain ⟨h1, h2, h3⟩ := hp args h r hr
  obtain ⟨g1, g2⟩ := hck f args h _ h3
  refine ⟨g1, fun β w args' ha hh => (g2 β w args' ha hh).mono ?_⟩
  rintro e w' ⟨v, h', v', β', ⟨q1, q2⟩, q3, q4, q5⟩
  simp only at q1 q2
  obtain ⟨r1, r2⟩ := r
  simp only at h1 h2 q1
  subst h2; subst q1
  exact ⟨v, r2, v', β, rfl, q3, VR.plain _ _ h1 q4, q5.forget hh q2⟩
end Go.AM
namespace Go.AM

def noInj : Inj := fun _ => none

theorem HR.none (H : Array Obj) : HR noInj AHeap.empty H where
  top := fun b _ => by cases b <;> rfl
  dom := fun b x e => by simp [noInj] at e
  low := fun b B O N e => by simp [noInj] at e
  inj := fun b c B O N O' N' e => by simp [noInj] at e
  obj := fun b B O N o e => by simp [noInj] at e

theorem OR.heap' {β : Inj} {H H' : Array Obj} {B O N : Nat} {o : AObj} (h : OR β H B O N o) (e : H'[B]? = H[B]?) : OR β H' B O N o := by
  cases o <;> simp only [OR, e] at h ⊢ <;> exact h

/-- Where nothing was written that was there, the relation stands. -/
theorem TnW.beside {β : Inj} {h h' : AHeap} {β' : Inj} {w w' : World} (hr : HR β h w.heap) (t : TnW noInj AHeap.empty w β' h' w') : TnW β h w β h w' := by
  have hf : ∀ B, B < w.heap.size → w'.heap[B]? = w.heap[B]? := fun B hB => t.frame B hB (fun c O N e => by simp [noInj] at e)
  refine ⟨⟨fun _ _ e => e, fun _ _ e => .inl e, Nat.le_refl _, ⟨hr.top, hr.dom, ?_, hr.inj, ?_⟩, t.sz, fun b B O N e l => .inl ⟨b, O, N, e, l⟩, fun B hB _ => hf B hB⟩, t.kp⟩
  · intro b B O N e
    have := hr.low _ _ _ _ e
    have := t.sz
    omega
  · intro b B O N o e ho
    exact (hr.obj _ _ _ _ _ e ho).heap' (hf B (hr.low _ _ _ _ e))

/-- A function of plain data with plain results, as a primitive, by its runs from an empty memory. -/
theorem PrimOk.ground {P : Program} {ck : CallK} (hck : CallsOk P ck) {f : FuncId} {p : List AV → AHeap → Option (AV × AHeap)}
    (hp : ∀ args h r, p args h = some r → noRefs args = true ∧ noRef r.1 = true ∧ r.2 = h ∧ (ck f args AHeap.empty).all fun q => q.1 = r.1) : PrimOk P f (retP p) := by
  apply PrimOk.of
  intro args h r hr
  obtain ⟨h0, h1, h2, h3⟩ := hp args h r hr
  obtain ⟨g1, g2⟩ := hck f args _ _ h3
  refine ⟨g1, fun β w args' ha hh => (g2 noInj w args' (VRs.plain _ _ h0 ha) (HR.none _)).mono ?_⟩
  rintro e w' ⟨v, h', v', β', q1, q3, q4, q5⟩
  simp only at q1
  obtain ⟨r1, r2⟩ := r
  simp only at h1 h2 q1
  subst h2; subst q1
  exact ⟨v, r2, v', β, rfl, q3, VR.plain _ _ h1 q4, q5.beside hh⟩

/-- A call with plain arguments from an empty memory: what the program does, whatever else there is. -/
theorem calls_ground {P : Program} {ck : CallK} (hck : CallsOk P ck) {f : FuncId} {args : List AV} {r : AV} {w : World} {args' : Array Value} (ha : VRs noInj args args'.toList)
    (hr : noRef r = true) (h : (ck f args AHeap.empty).all fun q => q.1 = r) :
    Calls P f args' w fun e w' => (∃ v', e = .returned v' ∧ VR noInj r v') ∧ Kp w w' ∧ w.heap.size ≤ w'.heap.size ∧ ∀ B, B < w.heap.size → w'.heap[B]? = w.heap[B]? := by
  obtain ⟨_, g2⟩ := hck f args _ _ h
  refine (g2 noInj w args' ha (HR.none _)).mono ?_
  rintro e w' ⟨v, h', v', β', q1, q3, q4, q5⟩
  simp only at q1
  subst q1
  exact ⟨⟨v', q3, VR.plain _ _ hr q4⟩, q5.kp, q5.sz, fun B hB => q5.frame B hB (fun c O N e => by simp [noInj] at e)⟩
end Go.AM
namespace Go.AM

/-- The places of a tree that another one names. -/
def Tr.mask {α : Type} : Tr Unit → Tr α → Tr α
  | .leaf, _ => .leaf
  | .node _ _ _, .leaf => .leaf
  | .node l k r, .node l' v r' => .node (Tr.mask l l') (match k with | some _ => v | none => none) (Tr.mask r r')

theorem Tr.mask_get {α : Type} : ∀ {k : Tr Unit} {t : Tr α} {n : Nat} {x : α}, (Tr.mask k t).get n = some x → t.get n = some x
  | .leaf, t, n, x, h => by simp [Tr.mask, Tr.get] at h
  | .node _ _ _, .leaf, n, x, h => by simp [Tr.mask, Tr.get] at h
  | .node l k r, .node l' v r', n, x, h => by
    simp only [Tr.mask, Tr.get, bcond, nmod, ndiv, nsub] at h ⊢
    split at h
    · rename_i e
      rw [if_pos e]
      cases k with
      | none => simp at h
      | some _ => exact h
    · rename_i e
      rw [if_neg e]
      split at h
      · rename_i e2; rw [if_pos e2]; exact Tr.mask_get h
      · rename_i e2; rw [if_neg e2]; exact Tr.mask_get h

def AHeap.mask (k : Tr Unit) (h : AHeap) : AHeap := ⟨h.next, Tr.mask k h.tr⟩

/-- A memory that knows no more than another. -/
structure AHeap.sub (h g : AHeap) : Prop where
  next : h.next = g.next
  get : ∀ b o, h.get b = some o → g.get b = some o

theorem AHeap.mask_sub (k : Tr Unit) (h : AHeap) : (h.mask k).sub h := ⟨rfl, fun _ _ e => Tr.mask_get e⟩

theorem AHeap.sub.live {h g : AHeap} (s : h.sub g) {b : Nat} (l : h.live b) : g.live b := by
  obtain ⟨o, e, ho⟩ := l
  exact ⟨o, s.get b o e, ho⟩

theorem HR.sub {β : Inj} {h g : AHeap} {H : Array Obj} (s : h.sub g) (r : HR β g H) : HR β h H where
  top := fun b hb => by
    cases e : h.get b with
    | none => rfl
    | some o =>
      have := s.get b o e
      rw [r.top b (by rw [← s.next]; exact hb)] at this
      exact absurd this (by simp)
  dom := fun b x e => by rw [s.next]; exact r.dom b x e
  low := r.low
  inj := fun b c B O N O' N' e f lb lc => r.inj b c B O N O' N' e f (s.live lb) (s.live lc)
  obj := fun b B O N o e ho => r.obj b B O N o e (s.get b o ho)

theorem Tn.subR {β β' : Inj} {h h' g : AHeap} {H H' : Array Obj} (s : g.sub h') (t : Tn β h H β' h' H') : Tn β h H β' g H' :=
  ⟨t.ext, t.new, by rw [s.next]; exact t.next, t.rel.sub s, t.sz, fun b B O N e l => t.live b B O N e (s.live l), t.frame⟩

theorem Tn.subL {β β' : Inj} {h h' g : AHeap} {H H' : Array Obj} (s : h.sub g) (t : Tn β h H β' h' H') : Tn β g H β' h' H' := by
  refine ⟨t.ext, by rw [← s.next]; exact t.new, by rw [← s.next]; exact t.next, t.rel, t.sz, fun b B O N e l => ?_, fun B hB hc => t.frame B hB fun c O N e l => hc c O N e (s.live l)⟩
  rcases t.live b B O N e l with ⟨c, O', N', e', l'⟩ | hB
  · exact .inl ⟨c, O', N', e', s.live l'⟩
  · exact .inr hB

theorem TnW.subR {β β' : Inj} {h h' g : AHeap} {w w' : World} (s : g.sub h') (t : TnW β h w β' h' w') : TnW β h w β' g w' := ⟨t.toTn.subR s, t.kp⟩
theorem TnW.subL {β β' : Inj} {h h' g : AHeap} {w w' : World} (s : h.sub g) (t : TnW β h w β' h' w') : TnW β g w β' h' w' := ⟨t.toTn.subL s, t.kp⟩

/-- A call, and its answer. -/
structure Ent where
  f : FuncId
  args : List AV
  h : AHeap
  r : AV
  h' : AHeap

def EntOk (P : Program) (e : Ent) : Prop :=
  Enters P e.f ∧ ∀ (β : Inj) (w : World) (args' : Array Value), VRs β e.args args'.toList → HR β e.h w.heap → Calls P e.f args' w (CallPost β e.h w (fun q => q = (e.r, e.h')))

def findE : List Ent → FuncId → List AV → AHeap → Option Ent
  | [], _, _, _ => none
  | e :: l, f, args, h => bif Nat.beq e.f f && (Nat.beq e.h.next h.next && AV.sames args e.args) then some e else findE l f args h

theorem findE_some : ∀ {l : List Ent} {f : FuncId} {args : List AV} {h : AHeap} {e : Ent}, findE l f args h = some e → e ∈ l ∧ e.f = f ∧ e.args = args
  | [], _, _, _, _, q => by simp [findE] at q
  | e :: l, f, args, h, e', q => by
    simp only [findE, Bool.cond_eq_ite] at q
    split at q
    · rename_i c
      simp only [Bool.and_eq_true] at c
      injection q with q
      subst q
      exact ⟨.head _, Nat.eq_of_beq_eq_true c.1, (AV.sames_eq c.2.2).symm⟩
    · obtain ⟨h1, h2⟩ := findE_some q
      exact ⟨.tail _ h1, h2⟩

def memoAt (l : List Ent) (f : FuncId) (args : List AV) (h : AHeap) : Option (Comp (AV × AHeap)) :=
  match findE l f args h with
  | some e => some (.need (h = e.h) (.ret (e.r, e.h')))
  | none => none

abbrev Prims := FuncId → Option (List AV → AHeap → Option (Comp (AV × AHeap)))

/-- Primitives, and calls whose answers are known. -/
def memoPrims (l : List Ent) (base : Prims) : Prims := fun f =>
  match base f with
  | some p => some p
  | none => some (memoAt l f)

def AllOk (P : Program) (l : List Ent) : Prop := ∀ e, e ∈ l → EntOk P e

theorem AllOk.nil {P : Program} : AllOk P [] := fun e h => by simp at h
theorem AllOk.cons {P : Program} {e : Ent} {l : List Ent} (h : EntOk P e) (t : AllOk P l) : AllOk P (e :: l) := fun x hx => by
  cases hx with
  | head => exact h
  | tail _ hx => exact t x hx

theorem memoPrims_ok {P : Program} {base : Prims} (hb : ∀ f p, base f = some p → PrimOk P f p) {l : List Ent} (hl : AllOk P l) : ∀ f p, memoPrims l base f = some p → PrimOk P f p := by
  intro f p hp
  unfold memoPrims at hp
  split at hp
  · rename_i q hq
    injection hp with hp
    subst hp
    exact hb f _ hq
  · injection hp with hp
    subst hp
    intro args h c hc Q hQ
    unfold memoAt at hc
    split at hc
    · rename_i e he
      injection hc with hc
      subst hc
      obtain ⟨h1, h2, h3⟩ := findE_some he
      obtain ⟨q1, q2⟩ := hQ
      obtain ⟨g1, g2⟩ := hl e h1
      subst h2; subst h3; subst q1
      refine ⟨g1, fun β w args' ha hh => (g2 β w args' ha hh).mono ?_⟩
      rintro x w' ⟨v, h', v', β', r1, r2, r3, r4⟩
      exact ⟨v, h', v', β', by rw [r1]; exact q2, r2, r3, r4⟩
    · exact absurd hc (by simp)

/-- A piece of a run. -/
theorem EntOk.of {P : Program} {ck : CallK} (hck : CallsOk P ck) {e : Ent} {k : Tr Unit} (he : (ck e.f e.args e.h).all fun q => q.1 = e.r ∧ q.2.mask k = e.h') : EntOk P e := by
  obtain ⟨g1, g2⟩ := hck _ _ _ _ he
  refine ⟨g1, fun β w args' ha hh => (g2 β w args' ha hh).mono ?_⟩
  rintro x w' ⟨v, h', v', β', r1, r2, r3, r4⟩
  simp only at r1
  refine ⟨v, e.h', v', β', by rw [r1.1], r2, r3, ?_⟩
  rw [← r1.2]
  exact r4.subR (AHeap.mask_sub _ _)
end Go.AM
namespace Go.AM
open Go.RowKit

/-- Where nothing that was there has turned, the relation stands. -/
theorem TnW.ofBelow {β : Inj} {h : AHeap} {w w' : World} (hr : HR β h w.heap) (b : Below w.heap.size w w') : TnW β h w β h w' := by
  refine ⟨⟨fun _ _ e => e, fun _ _ e => .inl e, Nat.le_refl _, ⟨hr.top, hr.dom, ?_, hr.inj, ?_⟩, b.size, fun b B O N e l => .inl ⟨b, O, N, e, l⟩, fun B hB _ => b.block B hB⟩, ⟨b.os, b.tape, b.output⟩⟩
  · intro c B O N e
    have := hr.low _ _ _ _ e
    have := b.size
    omega
  · intro c B O N o e ho
    exact (hr.obj _ _ _ _ _ e ho).heap' (b.block B (hr.low _ _ _ _ e))

/-- A function of plain results that turns nothing. -/
theorem PrimOk.below {P : Program} {f : FuncId} {p : List AV → AHeap → Option (AV × AHeap)}
    (hp : ∀ args h r, p args h = some r → r.2 = h ∧ noRef r.1 = true ∧ Enters P f ∧ ∀ (β : Inj) (w : World) (args' : Array Value), VRs β args args'.toList → HR β h w.heap → Calls P f args' w fun e w' => (∃ v', e = .returned v' ∧ VR β r.1 v') ∧ Below w.heap.size w w') : PrimOk P f (retP p) := by
  apply PrimOk.of
  intro args h r hr
  obtain ⟨h2, h1, g1, g2⟩ := hp args h r hr
  refine ⟨g1, fun β w args' ha hh => (g2 β w args' ha hh).mono ?_⟩
  rintro e w' ⟨⟨v', q1, q2⟩, q3⟩
  obtain ⟨r1, r2⟩ := r
  simp only at h2
  subst h2
  exact ⟨r1, r2, v', β, rfl, q1, q2, TnW.ofBelow hh q3⟩

def cloneP : List AV → AHeap → Option (AV × AHeap) := fun a h =>
  match a with
  | [.str s] => if s.length ≤ 281474976710656 then some (.str s, h) else none
  | _ => none

def repL (l : List UInt8) : Nat → List UInt8
  | 0 => []
  | c + 1 => l ++ repL l c

def repeatP : List AV → AHeap → Option (AV × AHeap) := fun a h =>
  match a with
  | [.str s, .int .i64 (.ofNat n)] => if n ≤ 9223372036854775807 ∧ s.length * n ≤ 140737488355328 then some (.str (repL s n), h) else none
  | _ => none

theorem PrimOk.clone {P : Program} {f : FuncId} (he : Enters P f)
    (hc : ∀ (s : ByteArray) (w : World), s.size ≤ 281474976710656 → Calls P f #[.string s] w fun e w' => e = .returned (.string s) ∧ Below w.heap.size w w') : PrimOk P f (retP cloneP) := by
  apply PrimOk.below
  intro args h r hr
  unfold cloneP at hr
  split at hr
  · rename_i s
    split at hr
    · rename_i hl
      injection hr with hr
      subst hr
      refine ⟨rfl, rfl, he, fun β w args' ha hh => ?_⟩
      obtain ⟨l⟩ := args'
      cases ha with
      | cons hv ht =>
        cases ht
        cases hv
        refine (hc ⟨s.toArray⟩ w (by simpa [ByteArray.size] using hl)).mono ?_
        rintro e w' ⟨q1, q2⟩
        exact ⟨⟨_, q1, .str s⟩, q2⟩
    · exact absurd hr (by simp)
  · exact absurd hr (by simp)

theorem PrimOk.repeat {P : Program} {f : FuncId} (he : Enters P f)
    (hc : ∀ (s : ByteArray) (c : Nat) (w : World), c ≤ 9223372036854775807 → s.size * c ≤ 140737488355328 → Calls P f #[.string s, .int .i64 c] w fun e w' => e = .returned (.string ⟨(repL s.data.toList c).toArray⟩) ∧ Below w.heap.size w w')
    : PrimOk P f (retP repeatP) := by
  apply PrimOk.below
  intro args h r hr
  unfold repeatP at hr
  split at hr
  · rename_i s n
    split at hr
    · rename_i hl
      injection hr with hr
      subst hr
      refine ⟨rfl, rfl, he, fun β w args' ha hh => ?_⟩
      obtain ⟨l⟩ := args'
      cases ha with
      | cons hv ht =>
        cases ht with
        | cons hv2 ht2 =>
          cases ht2
          cases hv
          cases hv2
          refine (hc ⟨s.toArray⟩ n w hl.1 (by simpa [ByteArray.size] using hl.2)).mono ?_
          rintro e w' ⟨q1, q2⟩
          exact ⟨⟨_, q1, by simpa using VR.str (β := β) (repL s n)⟩, q2⟩
    · exact absurd hr (by simp)
  · exact absurd hr (by simp)
end Go.AM
namespace Go.AM
open Go.RowKit

/-- A block made meanwhile, wherever. -/
theorem Tn.newAt {β : Inj} {h : AHeap} {H H' : Array Obj} (hr : HR β h H) (o : AObj) (g N : Nat) (hs : H.size ≤ H'.size) (hk : ∀ B, B < H.size → H'[B]? = H[B]?) (h1 : H.size ≤ g) (h2 : g < H'.size)
    (ho : ∀ β', β.le β' → OR β' H' g 0 N o) : Tn β h H (β.add h.next (g, 0, N)) (h.push o) H' := by
  have hf := hr.fresh
  have hle := Inj.le_add (x := (g, 0, N)) hf
  refine ⟨hle, ?_, by simp, ?_, hs, ?_, fun B hB _ => hk B hB⟩
  · intro b x e
    unfold Inj.add at e
    split at e
    · exact .inr (by omega)
    · exact .inl e
  · refine ⟨?_, ?_, ?_, ?_, ?_⟩
    · intro b hb
      rw [AHeap.get_push]
      simp only [AHeap.next_push] at hb
      rw [if_neg (by omega)]
      exact hr.top b (by omega)
    · intro b x e
      unfold Inj.add at e
      simp only [AHeap.next_push]
      split at e
      · omega
      · have := hr.dom _ _ e; omega
    · intro b B O M e
      unfold Inj.add at e
      split at e
      · injection e with e; injection e with e1 e2; omega
      · have := hr.low _ _ _ _ e; omega
    · intro b c B O M O' M' e f lb lc
      unfold Inj.add at e f
      have live_of : ∀ d, d ≠ h.next → (h.push o).live d → h.live d := fun d hd ⟨x, hx, hl⟩ => ⟨x, by rw [AHeap.get_push, if_neg hd] at hx; exact hx, hl⟩
      split at e
      · rename_i hb
        injection e with e; injection e with e1 e2
        split at f
        · rename_i hc; rw [hb, hc]
        · have := hr.low _ _ _ _ f; omega
      · rename_i hb
        split at f
        · injection f with f; injection f with f1 f2
          have := hr.low _ _ _ _ e; omega
        · rename_i hc
          exact hr.inj _ _ _ _ _ _ _ e f (live_of _ hb lb) (live_of _ hc lc)
    · intro b B O M x e hx
      rw [AHeap.get_push] at hx
      unfold Inj.add at e
      split at e
      · rename_i hb
        rw [if_pos hb] at hx
        injection e with e; injection e with e1 e2; injection e2 with e2 e3
        injection hx with hx
        subst e1; subst e2; subst e3; subst hx
        exact ho _ hle
      · rename_i hb
        rw [if_neg hb] at hx
        exact ((hr.obj _ _ _ _ _ e hx).mono hle).heap' (hk _ (hr.low _ _ _ _ e))
  · intro b B O M e l
    unfold Inj.add at e
    split at e
    · injection e with e; injection e with e1 e2
      exact .inr (by omega)
    · rename_i hb
      obtain ⟨x, hx, hl⟩ := l
      rw [AHeap.get_push, if_neg hb] at hx
      exact .inl ⟨b, O, M, e, x, hx, hl⟩

/-- maps.Keys: the box that the iterator holds. -/
def keysP (g : FuncId) : List AV → AHeap → Option (AV × AHeap) := fun a h =>
  match a with
  | [.map m] => some (.func (.func g) [] [.ptr (some (h.next, 0))], h.push (.kbox m))
  | _ => none

theorem PrimOk.keys {P : Program} {f g : FuncId} {t : TypeId} (he : Enters P f)
    (hc : ∀ (mb : Option Nat) (w : World), Calls P f #[.map mb] w fun e w' => e = .returned (.func (.func g) #[] #[.pointer (some ⟨w.heap.size, 0, none⟩)]) ∧ w' = w.alloc (.cells #[.map mb] t)) : PrimOk P f (retP (keysP g)) := by
  apply PrimOk.of
  intro args h r hr
  unfold keysP at hr
  split at hr
  · rename_i m
    injection hr with hr
    subst hr
    refine ⟨he, fun β w args' ha hh => ?_⟩
    obtain ⟨l⟩ := args'
    cases ha with
    | cons hv ht =>
      cases ht
      have key : ∀ mb : Option Nat, VR β (.map m) (.map mb) → Calls P f #[.map mb] w (CallPost β h w fun q => q = (.func (.func g) [] [.ptr (some (h.next, 0))], h.push (.kbox m))) := by
        intro mb hv
        refine (hc mb w).mono ?_
        rintro e w' ⟨q1, q2⟩
        subst q2
        refine ⟨_, _, _, β.add h.next (w.heap.size, 0, 1), rfl, q1, ?_, ?_, ⟨rfl, rfl, rfl⟩⟩
        · refine .func _ .nil (.cons ?_ .nil)
          have : (β.add h.next (w.heap.size, 0, 1)) h.next = some (w.heap.size, 0, 1) := by simp [Inj.add]
          exact .ptr (o := 0) this
        · exact Tn.push hh (.kbox m) (.cells #[.map mb] t) 1 fun β' hle => ⟨rfl, .map mb, t, 0, 0, by simp, hv.mono hle⟩
      cases hv with
      | mapNil => exact key none .mapNil
      | map hb => exact key _ (.map hb)
  · exact absurd hr (by simp)

def leI (a b : Int) : Bool := !ltI b a

theorem leI_iff (a b : Int) : leI a b = true ↔ a ≤ b := by
  unfold leI
  rw [ltI_eq]
  simp

def insI (x : Int) : List Int → List Int
  | [] => [x]
  | y :: l => bif leI x y then x :: y :: l else y :: insI x l

def sortI : List Int → List Int
  | [] => []
  | x :: l => insI x (sortI l)

theorem insI_perm (x : Int) : ∀ l, (insI x l).Perm (x :: l)
  | [] => List.Perm.refl _
  | y :: l => by
    unfold insI
    rw [Bool.cond_eq_ite]
    split
    · exact List.Perm.refl _
    · exact ((insI_perm x l).cons y).trans (List.Perm.swap x y l)

theorem sortI_perm : ∀ l, (sortI l).Perm l
  | [] => List.Perm.refl _
  | x :: l => (insI_perm x _).trans ((sortI_perm l).cons x)

theorem insI_pw (x : Int) : ∀ l : List Int, l.Pairwise (· ≤ ·) → (insI x l).Pairwise (· ≤ ·)
  | [], _ => by simp [insI]
  | y :: l, h => by
    unfold insI
    rw [Bool.cond_eq_ite]
    rw [List.pairwise_cons] at h
    split
    · rename_i hc
      rw [leI_iff] at hc
      refine List.pairwise_cons.2 ⟨fun z hz => ?_, List.pairwise_cons.2 h⟩
      cases hz with
      | head => exact hc
      | tail _ hz => exact Int.le_trans hc (h.1 z hz)
    · rename_i hc
      rw [leI_iff] at hc
      refine List.pairwise_cons.2 ⟨fun z hz => ?_, insI_pw x l h.2⟩
      have := (insI_perm x l).mem_iff.1 hz
      cases this with
      | head => omega
      | tail _ hz => exact h.1 z hz

theorem sortI_pw : ∀ l, (sortI l).Pairwise (· ≤ ·)
  | [] => .nil
  | x :: l => insI_pw x _ (sortI_pw l)

theorem mergeSort_eq {ss l : List Int} (hp : ss.Perm l) : ss.mergeSort (fun x y => decide (x ≤ y)) = sortI l := by
  refine List.Perm.eq_of_pairwise (le := fun a b => a ≤ b) (fun a b _ _ h1 h2 => by omega) ?_ (sortI_pw l) (((List.mergeSort_perm ss _).trans hp).trans (sortI_perm l).symm)
  have := List.pairwise_mergeSort (le := fun x y : Int => decide (x ≤ y)) (fun a b c h1 h2 => by simp at *; omega) (fun a b => by simp; omega) ss
  exact this.imp (by simp)

/-- The keys of a map, each of which is an integer of 64 bits; none: not known. -/
def intKeysA (clock : Nat) : List (AV × AV × Nat) → Option (List Int)
  | [] => some []
  | (.int .i64 k, _, n) :: l =>
    match intKeysA clock l with
    | some r => bif Nat.ble (Nat.succ n) clock && (leI (-9223372036854775808) k && leI k 9223372036854775807) && r.all (fun x => !eqI k x) && l.all (fun e => !Nat.beq n e.2.2) then some (k :: r) else none
    | none => none
  | _ => none

def sortedP (g : FuncId) : List AV → AHeap → Option (AV × AHeap) := fun a h =>
  match a with
  | [.func (.func g') [] [.ptr (some (b, 0))]] =>
    bif Nat.beq g' g then
      match h.get b with
      | some (.kbox none) => some (.slice none 0 0 0 true, h)
      | some (.kbox (some r)) =>
        match h.get r with
        | some (.map es clock) =>
          match intKeysA clock es with
          | some ks =>
            match sortI ks with
            | [] => some (.slice none 0 0 0 true, h)
            | s => bif Nat.ble s.length 4294967296 then some (.slice (some (h.next, 0)) s.length s.length 1 false, h.push (.cells (s.map (AV.int .i64)) false)) else none
          | none => none
        | _ => none
      | _ => none
    else none
  | _ => none

def intV (x : Int) : Value := .int .i64 x
def keyI : Value → Int
  | .int _ n => n
  | _ => 0

theorem intKeysA_ok {β : Inj} {clock : Nat} : ∀ {es : List (AV × AV × Nat)} {es' : List MapEntry} {ks : List Int}, intKeysA clock es = some ks → ESR β es es' →
    es'.map (fun e => keyI e.key) = ks ∧ (∀ x ∈ es', x.born < clock ∧ ∃ n : Int, x.key = .int .i64 n ∧ -9223372036854775808 ≤ n ∧ n ≤ 9223372036854775807) ∧ (es'.map (·.born)).Nodup ∧ (es'.map (·.key)).Nodup
  | [], [], ks, h, _ => by simp [intKeysA] at h; subst h; simp
  | [], _ :: _, _, _, h => h.elim
  | (_, _, _) :: _, [], _, _, h => h.elim
  | (k, v, n) :: l, e :: r, ks, h, hE => by
    obtain ⟨h1, h2, h3, h4⟩ := hE
    cases k with
    | int kd k =>
      cases kd with
      | i64 =>
        simp only [intKeysA] at h
        split at h
        · rename_i rs hrs
          rw [Bool.cond_eq_ite] at h
          split at h
          · rename_i hc
            injection h with h
            subst h
            simp only [Bool.and_eq_true] at hc
            obtain ⟨⟨⟨c1, c2, c3⟩, c4⟩, c5⟩ := hc
            obtain ⟨q1, q2, q3, q4⟩ := intKeysA_ok hrs h4
            have hk : e.key = .int .i64 k := by
              generalize e.key = u at h1
              cases h1
              rfl
            refine ⟨?_, ?_, ?_, ?_⟩
            · rw [List.map_cons, q1, hk]; rfl
            · intro x hx
              cases hx with
              | head => exact ⟨by rw [h3]; have := Nat.le_of_ble_eq_true c1; omega, k, hk, (leI_iff _ _).1 c2, (leI_iff _ _).1 c3⟩
              | tail _ hx => exact q2 x hx
            · simp only [List.map_cons, List.nodup_cons]
              refine ⟨?_, q3⟩
              intro hm
              rw [h3] at hm
              have : ∀ {es : List (AV × AV × Nat)} {es' : List MapEntry}, ESR β es es' → es'.map (·.born) = es.map (fun e => e.2.2) := by
                intro es
                induction es with
                | nil => intro es' he; cases es' with | nil => rfl | cons _ _ => exact he.elim
                | cons a l ih => intro es' he; obtain ⟨a1, a2, a3⟩ := a; cases es' with | nil => exact he.elim | cons b r => simp [ih he.2.2.2, he.2.2.1]
              rw [this h4] at hm
              obtain ⟨y, hy, hy2⟩ := List.mem_map.1 hm
              have := List.all_eq_true.1 c5 y hy
              rw [hy2] at this
              simp at this
            · simp only [List.map_cons, List.nodup_cons]
              refine ⟨?_, q4⟩
              intro hm
              obtain ⟨y, hy, hy2⟩ := List.mem_map.1 hm
              have hyk : keyI y.key ∈ rs := by rw [← q1]; exact List.mem_map.2 ⟨y, hy, rfl⟩
              rw [hy2, hk] at hyk
              have := List.all_eq_true.1 c4 _ hyk
              simp [keyI, eqI_eq] at this
          · exact absurd h (by simp)
        · exact absurd h (by simp)
      | _ => simp [intKeysA] at h
    | _ => simp [intKeysA] at h

theorem PrimOk.sorted {P : Program} {f g : FuncId} {t : TypeId} (he : Enters P f)
    (hn : ∀ (Bm : Nat) (w : World), Bm < w.heap.size → w.cell? ⟨Bm, 0, none⟩ = some (.map none) → Calls P f #[.func (.func g) #[] #[.pointer (some ⟨Bm, 0, none⟩)]] w fun e w' => e = .returned (.slice none 0 0) ∧ Below w.heap.size w w')
    (hc : ∀ (Bm b : Nat) (es : Array MapEntry) (clock : Nat) (w : World), Bm < w.heap.size → w.cell? ⟨Bm, 0, none⟩ = some (.map (some b)) → w.heap[b]? = some (.map es clock) → es.size ≤ 4294967296 → MapKept.Stamped es clock →
      (∀ x ∈ es.toList, ∃ n : Int, x.key = .int .i64 n ∧ -9223372036854775808 ≤ n ∧ n ≤ 9223372036854775807) →
      Calls P f #[.func (.func g) #[] #[.pointer (some ⟨Bm, 0, none⟩)]] w fun e w' => ∃ (v : Value) (ss : List Int), e = .returned v ∧ ss.Perm (es.toList.map fun x => keyI x.key) ∧ w'.ownsRow w.heap.size t 1 v ss.length ((ss.mergeSort (fun x y => decide (x ≤ y))).map intV) ∧ (v = .slice none 0 0 ↔ ss = []) ∧ Below w.heap.size w w') :
    PrimOk P f (retP (sortedP g)) := by
  apply PrimOk.of
  intro args h r hr
  unfold sortedP at hr
  split at hr
  · rename_i g' b
    rw [Bool.cond_eq_ite] at hr
    split at hr
    · rename_i hg
      have hg := Nat.eq_of_beq_eq_true hg
      subst hg
      refine ⟨he, fun β w args' ha hh => ?_⟩
      obtain ⟨l⟩ := args'
      cases ha with
      | cons hv ht =>
        cases ht
        cases hv with
        | func _ h1 h2 =>
          rename_i a' c'
          obtain ⟨a'⟩ := a'
          obtain ⟨c'⟩ := c'
          cases h1
          cases h2 with
          | cons hp ht =>
            cases ht
            cases hp with
            | ptr hb =>
              rename_i B O N
              split at hr
              · rename_i hk
                injection hr with hr
                subst hr
                obtain ⟨h0, m', e0, lo, hi, hH, hm⟩ := hh.obj _ _ _ _ _ hb hk
                subst h0
                cases hm
                have hcell : w.cell? ⟨B, 0, none⟩ = some (.map none) := by simp [World.cell?, hH]
                refine (hn B w (hh.low _ _ _ _ hb) hcell).mono ?_
                rintro e w' ⟨q1, q2⟩
                exact ⟨_, _, _, β, rfl, q1, .sliceNil _ _, TnW.ofBelow hh q2⟩
              · rename_i r0 hk
                obtain ⟨h0, m', e0, lo, hi, hH, hm⟩ := hh.obj _ _ _ _ _ hb hk
                subst h0
                cases hm with
                | map hmb =>
                  rename_i R Om Nm
                  have hcell : w.cell? ⟨B, 0, none⟩ = some (.map (some R)) := by simp [World.cell?, hH]
                  split at hr
                  · rename_i es clock hes
                    obtain ⟨es', hR, hE⟩ := hh.obj _ _ _ _ _ hmb hes
                    split at hr
                    · rename_i ks hks
                      obtain ⟨q1, q2, q3, q4⟩ := intKeysA_ok hks hE
                      have hlen : es'.size = (sortI ks).length := by
                        rw [(sortI_perm ks).length_eq, ← q1]; simp
                      have hst : MapKept.Stamped es' clock := ⟨fun x hx => (q2 x hx).1, q3, q4⟩
                      have hC : es'.size ≤ 4294967296 → _ := fun hsz => hc B R es' clock w (hh.low _ _ _ _ hb) hcell hR hsz hst (fun x hx => (q2 x hx).2)
                      split at hr
                      · rename_i hs
                        injection hr with hr
                        subst hr
                        rw [hs] at hlen
                        refine (hC (by rw [hlen]; simp)).mono ?_
                        rintro e w' ⟨v, ss, p1, p2, p3, p4, p5⟩
                        have hss : ss = [] := by
                          have := p2.length_eq
                          rw [List.length_map] at this
                          have h9 : es'.toList.length = 0 := hlen
                          exact List.length_eq_zero_iff.1 (this.trans h9)
                        rw [p4.2 hss] at p1
                        exact ⟨_, _, _, β, rfl, p1, .sliceNil _ _, TnW.ofBelow hh p5⟩
                      · rename_i s hs
                        rw [Bool.cond_eq_ite] at hr
                        split at hr
                        · rename_i hle
                          injection hr with hr
                          subst hr
                          have hle := Nat.le_of_ble_eq_true hle
                          refine (hC (by rw [hlen]; exact hle)).mono ?_
                          rintro e w' ⟨v, ss, p1, p2, p3, p4, p5⟩
                          rw [q1] at p2
                          rw [mergeSort_eq p2] at p3
                          have hsl : ss.length = (sortI ks).length := by rw [p2.length_eq, (sortI_perm ks).length_eq]
                          obtain ⟨p3a, p3b⟩ := p3
                          rcases p3b with ⟨p3b, hz⟩ | ⟨G, cap, cur, z1, z2, z3, z4, z5, z6, z7⟩
                          · exfalso
                            have : sortI ks = [] := List.length_eq_zero_iff.1 (by rw [← hsl]; exact hz)
                            exact hs this
                          · rw [z1] at p1
                            have hG : G < w'.heap.size := by
                              rcases Nat.lt_or_ge G w'.heap.size with hlt | hge
                              · exact hlt
                              · rw [Array.getElem?_eq_none hge] at z3; exact absurd z3 (by simp)
                            refine ⟨_, _, _, β.add h.next (G, 0, cap), rfl, p1, ?_, ⟨Tn.newAt hh _ G cap p5.size p5.block z2 hG ?_, ⟨p5.os, p5.tape, p5.output⟩⟩⟩
                            · have hβ : (β.add h.next (G, 0, cap)) h.next = some (G, 0, cap) := by simp [Inj.add]
                              rw [← hsl]
                              exact .slice hβ z4 (by simp) z4 (.inr ⟨by simp, by simp⟩)
                            · intro β' _
                              refine ⟨cur, t, 0, 0, z3, by rw [z6]; omega, .inl rfl, by simp; omega, ?_⟩
                              intro i v hv
                              simp only [List.getElem?_map, Option.map_eq_some_iff] at hv
                              obtain ⟨x, hx, rfl⟩ := hv
                              have hi : i < (sortI ks).length := by
                                rcases Nat.lt_or_ge i (sortI ks).length with hlt | hge
                                · exact hlt
                                · rw [List.getElem?_eq_none hge] at hx; exact absurd hx (by simp)
                              refine ⟨intV x, ?_, .int _ _, rfl⟩
                              have hz := congrArg (fun l => l[i]?) z7
                              simp only [List.getElem?_map, hx, Option.map_some] at hz
                              rw [List.getElem?_take, if_pos (by omega)] at hz
                              simpa using hz
                        · exact absurd hr (by simp)
                    · exact absurd hr (by simp)
                  · exact absurd hr (by simp)
              · exact absurd hr (by simp)
    · exact absurd hr (by simp)
  · exact absurd hr (by simp)
end Go.AM
namespace Go.AM

def bsZ : Nat → List UInt8
  | 0 => []
  | n + 1 => UInt8.ofNat 0 :: bsZ n

def bsN : Nat → Nat → List UInt8 → List UInt8
  | 0, _, l => l
  | n + 1, x, l => UInt8.ofNat (Nat.mod x 256) :: bsN n (Nat.div x 256) l

def rpt : Nat → AV → List AV → List AV
  | 0, _, l => l
  | n + 1, x, l => x :: rpt n x l

theorem piece (A : Prop) (ha : A) {P : Program} {ck : CallK} {e : Ent} (k : Tr Unit) (hck : CallsOk P ck) (he : A = (ck e.f e.args e.h).all fun q => q.1 = e.r ∧ q.2.mask k = e.h') : EntOk P e :=
  EntOk.of hck (he ▸ ha)
end Go.AM
namespace Go.AM

theorem goes_none {P : Program} (h0 : P.funcs.toList.any Func.goes = false) (f : FuncId) : P.goes f = false := by
  unfold Program.goes
  rw [Bool.or_eq_false_iff]
  constructor
  · rw [List.any_eq_false]
    intro g _
    cases hg : P.funcs[g]? with
    | none => simp
    | some fn =>
      have hm : fn ∈ P.funcs.toList := by
        rw [Array.mem_toList_iff]
        exact Array.mem_of_getElem? hg
      have := List.any_eq_false.1 h0 fn hm
      simpa using this
  · rw [← Array.any_toList, h0, Bool.and_false]

theorem goesBy_none {P : Program} {c : OpenClaim} (h0 : P.funcs.toList.any Func.goes = false) (hs : c.start = .entering) : false = c.goesBy P := by
  unfold OpenClaim.goesBy Program.goesAt Program.goesFrom
  rw [hs]
  cases P.funcNamed c.func with
  | none => rfl
  | some f => simp [goes_none h0 f]
end Go.AM
namespace Go.AM

def Comp.isRet {α : Type} : Comp α → Bool
  | .ret _ => true
  | _ => false

def Comp.val {α : Type} (d : α) : Comp α → α
  | .ret a => a
  | _ => d

theorem Comp.bind_if {α β : Type} (d : α) (c : Comp α) (f : α → Comp β) : c.bind f = if c.isRet = true then f (c.val d) else c.bind f := by
  cases c <;> simp [Comp.isRet, Comp.val]

/-- What an operation comes to, if it comes to something. -/
theorem ops_nil (cf : Cfg) (ck : CallK) (ops : Array Oper) (fr : Fr) (h : AHeap) : execOps cf ck ops [] fr h = .ret (fr, h) := rfl

theorem ops_cons (cf : Cfg) (ck : CallK) (ops : Array Oper) (o : Oper) (rest : List Oper) (fr : Fr) (h : AHeap) : execOps cf ck ops (o :: rest) fr h =
    if wantedA ops fr o = some true then
      if (stepOp cf ck (ev fr) h o.op).isRet = true then execOps cf ck ops rest (putD fr o.dst ((stepOp cf ck (ev fr) h o.op).val (.dead, h)).1) ((stepOp cf ck (ev fr) h o.op).val (.dead, h)).2
      else (stepOp cf ck (ev fr) h o.op).bind fun p => execOps cf ck ops rest (putD fr o.dst p.1) p.2
    else if wantedA ops fr o = some false then execOps cf ck ops rest (putD fr o.dst (.tuple [])) h
    else .fail "guard" := by
  conv => lhs; unfold execOps
  cases wantedA ops fr o with
  | none => simp
  | some b =>
    cases b
    · simp
    · simp only [if_true]
      exact Comp.bind_if _ _ _

theorem exec_region (cf : Cfg) (ck : CallK) (an : Ann) (blk id : Nat) (ops : Array Oper) (fr : Fr) (h : AHeap) : exec cf ck an blk (.region id ops false) fr h =
    if (execOps cf ck ops ops.toList fr h).isRet = true then .ret (.normal, Fr.keep an.keep ((execOps cf ck ops ops.toList fr h).val (fr, h)).1, ((execOps cf ck ops ops.toList fr h).val (fr, h)).2)
    else (execOps cf ck ops ops.toList fr h).bind fun p => .ret (.normal, Fr.keep an.keep p.1, p.2) := by
  conv => lhs; unfold exec
  exact Comp.bind_if _ _ _

theorem wanted_none (ops : Array Oper) (fr : Fr) (d : Option Nat) (op : Op) (t : TypeId) (pos : String) (after : Array Edge) : wantedA ops fr ⟨d, op, t, pos, after, none⟩ = some true := rfl

@[simp] theorem isRet_ret {α : Type} (a : α) : (Comp.ret a).isRet = true := rfl
@[simp] theorem val_ret {α : Type} (d a : α) : (Comp.ret a).val d = a := rfl
end Go.AM
namespace Go.AM
open Go
def cL : Code → Code
  | .seq a _ => a
  | c => c
def cR : Code → Code
  | .seq _ b => b
  | c => c
def cB : Code → Code
  | .block _ b => b
  | .loop b => b
  | c => c
def bodyOf (f : Func) : Code := match f.body with | some c => c | none => .skip
theorem get_keepM (m : Nat) (fr : Fr) (t : Nat) : (Fr.keep (some m) fr).get t = if m.testBit t then fr.get t else .dead := by
  simp only [Fr.keep, Fr.keepM_eq]
  exact Fr.get_filter (fun n => m.testBit n) fr t

/-- The sum's table of four bits. -/
def tab16 (n : Nat) : Nat :=
  match n with
  | 0 => 0 | 1 => 498536548 | 2 => 997073096 | 3 => 651767980 | 4 => 1994146192 | 5 => 1802195444 | 6 => 1303535960 | 7 => 1342533948
  | 8 => 3988292384 | 9 => 4027552580 | 10 => 3604390888 | 11 => 3412177804 | 12 => 2607071920 | 13 => 2262029012 | 14 => 2685067896 | _ => 3183342108
def tabAV : List AV := [.int .u32 (.ofNat 0), .int .u32 (.ofNat 498536548), .int .u32 (.ofNat 997073096), .int .u32 (.ofNat 651767980), .int .u32 (.ofNat 1994146192), .int .u32 (.ofNat 1802195444), .int .u32 (.ofNat 1303535960), .int .u32 (.ofNat 1342533948),
  .int .u32 (.ofNat 3988292384), .int .u32 (.ofNat 4027552580), .int .u32 (.ofNat 3604390888), .int .u32 (.ofNat 3412177804), .int .u32 (.ofNat 2607071920), .int .u32 (.ofNat 2262029012), .int .u32 (.ofNat 2685067896), .int .u32 (.ofNat 3183342108)]
theorem tab_lt : ∀ k, tab16 k < 4294967296 := by
  intro k; unfold tab16; split <;> omega
theorem tab_get (k : Nat) (h : k < 16) : tabAV[k]? = some (.int .u32 (.ofNat (tab16 k))) := by
  have : k = 0 ∨ k = 1 ∨ k = 2 ∨ k = 3 ∨ k = 4 ∨ k = 5 ∨ k = 6 ∨ k = 7 ∨ k = 8 ∨ k = 9 ∨ k = 10 ∨ k = 11 ∨ k = 12 ∨ k = 13 ∨ k = 14 ∨ k = 15 := by omega
  rcases this with h | h | h | h | h | h | h | h | h | h | h | h | h | h | h | h <;> subst h <;> rfl
def crcHalf (x : Nat) : Nat := Nat.xor (Nat.div x 16) (tab16 (Nat.mod x 16))
def crcByte (x b : Nat) : Nat := crcHalf (crcHalf (Nat.xor x b))
theorem xor_lt {a b : Nat} (h : a < 4294967296) (k : b < 4294967296) : Nat.xor a b < 4294967296 := Nat.xor_lt_two_pow (n := 32) h k
theorem crcHalf_lt {x : Nat} (h : x < 4294967296) : crcHalf x < 4294967296 := xor_lt (Nat.lt_of_le_of_lt (Nat.div_le_self _ _) h) (tab_lt _)

theorem op_xor {a b : Nat} (h : a < 4294967296) (k : b < 4294967296) : intOp .xor .u32 (.ofNat a) (.ofNat b) = some (.int .u32 (.ofNat (Nat.xor a b))) := by
  simp only [intOp, wrapF, toU, modN, fromU, Nat.mod_eq_of_lt h, Nat.mod_eq_of_lt k, Nat.mod_eq_of_lt (xor_lt h k)]
theorem op_and {a : Nat} (h : a < 4294967296) : intOp .and .u32 (.ofNat a) 15 = some (.int .u32 (.ofNat (Nat.mod a 16))) := by
  have h1 : Nat.land a 15 = Nat.mod a 16 := Nat.and_two_pow_sub_one_eq_mod a 4
  have h2 : Nat.mod a 16 < 4294967296 := by have := Nat.mod_lt a (show 16 > 0 by omega); show a % 16 < _; omega
  show intOp .and .u32 (.ofNat a) (.ofNat 15) = _
  simp only [intOp, wrapF, toU, modN, fromU, Nat.mod_eq_of_lt h, show (15 : Nat) % 4294967296 = 15 from rfl, h1, Nat.mod_eq_of_lt h2]
theorem op_shr {a : Nat} : shiftOp .shr .u32 (.ofNat a) 4 = some (.int .u32 (.ofNat (Nat.div a 16))) := by
  have h : (Int.ofNat a).fdiv 16 = Int.ofNat (Nat.div a 16) := by
    rw [Int.fdiv_eq_ediv_of_nonneg _ (by decide)]
    rfl
  show some (AV.int .u32 ((Int.ofNat a).fdiv 16)) = _
  rw [h]
theorem op_lss (a b : Nat) : intOp .lss .i64 (.ofNat a) (.ofNat b) = some (.bool (decide (a < b))) := by
  rw [intOp_eq]
  simp [intOpS]
theorem op_inc {a : Nat} (h : a < 4611686018427387904) : intOp .add .i64 (.ofNat a) 1 = some (.int .i64 (.ofNat (a + 1))) := by
  rw [intOp_eq]
  simp only [intOpS, Option.some.injEq, AV.int.injEq, true_and]
  simp [IntKind.wrap, IntKind.bits, IntKind.signed]
  omega
theorem cv_u8 (b : UInt8) : wrapF .u32 (b.toNat : Int) = .ofNat b.toNat := by
  have := b.toNat_lt
  rw [wrapF_eq]
  simp [IntKind.wrap, IntKind.bits, IntKind.signed]
  omega
theorem u8_lt (b : UInt8) : b.toNat < 4294967296 := by have := b.toNat_lt; omega

theorem idx_nat (k : IntKind) (n : Nat) : idxOf (.int k (.ofNat n)) = some n := by simp [idxOf]
def crcL : List UInt8 → Nat → Nat
  | [], x => x
  | b :: s, x => crcL s (crcByte x b.toNat)

theorem crcByte_lt {x : Nat} (b : UInt8) (h : x < 4294967296) : crcByte x b.toNat < 4294967296 := crcHalf_lt (crcHalf_lt (xor_lt h (u8_lt b)))
theorem crcL_lt : ∀ (s : List UInt8) {x : Nat}, x < 4294967296 → crcL s x < 4294967296
  | [], _, h => h
  | b :: s, _, h => crcL_lt s (crcByte_lt b h)

def crcLs : List AV → Nat → Option Nat
  | [], x => some x
  | .str s :: l, x => bif Nat.ble 100000 s.length then none else crcLs l (crcL s x)
  | _, _ => none

theorem tab_len : tabAV.length = 16 := rfl
theorem tab_put : putAt [AV.int IntKind.u32 0, AV.int IntKind.u32 0, AV.int IntKind.u32 0, AV.int IntKind.u32 0, AV.int IntKind.u32 0, AV.int IntKind.u32 0, AV.int IntKind.u32 0, AV.int IntKind.u32 0, AV.int IntKind.u32 0, AV.int IntKind.u32 0, AV.int IntKind.u32 0, AV.int IntKind.u32 0, AV.int IntKind.u32 0, AV.int IntKind.u32 0, AV.int IntKind.u32 0, AV.int IntKind.u32 0] 0 tabAV = tabAV := rfl

/-- The sum of texts. -/
def crcP : List AV → AHeap → Option (AV × AHeap) := fun a h =>
  match a with
  | [.slice (some (b, o)) n _ 1 _] =>
    match h.get b with
    | some (.cells cs _) =>
      bif Nat.ble (o + n) cs.length && Nat.ble (Nat.succ n) 100000 && Nat.ble (Nat.succ b) h.next then
        match crcLs ((cs.drop o).take n) 4294967295 with
        | some r => some (.int .u32 (.ofNat (Nat.xor r 4294967295)), h)
        | none => none
      else none
    | _ => none
  | _ => none

def halfP : List AV → AHeap → Option (AV × AHeap) := fun a h =>
  match a with
  | [] => some (.agg tabAV, h)
  | _ => none

def sameC (v : AV) : Comp (AV × AHeap) → Bool
  | .ret (u, _) => AV.same u v
  | _ => false

def dropC (c : UInt8) : List UInt8 → List UInt8
  | [] => []
  | b :: l => bif Nat.beq b.toNat c.toNat then dropC c l else b :: l

def revL : List UInt8 → List UInt8 → List UInt8
  | [], r => r
  | b :: l, r => revL l (b :: r)

theorem revL_eq : ∀ l r, revL l r = l.reverse ++ r
  | [], r => rfl
  | b :: l, r => by simp [revL, revL_eq l]

/-- A text without the bytes c at its end. -/
def trimR (c : UInt8) (s : List UInt8) : List UInt8 := revL (dropC c (revL s [])) []

theorem u8_beq (a b : UInt8) : Nat.beq a.toNat b.toNat = decide (a = b) := by
  rw [Bool.eq_iff_iff, Nat.beq_eq]
  simp [UInt8.toNat_inj]

theorem trimR_nil (c : UInt8) : trimR c [] = [] := rfl
theorem trimR_end (c : UInt8) (s : List UInt8) : trimR c (s ++ [c]) = trimR c s := by
  simp [trimR, revL_eq, dropC]
theorem trimR_stay (c b : UInt8) (s : List UInt8) (h : b ≠ c) : trimR c (s ++ [b]) = s ++ [b] := by
  simp [trimR, revL_eq, dropC, u8_beq, h]

theorem op_dec {a : Nat} (h : a + 1 < 4611686018427387904) : intOp .sub .i64 (.ofNat (a + 1)) 1 = some (.int .i64 (.ofNat a)) := by
  rw [intOp_eq]
  simp only [intOpS, Option.some.injEq, AV.int.injEq, true_and]
  simp [IntKind.wrap, IntKind.bits, IntKind.signed]
  omega
theorem op_gtr (a : Nat) : intOp .gtr .i64 (.ofNat a) 0 = some (.bool (decide (0 < a))) := by
  rw [intOp_eq]
  simp [intOpS]
theorem op_eql (a b : UInt8) : intOp .eql .u8 (a.toNat : Int) (b.toNat : Int) = some (.bool (decide (a = b))) := by
  rw [intOp_eq]
  simp only [intOpS, Option.some.injEq, AV.bool.injEq]
  rw [Bool.eq_iff_iff]
  simp only [beq_iff_eq, decide_eq_true_eq]
  exact ⟨fun h => UInt8.toNat_inj.1 (Int.ofNat.inj h), fun h => by rw [h]⟩

theorem nat_of (k : IntKind) (n : Nat) : natOf (.int k (.ofNat n)) = some n := by simp [natOf]

def trimP : List AV → AHeap → Option (AV × AHeap) := fun a h =>
  match a with
  | [.str s, .int .u8 (.ofNat c)] => bif Nat.ble (Nat.succ s.length) 100000 && Nat.ble c 255 then some (.str (trimR (UInt8.ofNat c) s), h) else none
  | _ => none

end Go.AM
