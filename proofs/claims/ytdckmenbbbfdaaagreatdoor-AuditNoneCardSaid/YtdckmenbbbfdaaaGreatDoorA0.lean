/-
An abstract machine, and that its runs are runs of the program.
-/
import Derived.Calls
import Derived.LoopN
import Derived.Orders
import Derived.Laws.Sem
import Derived.Laws.Cells
import Derived.Laws.World
import Derived.Laws.Strings
import Derived.Laws.StructEq
import Derived.Laws.BytesArg
import Derived.Lib.Strings
namespace Go.AM

/-- A value, its addresses in the machine's own numbering; `dead` says nothing. -/
inductive AV where
  | dead
  | bool (b : Bool)
  | int (k : IntKind) (n : Int)
  | str (s : List UInt8)
  | ptr (a : Option (Nat × Nat))
  | slice (a : Option (Nat × Nat)) (len cap sz : Nat) (ex : Bool)
  | map (r : Option Nat)
  | func (fn : Fn) (first captured : List AV)
  | nilFunc
  | iface (t : TypeId) (v : AV)
  | nilIface
  | agg (cs : List AV)
  | tuple (vs : List AV)
  deriving Inhabited

mutual
/-- Are two values the same? (`false` may also mean: not looked at.) -/
def AV.same : AV → AV → Bool
  | .dead, .dead => true
  | .bool a, .bool b => a == b
  | .int j a, .int k b => decide (j = k) && decide (a = b)
  | .str a, .str b => decide (a = b)
  | .ptr a, .ptr b => decide (a = b)
  | .slice a l c s e, .slice a' l' c' s' e' => decide (a = a') && decide (l = l') && decide (c = c') && decide (s = s') && (e == e')
  | .map a, .map b => decide (a = b)
  | .nilFunc, .nilFunc => true
  | .nilIface, .nilIface => true
  | .iface t v, .iface u w => decide (t = u) && AV.same v w
  | .agg a, .agg b => AV.sames a b
  | .tuple a, .tuple b => AV.sames a b
  | _, _ => false
def AV.sames : List AV → List AV → Bool
  | [], [] => true
  | a :: as, b :: bs => AV.same a b && AV.sames as bs
  | _, _ => false
end

mutual
theorem AV.same_eq : ∀ {a b : AV}, AV.same a b = true → a = b
  | .dead, b, h => by cases b <;> simp_all [AV.same]
  | .bool a, b, h => by cases b <;> simp_all [AV.same]
  | .int j a, b, h => by cases b <;> simp_all [AV.same]
  | .str a, b, h => by cases b <;> simp_all [AV.same]
  | .ptr a, b, h => by cases b <;> simp_all [AV.same]
  | .slice a l c s e, b, h => by cases b <;> simp_all [AV.same]
  | .map a, b, h => by cases b <;> simp_all [AV.same]
  | .func f a c, b, h => by cases b <;> simp_all [AV.same]
  | .nilFunc, b, h => by cases b <;> simp_all [AV.same]
  | .nilIface, b, h => by cases b <;> simp_all [AV.same]
  | .iface t v, b, h => by
    cases b <;> simp [AV.same] at h ⊢
    exact ⟨h.1, AV.same_eq h.2⟩
  | .agg a, b, h => by
    cases b <;> simp [AV.same] at h ⊢
    exact AV.sames_eq h
  | .tuple a, b, h => by
    cases b <;> simp [AV.same] at h ⊢
    exact AV.sames_eq h
theorem AV.sames_eq : ∀ {a b : List AV}, AV.sames a b = true → a = b
  | [], b, h => by cases b <;> simp_all [AV.sames]
  | x :: xs, b, h => by
    cases b <;> simp [AV.sames] at h ⊢
    exact ⟨AV.same_eq h.1, AV.sames_eq h.2⟩
end

/-- An object of the machine's memory. -/
inductive AObj where
  | cells (cs : List AV) (fz : Bool)
  | map (es : List (AV × AV × Nat)) (clock : Nat)
  | miter (m : Option Nat) (since : Nat) (seen : List Nat) (last : Nat)
  | kbox (m : Option Nat)
  | gone
  deriving Inhabited

def AObj.live : AObj → Bool
  | .gone => false
  | _ => true

def sameEntries : List (AV × AV × Nat) → List (AV × AV × Nat) → Bool
  | [], [] => true
  | (a, b, n) :: l, (c, d, m) :: r => AV.same a c && AV.same b d && decide (n = m) && sameEntries l r
  | _, _ => false

def AObj.same : AObj → AObj → Bool
  | .cells a f, .cells b g => AV.sames a b && (f == g)
  | .map a c, .map b d => sameEntries a b && decide (c = d)
  | .gone, .gone => true
  | _, _ => false

/-- A tree of places. -/
inductive Tr (α : Type) where
  | leaf
  | node (l : Tr α) (v : Option α) (r : Tr α)

theorem bcond {α : Type} (a b : Nat) (x y : α) : (bif Nat.beq a b then x else y) = if a = b then x else y := by
  rw [Bool.cond_eq_ite]
  by_cases h : a = b
  · rw [if_pos h, if_pos (by rw [h]; exact Nat.beq_refl b)]
  · rw [if_neg h, if_neg (fun e => h (Nat.eq_of_beq_eq_true e))]
theorem bcondlt {α : Type} (a b : Nat) (x y : α) : (bif Nat.ble (Nat.succ a) b then x else y) = if a < b then x else y := by
  rw [Bool.cond_eq_ite]
  by_cases h : a < b
  · rw [if_pos h, if_pos (by rw [Nat.ble_eq]; exact h)]
  · rw [if_neg h, if_neg (fun e => h (by rw [Nat.ble_eq] at e; exact e))]
theorem nmod (a b : Nat) : Nat.mod a b = a % b := rfl
theorem ndiv (a b : Nat) : Nat.div a b = a / b := rfl
theorem nsub (a b : Nat) : Nat.sub a b = a - b := rfl

def Tr.get {α : Type} : Tr α → Nat → Option α
  | .leaf, _ => none
  | .node l v r, n => bif Nat.beq n 0 then v else bif Nat.beq (Nat.mod n 2) 1 then l.get (Nat.div n 2) else r.get (Nat.sub (Nat.div n 2) 1)

def Tr.setF {α : Type} (x : α) : Nat → Tr α → Nat → Tr α
  | 0, t, _ => t
  | f + 1, .leaf, n =>
    bif Nat.beq n 0 then .node .leaf (some x) .leaf
    else bif Nat.beq (Nat.mod n 2) 1 then .node (Tr.setF x f .leaf (Nat.div n 2)) none .leaf
    else .node .leaf none (Tr.setF x f .leaf (Nat.sub (Nat.div n 2) 1))
  | f + 1, .node l v r, n =>
    bif Nat.beq n 0 then .node l (some x) r
    else bif Nat.beq (Nat.mod n 2) 1 then .node (Tr.setF x f l (Nat.div n 2)) v r
    else .node l v (Tr.setF x f r (Nat.sub (Nat.div n 2) 1))

def Tr.set {α : Type} (t : Tr α) (n : Nat) (x : α) : Tr α := Tr.setF x (n + 1) t n

theorem Tr.get_setF_same {α : Type} (x : α) : ∀ (f : Nat) (t : Tr α) (n : Nat), n < f → (Tr.setF x f t n).get n = some x := by
  intro f
  induction f with
  | zero => intro t n h; omega
  | succ f ih =>
    intro t n h
    cases t <;> simp only [Tr.setF, bcond, nmod, ndiv, nsub] <;> (repeat' split) <;> simp_all [Tr.get, bcond, nmod, ndiv] <;> (exact ih _ _ (by omega))

theorem Tr.get_setF_other {α : Type} (x : α) : ∀ (f : Nat) (t : Tr α) (n m : Nat), n ≠ m → (Tr.setF x f t n).get m = t.get m := by
  intro f
  induction f with
  | zero => intro t n m h; rfl
  | succ f ih =>
    intro t n m h
    cases t with
    | leaf =>
      simp only [Tr.setF, bcond, nmod, ndiv, nsub]
      split
      · simp only [Tr.get, bcond, nmod]; split
        · omega
        · split <;> rfl
      · split
        · simp only [Tr.get, bcond, nmod, ndiv]; split
          · rfl
          · split
            · rw [ih _ _ _ (by omega)]; rfl
            · rfl
        · simp only [Tr.get, bcond, nmod, ndiv, nsub]; split
          · rfl
          · split
            · rfl
            · rw [ih _ _ _ (by omega)]; rfl
    | node l v r =>
      simp only [Tr.setF, bcond, nmod, ndiv, nsub]
      split
      · simp only [Tr.get, bcond, nmod, ndiv, nsub]; split
        · omega
        · rfl
      · split
        · simp only [Tr.get, bcond, nmod, ndiv, nsub]; split
          · rfl
          · split
            · rw [ih _ _ _ (by omega)]
            · rfl
        · simp only [Tr.get, bcond, nmod, ndiv, nsub]; split
          · rfl
          · split
            · rfl
            · rw [ih _ _ _ (by omega)]

structure AHeap where
  next : Nat
  tr : Tr AObj

def AHeap.empty : AHeap := ⟨0, .leaf⟩
def AHeap.get (h : AHeap) (b : Nat) : Option AObj := h.tr.get b
def AHeap.set (h : AHeap) (b : Nat) (o : AObj) : AHeap := ⟨h.next, h.tr.set b o⟩
def AHeap.push (h : AHeap) (o : AObj) : AHeap := ⟨h.next + 1, h.tr.set h.next o⟩

theorem AHeap.get_set (h : AHeap) (b : Nat) (o : AObj) (c : Nat) : (h.set b o).get c = if c = b then some o else h.get c := by
  unfold AHeap.get AHeap.set Tr.set
  split
  · rename_i e; subst e; exact Tr.get_setF_same _ _ _ _ (by omega)
  · exact Tr.get_setF_other _ _ _ _ _ (by omega)

theorem AHeap.get_push (h : AHeap) (o : AObj) (c : Nat) : (h.push o).get c = if c = h.next then some o else h.get c := by
  unfold AHeap.get AHeap.push Tr.set
  split
  · rename_i e; subst e; exact Tr.get_setF_same _ _ _ _ (by omega)
  · exact Tr.get_setF_other _ _ _ _ _ (by omega)

@[simp] theorem AHeap.next_set (h : AHeap) (b : Nat) (o : AObj) : (h.set b o).next = h.next := rfl
@[simp] theorem AHeap.next_push (h : AHeap) (o : AObj) : (h.push o).next = h.next + 1 := rfl

/-- What a computation comes to; `ask n`: Go leaves open which of n it is; `need p`: p is to be shown. -/
inductive Comp (α : Type) where
  | ret (a : α)
  | ask (n : Nat) (k : Nat → Comp α)
  | fail (why : String)
  | need (p : Prop) (c : Comp α)

namespace Comp
def bind {α β : Type} : Comp α → (α → Comp β) → Comp β
  | .ret a, f => f a
  | .ask n k, f => .ask n fun i => (k i).bind f
  | .fail w, _ => .fail w
  | .need p c, f => .need p (c.bind f)

def all {α : Type} (Q : α → Prop) : Comp α → Prop
  | .ret a => Q a
  | .ask n k => ∀ i, i < n → (k i).all Q
  | .fail _ => False
  | .need p c => p ∧ c.all Q

def of {α : Type} (why : String) : Option α → Comp α
  | some a => .ret a
  | none => .fail why

@[simp] theorem bind_ret {α β : Type} (a : α) (f : α → Comp β) : (Comp.ret a).bind f = f a := rfl
@[simp] theorem of_some {α : Type} (why : String) (a : α) : Comp.of why (some a) = .ret a := rfl
@[simp] theorem all_ret {α : Type} (Q : α → Prop) (a : α) : (Comp.ret a).all Q = Q a := rfl

theorem all_bind {α β : Type} {Q : β → Prop} {f : α → Comp β} : ∀ {c : Comp α}, (c.bind f).all Q ↔ c.all fun a => (f a).all Q
  | .ret a => Iff.rfl
  | .ask n k => by
    simp only [bind, all]
    exact ⟨fun h i hi => all_bind.1 (h i hi), fun h i hi => all_bind.2 (h i hi)⟩
  | .fail w => Iff.rfl
  | .need p c => by
    simp only [bind, all]
    exact ⟨fun h => ⟨h.1, all_bind.1 h.2⟩, fun h => ⟨h.1, all_bind.2 h.2⟩⟩

theorem all_mono {α : Type} {Q R : α → Prop} (h : ∀ a, Q a → R a) : ∀ {c : Comp α}, c.all Q → c.all R
  | .ret a, hc => h a hc
  | .ask _ _, hc => fun i hi => all_mono h (hc i hi)
  | .fail _, hc => hc
  | .need _ _, hc => ⟨hc.1, all_mono h hc.2⟩

theorem all_of {α : Type} {Q : α → Prop} {why : String} {o : Option α} : (Comp.of why o).all Q ↔ ∃ a, o = some a ∧ Q a := by
  cases o <;> simp [of, all]
end Comp

/-- A frame: slots and what they hold; by rising slots. -/
abbrev Fr := List (Nat × AV)

def Fr.get : Fr → Nat → AV
  | [], _ => .dead
  | (k, v) :: l, n => bif Nat.beq k n then v else Fr.get l n

def Fr.put : Fr → Nat → AV → Fr
  | [], n, v => [(n, v)]
  | (k, u) :: l, n, v => bif Nat.ble (Nat.succ n) k then (n, v) :: (k, u) :: l else bif Nat.beq n k then (n, v) :: l else (k, u) :: Fr.put l n v

def Fr.keepM (m : Nat) : Fr → Fr
  | [] => []
  | (k, v) :: l => bif Nat.beq (Nat.land (Nat.shiftRight m k) 1) 1 then (k, v) :: Fr.keepM m l else Fr.keepM m l

def Fr.keep (ks : Option Nat) (fr : Fr) : Fr :=
  match ks with
  | none => fr
  | some m => Fr.keepM m fr

theorem Fr.keepM_eq (m : Nat) : ∀ fr : Fr, Fr.keepM m fr = fr.filter fun p => m.testBit p.1
  | [] => rfl
  | (k, v) :: l => by
    have hb : Nat.beq (Nat.land (Nat.shiftRight m k) 1) 1 = m.testBit k := by
      have h1 : Nat.land (Nat.shiftRight m k) 1 = (m >>> k) &&& 1 := rfl
      rw [h1, Nat.and_one_is_mod, Nat.testBit, Nat.one_and_eq_mod_two]
      rw [Bool.eq_iff_iff, Nat.beq_eq]
      simp
    simp only [Fr.keepM, List.filter_cons, hb, Bool.cond_eq_ite, Fr.keepM_eq m l]

def inL (k : Nat) : List Nat → Bool
  | [] => false
  | x :: l => bif Nat.beq x k then true else inL k l

theorem inL_eq (k : Nat) : ∀ l : List Nat, inL k l = l.contains k
  | [] => rfl
  | x :: l => by
    simp only [inL, List.contains_cons, inL_eq k l, bcond]
    by_cases h : x = k
    · subst h; simp
    · rw [if_neg h]
      have : (k == x) = false := by simp; exact fun e => h e.symm
      rw [this]; simp

def Fr.keepL (l : List Nat) : Fr → Fr
  | [] => []
  | (k, v) :: r => bif inL k l then (k, v) :: Fr.keepL l r else Fr.keepL l r

theorem Fr.keepL_eq (l : List Nat) : ∀ fr : Fr, Fr.keepL l fr = fr.filter fun p => l.contains p.1
  | [] => rfl
  | (k, v) :: r => by simp only [Fr.keepL, List.filter_cons, inL_eq, Bool.cond_eq_ite, Fr.keepL_eq l r]

/-- Types, as far as the machine looks at them. -/
inductive TD where
  | bool | int (k : IntKind) | str | ptr (e : TypeId) | slice (e : TypeId) | array (n : Nat) (e : TypeId) | map (k e : TypeId)
  | struct (fs : List (Nat × TypeId)) | func | iface | other
  deriving Inhabited

structure TI where
  d : TD
  size : Nat
  bytes : Nat
  zero : AV
  deriving Inhabited

def TD.isAgg : TD → Bool
  | .struct _ | .array _ _ => true
  | _ => false

structure Cfg where
  ty : TypeId → Option TI
  code : FuncId → Option Func
  mth : TypeId → String → Option Method
  flat : TypeId → Bool
  keep : FuncId → Option Nat
  lkeep : FuncId → Nat → Option Nat
  dr : FuncId → Nat → Option (List (Nat × List Nat))
  prim : FuncId → Option (List AV → AHeap → Option (Comp (AV × AHeap)))
  lf : Nat

def cellAV : Value → AV
  | .bool b => .bool b
  | .int k n => .int k n
  | .string s => .str s.data.toList
  | .pointer none => .ptr none
  | .slice none 0 0 => .slice none 0 0 0 true
  | .map none => .map none
  | .nilFunc => .nilFunc
  | .nilIface => .nilIface
  | _ => .dead

def constAV : Value → AV
  | .agg cs => if cs.toList.all (fun c => c.oneCell') then .agg (cs.toList.map cellAV) else .dead
  | .tuple _ => .dead
  | v => cellAV v

def ev (fr : Fr) : Operand → AV
  | .tmp t => fr.get t
  | .const v => constAV v
  | .global _ => .dead
  | .func f => .func (.func f) [] []

/-- The cells of a value; none of one that is not known. -/
def AV.cells : AV → Option (List AV)
  | .dead | .tuple _ => none
  | .agg cs => some cs
  | v => some [v]

def putAt : List AV → Nat → List AV → List AV
  | cs, _, [] => cs
  | cs, i, v :: vs => putAt (cs.set i v) (i + 1) vs

def ldCells (h : AHeap) (a : Nat × Nat) (n : Nat) : Option (List AV) :=
  match h.get a.1 with
  | some (.cells cs _) => if a.2 + n ≤ cs.length then some ((cs.drop a.2).take n) else none
  | _ => none

def stCells (h : AHeap) (a : Nat × Nat) (vs : List AV) : Option AHeap :=
  match h.get a.1 with
  | some (.cells cs fz) => if a.2 + vs.length ≤ cs.length then some (h.set a.1 (.cells (putAt cs a.2 vs) fz)) else none
  | _ => none

/-- The value that a variable of a type holds. -/
def ldVar (i : TI) (h : AHeap) (a : Nat × Nat) : Option AV :=
  match h.get a.1 with
  | some (.cells cs _) =>
    if i.d.isAgg then (if a.2 + i.size ≤ cs.length then some (.agg ((cs.drop a.2).take i.size)) else none)
    else cs[a.2]?
  | _ => none

def stVar (i : TI) (h : AHeap) (a : Nat × Nat) (v : AV) : Option AHeap :=
  match v.cells with
  | some cs => if cs.length = i.size then stCells h a cs else none
  | none => none

def semPure : Sem Value → Option AV
  | .pure v => some (cellAV v)
  | _ => none

def strOp (op : BinOp) (x y : List UInt8) : Option AV :=
  match op with
  | .add => if x.length + y.length ≤ 4611686018427387904 then some (.str (x ++ y)) else none
  | .eql => some (.bool (x == y))
  | .neq => some (.bool (!(x == y)))
  | .lss => some (.bool (Op.bytesLess x y))
  | .leq => some (.bool (Op.bytesLess x y || x == y))
  | .gtr => some (.bool (!(Op.bytesLess x y || x == y)))
  | .geq => some (.bool (!Op.bytesLess x y))
  | _ => none

def intOpS (op : BinOp) (k : IntKind) (a b : Int) : Option AV :=
  match op with
  | .add => some (.int k (k.wrap (a + b)))
  | .sub => some (.int k (k.wrap (a - b)))
  | .mul => some (.int k (k.wrap (a * b)))
  | .quo => if b = 0 then none else some (.int k (k.wrap (a.tdiv b)))
  | .rem => if b = 0 then none else some (.int k (a.tmod b))
  | .and => some (.int k (k.wrap ((BitVec.ofInt k.bits a &&& BitVec.ofInt k.bits b).toNat)))
  | .or => some (.int k (k.wrap ((BitVec.ofInt k.bits a ||| BitVec.ofInt k.bits b).toNat)))
  | .xor => some (.int k (k.wrap ((BitVec.ofInt k.bits a ^^^ BitVec.ofInt k.bits b).toNat)))
  | .andNot => some (.int k (k.wrap ((BitVec.ofInt k.bits a &&& ~~~BitVec.ofInt k.bits b).toNat)))
  | .eql => some (.bool (a == b))
  | .neq => some (.bool (a != b))
  | .lss => some (.bool (decide (a < b)))
  | .leq => some (.bool (decide (a ≤ b)))
  | .gtr => some (.bool (decide (a > b)))
  | .geq => some (.bool (decide (a ≥ b)))
  | _ => none

def shiftOpS (op : BinOp) (k : IntKind) (a b : Int) : Option AV :=
  if b < 0 then none else
  match op with
  | .shl => some (.int k (k.wrap (a * 2 ^ (min b.toNat k.bits))))
  | .shr => some (.int k (a.fdiv (2 ^ (min b.toNat k.bits))))
  | _ => none

def modN : IntKind → Nat
  | .i8 | .u8 => 256
  | .i16 | .u16 => 65536
  | .i32 | .u32 => 4294967296
  | .i64 | .u64 => 18446744073709551616

/-- The bits of a number. -/
def toU (k : IntKind) : Int → Nat
  | .ofNat m => m % modN k
  | .negSucc m => modN k - 1 - m % modN k

def fromS (half top r : Nat) : Int := bif Nat.ble half r then .negSucc (top - r) else .ofNat r

theorem fromS_eq (half top r : Nat) : fromS half top r = if half ≤ r then -((top - r : Nat) + 1 : Int) else (r : Int) := by
  unfold fromS
  rw [Bool.cond_eq_ite]
  by_cases h : half ≤ r
  · rw [if_pos h, if_pos (by rw [Nat.ble_eq]; exact h), Int.negSucc_eq]
  · rw [if_neg h, if_neg (fun e => h (by rw [Nat.ble_eq] at e; exact e))]; rfl

/-- The number of bits. -/
def fromU (k : IntKind) (r : Nat) : Int :=
  match k with
  | .i8 => fromS 128 255 r
  | .i16 => fromS 32768 65535 r
  | .i32 => fromS 2147483648 4294967295 r
  | .i64 => fromS 9223372036854775808 18446744073709551615 r
  | _ => .ofNat r

def wrapF (k : IntKind) (n : Int) : Int := fromU k (toU k n)

theorem modN_eq (k : IntKind) : modN k = 2 ^ k.bits := by cases k <;> rfl

theorem toU_mod (k : IntKind) (n : Int) : ((toU k n : Nat) : Int) = n % (modN k : Int) := by
  have hp : 0 < modN k := by cases k <;> decide
  cases n with
  | ofNat m => rfl
  | negSucc m =>
    have h2 : m % modN k < modN k := Nat.mod_lt _ hp
    simp only [toU]
    rw [Int.negSucc_emod _ (by omega)]
    omega

theorem wrapF_eq (k : IntKind) (n : Int) : wrapF k n = k.wrap n := by
  have h := toU_mod k n
  unfold wrapF
  generalize toU k n = r at h
  cases k <;> simp only [fromU, fromS_eq, modN] at h ⊢ <;> simp [IntKind.wrap, IntKind.bits, IntKind.signed] <;> (repeat' split) <;> omega

def ltI : Int → Int → Bool
  | .ofNat x, .ofNat y => Nat.blt x y
  | .ofNat _, .negSucc _ => false
  | .negSucc _, .ofNat _ => true
  | .negSucc x, .negSucc y => Nat.blt y x

theorem ltI_eq (a b : Int) : ltI a b = decide (a < b) := by
  cases a <;> cases b <;> simp only [ltI, Nat.blt, Int.negSucc_eq] <;> rw [Bool.eq_iff_iff] <;> simp <;> omega

def eqI : Int → Int → Bool
  | .ofNat x, .ofNat y => Nat.beq x y
  | .negSucc x, .negSucc y => Nat.beq x y
  | _, _ => false

theorem eqI_eq (a b : Int) : eqI a b = (a == b) := by
  cases a <;> cases b <;> simp only [eqI, Int.negSucc_eq] <;> rw [Bool.eq_iff_iff] <;> simp <;> omega

theorem toU_eq (k : IntKind) (a : Int) : (BitVec.ofInt k.bits a).toNat = toU k a := by
  rw [BitVec.toNat_ofInt, ← modN_eq, ← toU_mod]
  simp

def intOp (op : BinOp) (k : IntKind) (a b : Int) : Option AV :=
  match op with
  | .add => some (.int k (wrapF k (a + b)))
  | .sub => some (.int k (wrapF k (a - b)))
  | .mul => some (.int k (wrapF k (a * b)))
  | .quo => bif eqI b 0 then none else some (.int k (wrapF k (a.tdiv b)))
  | .rem => bif eqI b 0 then none else some (.int k (a.tmod b))
  | .and => some (.int k (wrapF k (.ofNat (Nat.land (toU k a) (toU k b)))))
  | .or => some (.int k (wrapF k (.ofNat (Nat.lor (toU k a) (toU k b)))))
  | .xor => some (.int k (wrapF k (.ofNat (Nat.xor (toU k a) (toU k b)))))
  | .andNot => some (.int k (wrapF k ((BitVec.ofInt k.bits a &&& ~~~BitVec.ofInt k.bits b).toNat)))
  | .eql => some (.bool (eqI a b))
  | .neq => some (.bool (!eqI a b))
  | .lss => some (.bool (ltI a b))
  | .leq => some (.bool (!ltI b a))
  | .gtr => some (.bool (ltI b a))
  | .geq => some (.bool (!ltI a b))
  | _ => none

theorem intOp_eq (op : BinOp) (k : IntKind) (a b : Int) : intOp op k a b = intOpS op k a b := by
  cases op <;> simp only [intOp, intOpS, wrapF_eq, eqI_eq, ltI_eq, BitVec.toNat_and, BitVec.toNat_or, BitVec.toNat_xor, toU_eq, Bool.cond_eq_ite, Int.ofNat_eq_natCast] <;> (try rfl)
  · simp only [beq_iff_eq]
  · simp only [beq_iff_eq]
  · simp only [Option.some.injEq, AV.bool.injEq]; rw [Bool.eq_iff_iff]; simp
  · simp only [Option.some.injEq, AV.bool.injEq]; rw [Bool.eq_iff_iff]; simp

def shiftOp (op : BinOp) (k : IntKind) (a b : Int) : Option AV :=
  match b with
  | .negSucc _ => none
  | .ofNat b =>
    match op with
    | .shl => some (.int k (wrapF k (a * .ofNat (Nat.pow 2 (bif Nat.ble b k.bits then b else k.bits)))))
    | .shr => some (.int k (a.fdiv (.ofNat (Nat.pow 2 (bif Nat.ble b k.bits then b else k.bits)))))
    | _ => none

theorem shiftOp_eq (op : BinOp) (k : IntKind) (a b : Int) : shiftOp op k a b = shiftOpS op k a b := by
  cases b with
  | negSucc m => simp [shiftOp, shiftOpS, Int.negSucc_lt_zero]
  | ofNat m =>
    have h1 : ¬ (Int.ofNat m < 0) := by simp
    have h2 : (bif Nat.ble m k.bits then m else k.bits) = min (Int.ofNat m).toNat k.bits := by
      simp only [Bool.cond_eq_ite, Nat.ble_eq, Int.ofNat_eq_natCast, Int.toNat_natCast]
      split <;> omega
    have h3 : ∀ s : Nat, Int.ofNat (Nat.pow 2 s) = (2 : Int) ^ s := fun s => by
      show ((2 ^ s : Nat) : Int) = _
      simp
    simp only [shiftOp, shiftOpS, if_neg h1, h2, h3, wrapF_eq]

def partA (i : TI) (cs : List AV) (off : Nat) : Option AV :=
  if i.d.isAgg then (if off + i.size ≤ cs.length then some (.agg ((cs.drop off).take i.size)) else none)
  else cs[off]?

def eqFs (cf : Cfg) (eq : TypeId → AV → AV → Option Bool) : List (Nat × TypeId) → List AV → List AV → Option Bool
  | [], _, _ => some true
  | p :: fs, xs, ys =>
    match cf.ty p.2 with
    | none => none
    | some j =>
      match partA j xs p.1, partA j ys p.1 with
      | some a, some b =>
        match eq p.2 a b with
        | some true => eqFs cf eq fs xs ys
        | some false => some false
        | none => none
      | _, _ => none

/-- Are two values of a plain type the same? none: not known. -/
def eqV (cf : Cfg) : Nat → TypeId → AV → AV → Option Bool
  | 0, _, _, _ => none
  | n + 1, t, x, y =>
    match cf.ty t with
    | none => none
    | some i =>
      match i.d, x, y with
      | .int _, .int k a, .int k' b => if k = k' then some (eqI a b) else none
      | .str, .str a, .str b => some (a == b)
      | .bool, .bool a, .bool b => some (a == b)
      | .struct fs, .agg xs, .agg ys => eqFs cf (eqV cf n) fs xs ys
      | _, _, _ => none

def isConst : Operand → Bool
  | .const _ => true
  | _ => false

def eqlOp (cf : Cfg) (h : AHeap) (t : TypeId) (lit : Bool) (x y : AV) : Option Bool :=
  match cf.ty t with
  | none => none
  | some i =>
    match i.d, x, y with
    | .bool, .bool a, .bool b => some (a == b)
    | .ptr _, .ptr none, .ptr b => some b.isNone
    | .ptr _, .ptr (some _), .ptr none => some false
    | .ptr e, .ptr (some a), .ptr (some b) =>
      match cf.ty e with
      | none => none
      | some j =>
        if j.size = 0 then none
        else if a.1 = b.1 then some (decide (a.2 = b.2))
        else match h.get a.1, h.get b.1 with
          | some (.cells (_ :: _) false), some (.cells (_ :: _) false) => some false
          | _, _ => none
    | .iface, .nilIface, .nilIface => if lit then some true else none
    | .iface, .nilIface, .iface _ _ => some false
    | .iface, .iface _ _, .nilIface => some false
    | .struct _, .agg xs, .agg ys => if cf.flat t then eqV cf 8 t (.agg xs) (.agg ys) else none
    | .slice _, .slice none _ _ _ _, .slice b _ _ _ _ => some b.isNone
    | .slice _, .slice (some _) _ _ _ _, .slice none _ _ _ _ => some false
    | .map _ _, .map none, .map b => some b.isNone
    | .map _ _, .map (some _), .map none => some false
    | .func, .nilFunc, .nilFunc => some true
    | .func, .nilFunc, .func _ _ _ => some false
    | .func, .func _ _ _, .nilFunc => some false
    | _, _, _ => none

def binA (cf : Cfg) (h : AHeap) (op : BinOp) (t : TypeId) (lit : Bool) (x y : AV) : Option AV :=
  match op, x, y with
  | .shl, .int k a, .int _ b => shiftOp .shl k a b
  | .shr, .int k a, .int _ b => shiftOp .shr k a b
  | op, .int k a, .int k' b => if k = k' then intOp op k a b else none
  | op, .str a, .str b => strOp op a b
  | .eql, x, y => (eqlOp cf h t lit x y).map .bool
  | .neq, x, y => (eqlOp cf h t lit x y).map fun b => .bool (!b)
  | _, _, _ => none

def unAS (op : UnOp) (x : AV) : Option AV :=
  match op, x with
  | .neg, .int k n => some (.int k (k.wrap (0 - n)))
  | .xor, .int k n => some (.int k (k.wrap ((BitVec.ofInt k.bits (if k.signed then -1 else k.max) ^^^ BitVec.ofInt k.bits n).toNat)))
  | .not, .bool b => some (.bool (!b))
  | _, _ => none

def unA (op : UnOp) (x : AV) : Option AV :=
  match op, x with
  | .neg, .int k n => some (.int k (wrapF k (0 - n)))
  | .xor, .int k n => some (.int k (wrapF k ((BitVec.ofInt k.bits (if k.signed then -1 else k.max) ^^^ BitVec.ofInt k.bits n).toNat)))
  | .not, .bool b => some (.bool (!b))
  | _, _ => none

theorem unA_eq (op : UnOp) (x : AV) : unA op x = unAS op x := by
  cases op <;> cases x <;> simp only [unA, unAS, wrapF_eq]

def bytesAV (l : List UInt8) : List AV := l.map fun b => .int .u8 b.toNat

def avBytes : List AV → Option (List UInt8)
  | [] => some []
  | .int .u8 n :: l => (avBytes l).map fun r => UInt8.ofNat n.toNat :: r
  | _ => none

def natOf : AV → Option Nat
  | .int _ n => if 0 ≤ n then some n.toNat else none
  | _ => none

def optNat (d : Nat) : Option AV → Option Nat
  | some v => natOf v
  | none => some d

/-- x[l:h:m] of a string or a slice. -/
def sliceA (cf : Cfg) (t : TypeId) (x : AV) (lo hi mx : Option AV) : Option AV :=
  match cf.ty t, optNat 0 lo with
  | some i, some l =>
    match i.d, x with
    | .str, .str s =>
      match mx, optNat s.length hi with
      | none, some e => if l ≤ e ∧ e ≤ s.length then some (.str ((s.drop l).take (e - l))) else none
      | _, _ => none
    | .slice el, .slice a len cap sz ex =>
      match cf.ty el, optNat len hi, optNat cap mx with
      | some j, some e, some m =>
        if (a.isNone ∨ j.size = sz) ∧ l ≤ e ∧ e ≤ m ∧ m ≤ cap ∧ (mx.isSome → hi.isSome) then
          some (.slice (a.map fun a => (a.1, a.2 + l * sz)) (e - l) (m - l) sz (ex || mx.isSome))
        else none
      | _, _, _ => none
    | _, _ => none
  | _, _ => none

def fillA (place : Nat → Option (Nat × Nat)) (cells : List AV) : List (Nat × AV) → Option (List AV)
  | [] => some cells
  | (i, v) :: rest =>
    match place i, v.cells with
    | some (off, size), some cs => if cs.length = size ∧ off + size ≤ cells.length then fillA place (putAt cells off cs) rest else none
    | _, _ => none

def sizesOf (cf : Cfg) : List (Nat × TypeId) → Option (List (Nat × Nat))
  | [] => some []
  | (o, t) :: l => do
    let i ← cf.ty t
    let r ← sizesOf cf l
    some ((o, i.size) :: r)

def buildA (cf : Cfg) (t : TypeId) (parts : List (Nat × AV)) : Option AV := do
  let i ← cf.ty t
  let zero ← i.zero.cells
  match i.d with
  | .struct fs =>
    let ps ← sizesOf cf fs
    let cs ← fillA (fun k => ps[k]?) zero parts
    some (.agg cs)
  | .array _ e =>
    let j ← cf.ty e
    let cs ← fillA (fun k => some (k * j.size, j.size)) zero parts
    some (.agg cs)
  | _ => none

def rep (n : Nat) (z : List AV) : List AV :=
  match n with
  | 0 => []
  | n + 1 => z ++ rep n z

def keySame : AV → AV → Bool
  | .int j a, .int k b => decide (j = k) && (a == b)
  | .str a, .str b => a == b
  | .bool a, .bool b => a == b
  | _, _ => false

def isKey : TD → AV → Bool
  | .int k, .int j _ => decide (k = j)
  | .str, .str _ => true
  | .bool, .bool _ => true
  | _, _ => false

/-- The first entry of a key: its place. none: not known. -/
def findA (d : TD) (k : AV) : List (AV × AV × Nat) → Nat → Option (Option (Nat × AV × Nat))
  | [], _ => some none
  | (k', v, n) :: es, i => if isKey d k' then (if keySame k k' then some (some (i, v, n)) else findA d k es (i + 1)) else none

end Go.AM
namespace Go.AM

def Cfg.td (cf : Cfg) (t : TypeId) : Option TD :=
  match cf.ty t with
  | some i => some i.d
  | none => none

def convA (cf : Cfg) (h : AHeap) (s d : TypeId) (x : AV) : Option AV := do
  let i ← cf.ty s
  let j ← cf.ty d
  match j.d, x with
  | .int k, .int _ n => some (.int k (wrapF k n))
  | .str, .str l => some (.str l)
  | .str, .slice a len _ _ _ =>
    match i.d with
    | .slice e =>
      let q ← cf.ty e
      match q.d with
      | .int .u8 =>
        match a with
        | none => some (.str [])
        | some a => do
          let cs ← ldCells h a len
          let l ← avBytes cs
          some (.str l)
      | _ => none
    | _ => none
  | _, _ => none

def idxOf : AV → Option Nat
  | .int _ n => if 0 ≤ n then some n.toNat else none
  | _ => none

/-- Has a zero value as many cells as its type? -/
def TI.zcells (i : TI) : Bool :=
  match i.zero.cells with
  | some cs => cs.length == i.size
  | none => false

def zeroA (i : TI) : Option AV :=
  match i.zero with
  | .dead => none
  | z => some z

def entriesA (h : AHeap) : AV → Option (List (AV × AV × Nat))
  | .map none => some []
  | .map (some r) =>
    match h.get r with
    | some (.map es _) => some es
    | _ => none
  | _ => none

def lookupA (cf : Cfg) (h : AHeap) (t : TypeId) (m k : AV) (ok : Bool) : Option AV :=
  match cf.td t with
  | some (.map kt et) =>
    match cf.td kt, cf.ty et, entriesA h m with
    | some kd, some ed, some es =>
      if isKey kd k then
        match findA kd k es 0 with
        | some (some (_, v, _)) => some (if ok then .tuple [v, .bool true] else v)
        | some none => (zeroA ed).map fun z => if ok then .tuple [z, .bool false] else z
        | none => none
      else none
    | _, _, _ => none
  | _ => none

def fieldOff (cf : Cfg) (s : TypeId) (f : Nat) : Option (Nat × TI) := do
  let i ← cf.ty s
  match i.d with
  | .struct fs =>
    let p ← fs[f]?
    let j ← cf.ty p.2
    some (p.1, j)
  | _ => none

def indexAddrA (cf : Cfg) (t : TypeId) (x ix : AV) : Option AV := do
  let i ← cf.ty t
  let k ← idxOf ix
  match i.d, x with
  | .array n e, .ptr (some a) =>
    let j ← cf.ty e
    if k < n then some (.ptr (some (a.1, a.2 + k * j.size))) else none
  | .slice e, .slice (some a) len _ sz _ =>
    let j ← cf.ty e
    if k < len ∧ j.size = sz then some (.ptr (some (a.1, a.2 + k * sz))) else none
  | _, _ => none

def indexA (cf : Cfg) (t : TypeId) (x ix : AV) : Option AV := do
  let i ← cf.ty t
  let k ← idxOf ix
  match i.d, x with
  | .array n e, .agg cs =>
    let j ← cf.ty e
    if k < n then partA j cs (k * j.size) else none
  | .str, .str l => (l[k]?).map fun b => .int .u8 b.toNat
  | _, _ => none

def entryA (h : AHeap) (it : AV) : Option AV :=
  match it with
  | .ptr (some (r, 0)) =>
    match h.get r with
    | some (.miter (some m) _ seen last) =>
      match seen.getLast?, h.get m with
      | some st, some (.map es clock) =>
        if clock = last then
          match es.find? (fun e => e.2.2 == st) with
          | some e => some (.tuple [e.1, e.2.1])
          | none => none
        else none
      | _, _ => none
    | _ => none
  | _ => none

def maxA : AV → AV → Option AV
  | .int k x, .int j y => if k = j then some (.int k (if y > x then y else x)) else none
  | _, _ => none

def minA : AV → AV → Option AV
  | .int k x, .int j y => if k = j then some (.int k (if y < x then y else x)) else none
  | _, _ => none

def foldA (f : AV → AV → Option AV) : AV → List AV → Option AV
  | x, [] => some x
  | x, y :: l => (f x y).bind fun z => foldA f z l

def lenA (cf : Cfg) (h : AHeap) (t : TypeId) (x : AV) : Option AV := do
  let i ← cf.ty t
  match i.d, x with
  | .str, .str s => some (.int .i64 s.length)
  | .array n _, _ => some (.int .i64 n)
  | .slice _, .slice _ n _ _ _ => some (.int .i64 n)
  | .map _ _, .map none => some (.int .i64 0)
  | .map _ _, .map (some r) =>
    match h.get r with
    | some (.map es _) => some (.int .i64 es.length)
    | _ => none
  | _, _ => none

def readCall (cf : Cfg) (ρ : Operand → AV) (h : AHeap) (c : Call) : Option AV :=
  match c.callee with
  | .builtin .len =>
    match c.argTypes.toList, c.args.toList with
    | [t], [x] => lenA cf h t (ρ x)
    | _, _ => none
  | .builtin .cap =>
    match c.argTypes.toList, c.args.toList with
    | [t], [x] =>
      match cf.td t, ρ x with
      | some (.slice _), .slice _ _ cap _ true => some (.int .i64 cap)
      | _, _ => none
    | _, _ => none
  | .builtin .max =>
    match c.args.toList with
    | x :: l => foldA maxA (ρ x) (l.map ρ)
    | [] => none
  | .builtin .min =>
    match c.args.toList with
    | x :: l => foldA minA (ρ x) (l.map ρ)
    | [] => none
  | _ => none

/-- Operations that change no memory. -/
def readOpS (cf : Cfg) (ρ : Operand → AV) (h : AHeap) : Op → Option AV
  | .move x => some (ρ x)
  | .assign x => some (ρ x)
  | .pick c a b =>
    match ρ c with
    | .bool t => some (if t then ρ a else ρ b)
    | _ => none
  | .build t parts => buildA cf t (parts.toList.map fun p => (p.1, ρ p.2))
  | .load t a =>
    match ρ a with
    | .ptr (some a) => (cf.ty t).bind fun i => ldVar i h a
    | _ => none
  | .nilCheck x =>
    match ρ x with
    | .ptr (some a) => some (.ptr (some a))
    | .func (.func f) x y => some (.func (.func f) x y)
    | .iface t v => some (.iface t v)
    | _ => none
  | .binOp op t x y _ => binA cf h op t (isConst x || isConst y) (ρ x) (ρ y)
  | .unOp op _ x => unA op (ρ x)
  | .convert s d x => convA cf h s d (ρ x)
  | .makeInterface t x =>
    match cf.td t with
    | none => none
    | some .iface => none
    | some _ => some (.iface t (ρ x))
  | .makeFunc fn first captured => some (.func fn (first.toList.map ρ) (captured.toList.map ρ))
  | .slice t x lo hi mx => sliceA cf t (ρ x) (lo.map ρ) (hi.map ρ) (mx.map ρ)
  | .fieldAddr s x f =>
    match ρ x with
    | .ptr (some a) => (fieldOff cf s f).bind fun p => if p.2.size = 0 then none else some (.ptr (some (a.1, a.2 + p.1)))
    | _ => none
  | .field s x f =>
    match ρ x with
    | .agg cs => (fieldOff cf s f).bind fun p => partA p.2 cs p.1
    | _ => none
  | .indexAddr t x ix => indexAddrA cf t (ρ x) (ρ ix)
  | .index t x ix => indexA cf t (ρ x) (ρ ix)
  | .lookup t m k ok => lookupA cf h t (ρ m) (ρ k) ok
  | .entry it => entryA h (ρ it)
  | .extract x i =>
    match ρ x with
    | .tuple vs => vs[i]?
    | _ => none
  | .call c => readCall cf ρ h c
  | _ => none

def binI (op : BinOp) (k : IntKind) (a : Int) (j : IntKind) (b : Int) : Option AV :=
  match op with
  | .shl => shiftOp .shl k a b
  | .shr => shiftOp .shr k a b
  | op => if k = j then intOp op k a b else none

def binF (cf : Cfg) (h : AHeap) (op : BinOp) (t : TypeId) (lit : Bool) (x y : AV) : Option AV :=
  match x with
  | .int k a =>
    match y with
    | .int j b => binI op k a j b
    | y => binA cf h op t lit (.int k a) y
  | .str a =>
    match y with
    | .str b => strOp op a b
    | y => binA cf h op t lit (.str a) y
  | x => binA cf h op t lit x y

theorem binF_eq (cf : Cfg) (h : AHeap) (op : BinOp) (t : TypeId) (lit : Bool) (x y : AV) : binF cf h op t lit x y = binA cf h op t lit x y := by
  cases x <;> first
    | rfl
    | (cases y <;> first | rfl | (cases op <;> rfl))

def rPick (c a b : Operand) (ρ : Operand → AV) : Option AV :=
  match ρ c with
  | .bool t => some (cond t (ρ a) (ρ b))
  | _ => none

def rLoad (i : TI) (a : Operand) (ρ : Operand → AV) (h : AHeap) : Option AV :=
  match ρ a with
  | .ptr (some a) => ldVar i h a
  | _ => none

def rNil (x : Operand) (ρ : Operand → AV) : Option AV :=
  match ρ x with
  | .ptr (some a) => some (.ptr (some a))
  | .func (.func f) x y => some (.func (.func f) x y)
  | .iface t v => some (.iface t v)
  | _ => none

def rFieldAddr (off : Nat) (x : Operand) (ρ : Operand → AV) : Option AV :=
  match ρ x with
  | .ptr (some a) => some (.ptr (some (a.1, a.2 + off)))
  | _ => none

def rField (off : Nat) (i : TI) (x : Operand) (ρ : Operand → AV) : Option AV :=
  match ρ x with
  | .agg cs => partA i cs off
  | _ => none

def rExtract (x : Operand) (i : Nat) (ρ : Operand → AV) : Option AV :=
  match ρ x with
  | .tuple vs => vs[i]?
  | _ => none

/-- An operation, looked up once. -/
inductive RdW where
  | mk (f : (Operand → AV) → AHeap → Option AV)

def RdW.run (w : RdW) (ρ : Operand → AV) (h : AHeap) : Option AV :=
  match w with
  | .mk f => f ρ h

def rdC (cf : Cfg) (op : Op) : RdW :=
  match op with
  | .move x => .mk fun ρ _ => some (ρ x)
  | .assign x => .mk fun ρ _ => some (ρ x)
  | .pick c a b => .mk fun ρ _ => rPick c a b ρ
  | .load t a =>
    match cf.ty t with
    | some i => .mk fun ρ h => rLoad i a ρ h
    | none => .mk fun _ _ => none
  | .nilCheck x => .mk fun ρ _ => rNil x ρ
  | .binOp op t x y _ => .mk fun ρ h => binF cf h op t (isConst x || isConst y) (ρ x) (ρ y)
  | .unOp op _ x => .mk fun ρ _ => unA op (ρ x)
  | .fieldAddr s x f =>
    match fieldOff cf s f with
    | some p => bif Nat.beq p.2.size 0 then .mk fun _ _ => none else .mk fun ρ _ => rFieldAddr p.1 x ρ
    | none => .mk fun _ _ => none
  | .field s x f =>
    match fieldOff cf s f with
    | some p => .mk fun ρ _ => rField p.1 p.2 x ρ
    | none => .mk fun _ _ => none
  | .extract x i => .mk fun ρ _ => rExtract x i ρ
  | .call c => .mk fun ρ h => readCall cf ρ h c
  | .alloc _ => .mk fun _ _ => none
  | op => .mk fun ρ h => readOpS cf ρ h op

def readOp (cf : Cfg) (ρ : Operand → AV) (h : AHeap) (op : Op) : Option AV := (rdC cf op).run ρ h

theorem readOp_eq (cf : Cfg) (ρ : Operand → AV) (h : AHeap) (op : Op) : readOp cf ρ h op = readOpS cf ρ h op := by
  cases op <;> simp only [readOp, rdC] <;> try rfl
  case pick c a b =>
    simp only [RdW.run, rPick, readOpS]
    split <;> simp [Bool.cond_eq_ite]
  case load t a =>
    simp only [readOpS]
    cases cf.ty t with
    | none => simp only [RdW.run]; split <;> rfl
    | some i => simp only [RdW.run, rLoad]; split <;> rfl
  case binOp op t x y u => simp only [RdW.run, readOpS, binF_eq]
  case fieldAddr s x f =>
    simp only [readOpS]
    cases fieldOff cf s f with
    | none => simp only [RdW.run]; split <;> rfl
    | some p =>
      simp only [bcond]
      split
      · rename_i hz
        simp only [RdW.run]; split <;> simp [hz]
      · rename_i hz
        simp only [RdW.run, rFieldAddr]; split <;> simp [hz]
  case field s x f =>
    simp only [readOpS]
    cases fieldOff cf s f with
    | none => simp only [RdW.run]; split <;> rfl
    | some p => simp only [RdW.run, rField]; split <;> rfl

/-- Operations that make a new block and change nothing else. -/
def allocOp (cf : Cfg) (ρ : Operand → AV) (h : AHeap) : Op → Option (AV × AHeap)
  | .alloc t => do
    let i ← cf.ty t
    let cs ← i.zero.cells
    some (.ptr (some (h.next, 0)), h.push (.cells cs false))
  | .box _ x => do
    let cs ← (ρ x).cells
    some (.ptr (some (h.next, 0)), h.push (.cells cs false))
  | .buildSlice t len parts => do
    let i ← cf.ty t
    match i.d with
    | .slice e =>
      let j ← cf.ty e
      let z ← j.zero.cells
      if len * j.size ≤ 16777216 ∧ z.length = j.size then
        let cs ← fillA (fun k => some (k * j.size, j.size)) (rep len z) (parts.toList.map fun p => (p.1, ρ p.2))
        some (.slice (some (h.next, 0)) len len j.size true, h.push (.cells cs false))
      else none
    | _ => none
  | .makeMap t r => do
    let i ← cf.ty t
    match i.d, r with
    | .map _ _, none => some (.map (some h.next), h.push (.map [] 0))
    | .map _ _, some x =>
      match ρ x with
      | .int _ _ => some (.map (some h.next), h.push (.map [] 0))
      | _ => none
    | _, _ => none
  | .makeSlice t l c => do
    let i ← cf.ty t
    match i.d, ρ l, ρ c with
    | .slice e, .int .i64 l, .int .i64 c =>
      let j ← cf.ty e
      let z ← j.zero.cells
      if 0 ≤ l ∧ l ≤ c ∧ c ≤ 4294967296 ∧ j.bytes ≤ 4096 ∧ z.length = j.size then
        some (.slice (some (h.next, 0)) l.toNat c.toNat j.size true, h.push (.cells (rep c.toNat z) false))
      else none
    | _, _, _ => none
  | .convert s d x => do
    let _ ← cf.ty s
    let j ← cf.ty d
    match j.d, ρ x with
    | .slice e, .str s =>
      let q ← cf.ty e
      match q.d with
      | .int .u8 => if s.length ≤ 4294967296 then some (.slice (some (h.next, 0)) s.length s.length 1 false, h.push (.cells (bytesAV s) true)) else none
      | _ => none
    | _, _ => none
  | _ => none

/-- What is appended or copied: its cells. -/
def srcCells (h : AHeap) (sz : Nat) (x : AV) (n : Nat) : Option (List AV) :=
  match x with
  | .slice none _ _ _ _ => if n = 0 then some [] else none
  | .slice (some a) len _ sz' _ => if n = 0 then some [] else if sz' = sz ∧ n ≤ len then ldCells h a (n * sz) else none
  | .str s => some (bytesAV (s.take n))
  | _ => none

def srcLen : AV → Option Nat
  | .slice _ n _ _ _ => some n
  | .str s => some s.length
  | _ => none

def appendTo (h : AHeap) (j : TI) (s : AV) (n : Nat) (new : List AV) : Option (AV × AHeap) :=
  match s with
  | .slice base len cap sz ex =>
    if n = 0 then (if len ≤ cap then some (.slice base len cap sz ex, h) else none)
    else if ¬ (len + n ≤ 4294967296 ∧ j.bytes ≤ 4096 ∧ new.length = n * j.size ∧ (zeroA j).isSome ∧ j.zcells) then none
    else match base with
      | none => if len = 0 ∧ cap = 0 ∧ ex then some (.slice (some (h.next, 0)) n n j.size false, h.push (.cells new false)) else none
      | some a =>
        if j.size ≠ sz then none
        else if len + n ≤ cap then
          (stCells h (a.1, a.2 + len * sz) new).map fun h => (.slice base (len + n) cap sz ex, h)
        else if ex then
          (if len = 0 then some [] else ldCells h a (len * sz)).map fun old => (.slice (some (h.next, 0)) (len + n) (len + n) sz false, h.push (.cells (old ++ new) false))
        else
          match h.get a.1 with
          | some (.cells _ fz) =>
            (ldCells h a (len * sz)).map fun old =>
              (.slice (some (h.next, 0)) (len + n) (len + n) sz false, (h.set a.1 .gone).push (.cells (old ++ new) fz))
          | _ => none
  | _ => none

def appendA (cf : Cfg) (h : AHeap) (ts : List TypeId) (args : List AV) : Option (AV × AHeap) :=
  match ts, args with
  | [t, u], [s, x] => do
    let i ← cf.ty t
    let k ← cf.ty u
    match i.d with
    | .slice e =>
      let j ← cf.ty e
      match k.d, x with
      | .int _, .int .i64 n =>
        if 0 ≤ n then do
          let z ← j.zero.cells
          if z.length = j.size ∧ n ≤ 4294967296 ∧ j.bytes ≤ 4096 then appendTo h j s n.toNat (rep n.toNat z) else none
        else none
      | .int _, _ => none
      | _, _ => do
        let n ← srcLen x
        let new ← srcCells h j.size x n
        appendTo h j s n new
    | _ => none
  | _, _ => none

def copyA (cf : Cfg) (h : AHeap) (ts : List TypeId) (args : List AV) : Option (AV × AHeap) :=
  match ts, args with
  | t :: _, [d, x] => do
    let i ← cf.ty t
    match i.d, d with
    | .slice e, .slice base len _ sz _ =>
      let j ← cf.ty e
      let m ← srcLen x
      if min m len = 0 then some (.int .i64 0, h)
      else (srcCells h j.size x (min m len)).bind fun new =>
        match base with
        | none => none
        | some a => if j.size = sz then (stCells h a new).map fun h => (.int .i64 (min m len : Nat), h) else none
    | _, _ => none
  | _, _ => none

def clearA (cf : Cfg) (h : AHeap) (ts : List TypeId) (args : List AV) : Option (AV × AHeap) :=
  match ts, args with
  | [t], [x] => do
    let i ← cf.ty t
    match i.d, x with
    | .slice _, .slice none _ _ _ _ => some (.tuple [], h)
    | .slice e, .slice (some a) n _ sz _ =>
      if n = 0 then some (.tuple [], h) else
      let j ← cf.ty e
      let z ← j.zero.cells
      if j.size = sz ∧ z.length = j.size then (stCells h a (rep n z)).map fun h => (.tuple [], h) else none
    | .map _ _, .map none => some (.tuple [], h)
    | .map _ _, .map (some r) =>
      match h.get r with
      | some (.map _ c) => some (.tuple [], h.set r (.map [] c))
      | _ => none
    | _, _ => none
  | _, _ => none

def deleteA (cf : Cfg) (h : AHeap) (ts : List TypeId) (args : List AV) : Option (AV × AHeap) :=
  match ts, args with
  | t :: _, [m, k] => do
    let i ← cf.ty t
    match i.d with
    | .map kt _ =>
      let kd ← cf.ty kt
      if !isKey kd.d k then none else
      match m with
      | .map none => some (.tuple [], h)
      | .map (some r) =>
        match h.get r with
        | some (.map es c) => do
          match ← findA kd.d k es 0 with
          | some (i, _, _) => some (.tuple [], h.set r (.map (es.eraseIdx i) c))
          | none => some (.tuple [], h.set r (.map es c))
        | _ => none
      | _ => none
    | _ => none
  | _, _ => none

def updEntry (es : List (AV × AV × Nat)) (i : Nat) (k v : AV) : List (AV × AV × Nat) :=
  match es[i]? with
  | some e => es.set i (k, v, e.2.2)
  | none => es

def mapUpdateA (cf : Cfg) (h : AHeap) (t : TypeId) (m k v : AV) : Option AHeap := do
  let i ← cf.ty t
  match i.d, m with
  | .map kt _, .map (some r) =>
    let kd ← cf.ty kt
    if !isKey kd.d k then none else
    match h.get r with
    | some (.map es c) => do
      match ← findA kd.d k es 0 with
      | some (i, _, _) => some (h.set r (.map (updEntry es i k v) c))
      | none => some (h.set r (.map (es ++ [(k, v, c)]) (c + 1)))
    | _ => none
  | _, _ => none

def mapEntryA (cf : Cfg) (h : AHeap) (t : TypeId) (m k : AV) : Option (AV × AHeap) := do
  let i ← cf.ty t
  match i.d, m with
  | .map kt et, .map (some r) =>
    let kd ← cf.ty kt
    let ed ← cf.ty et
    if !isKey kd.d k then none else
    match h.get r with
    | some (.map es c) => do
      match ← findA kd.d k es 0 with
      | some (i, v, n) => some (.tuple [v, .int .i64 n], h.set r (.map (updEntry es i k v) c))
      | none => (zeroA ed).map fun z => (.tuple [z, .int .i64 c], h.set r (.map (es ++ [(k, z, c)]) (c + 1)))
    | _ => none
  | _, _ => none

def putBorn (es : List (AV × AV × Nat)) (n : Nat) (v : AV) : Option (List (AV × AV × Nat)) :=
  match es with
  | [] => none
  | (k, u, b) :: l => if b = n then some ((k, v, b) :: l) else (putBorn l n v).map fun r => (k, u, b) :: r

def entryStoreA (h : AHeap) (m st v : AV) : Option AHeap :=
  match m, st with
  | .map (some r), .int _ n =>
    match h.get r with
    | some (.map es c) => if 0 ≤ n then (putBorn es n.toNat v).map fun es => h.set r (.map es c) else none
    | _ => none
  | _, _ => none

/-- A range over a map begins. -/
def rangeA (cf : Cfg) (h : AHeap) (t : TypeId) (x : AV) : Option (AV × AHeap) :=
  match cf.td t, x with
  | some (.map _ _), .map none => some (.ptr (some (h.next, 0)), h.push (.miter none 0 [] 0))
  | some (.map _ _), .map (some m) =>
    match h.get m with
    | some (.map _ clock) => some (.ptr (some (h.next, 0)), h.push (.miter (some m) clock [] clock))
    | _ => none
  | _, _ => none

/-- Operations that write memory, but calls; with `next` of a range. -/
def effOp (cf : Cfg) (ρ : Operand → AV) (h : AHeap) : Op → Option (AV × AHeap)
  | .store t a v =>
    match ρ a with
    | .ptr (some a) => do
      let i ← cf.ty t
      let h ← stVar i h a (ρ v)
      some (.tuple [], h)
    | _ => none
  | .mapUpdate t m k v => (mapUpdateA cf h t (ρ m) (ρ k) (ρ v)).map fun h => (.tuple [], h)
  | .insert t m k v => (mapUpdateA cf h t (ρ m) (ρ k) (ρ v)).map fun h => (.tuple [], h)
  | .mapEntry t m k => mapEntryA cf h t (ρ m) (ρ k)
  | .entryStore _ m s v => (entryStoreA h (ρ m) (ρ s) (ρ v)).map fun h => (.tuple [], h)
  | .range t x => rangeA cf h t (ρ x)
  | .call c =>
    match c.callee with
    | .builtin .append => appendA cf h c.argTypes.toList (c.args.toList.map ρ)
    | .builtin .copy => copyA cf h c.argTypes.toList (c.args.toList.map ρ)
    | .builtin .clear => clearA cf h c.argTypes.toList (c.args.toList.map ρ)
    | .builtin .delete => deleteA cf h c.argTypes.toList (c.args.toList.map ρ)
    | _ => none
  | _ => none

/-- Among which entries the next one of a range is; none: it is over. -/
def candsA (es : List (AV × AV × Nat)) (since : Nat) (seen : List Nat) : List (Option (AV × AV × Nat)) :=
  (if ((es.filter fun e => !seen.contains e.2.2).filter fun e => decide (e.2.2 < since)).isEmpty then [none] else []) ++
    (((es.filter fun e => !seen.contains e.2.2).filter fun e => decide (e.2.2 < since)) ++
      ((es.filter fun e => !seen.contains e.2.2).filter fun e => decide (since ≤ e.2.2))).map some

def nextGo (h : AHeap) (r m since clock : Nat) (seen : List Nat) (c : List (Option (AV × AV × Nat))) (i : Nat) : Comp (AV × AHeap) :=
  match c[i]? with
  | some (some e) => .ret (.tuple [.bool true, e.1, e.2.1], h.set r (.miter (some m) since (seen ++ [e.2.2]) clock))
  | some none => .ret (.tuple [.bool false], h)
  | none => .fail "next"

/-- The next entry of a map that is ranged over. -/
def nextA (h : AHeap) (it : AV) : Comp (AV × AHeap) :=
  match it with
  | .ptr (some (r, 0)) =>
    match h.get r with
    | some (.miter none _ _ _) => .ret (.tuple [.bool false], h)
    | some (.miter (some m) since seen last) =>
      match h.get m with
      | some (.map es clock) =>
        if !seen.isEmpty && !es.isEmpty && es.all (fun e => decide (last ≤ e.2.2)) then .fail "next"
        else if (candsA es since seen).length ≤ 1 then nextGo h r m since clock seen (candsA es since seen) 0
        else .ask (candsA es since seen).length (nextGo h r m since clock seen (candsA es since seen))
      | _ => .fail "next"
    | _ => .fail "next"
  | _ => .fail "next"

inductive APlace where
  | val (v : AV)
  | var (a : Nat × Nat)

def APlace.get (cf : Cfg) (h : AHeap) (t : TypeId) : APlace → Option AV
  | .val v => some v
  | .var a => (cf.ty t).bind fun i => ldVar i h a

def followA (cf : Cfg) (h : AHeap) : List FieldStep → TypeId → APlace → Option (TypeId × APlace)
  | [], t, x => some (t, x)
  | s :: rest, t, x =>
    match fieldOff cf s.struct s.index, cf.td s.struct with
    | some (off, j), some (.struct fs) =>
      match fs[s.index]? with
      | none => none
      | some p =>
        if j.size = 0 then none
        else if s.deref then
          match x.get cf h t with
          | some (.ptr (some a)) => followA cf h rest p.2 (.var (a.1, a.2 + off))
          | _ => none
        else match x with
          | .var a => followA cf h rest p.2 (.var (a.1, a.2 + off))
          | .val (.agg cs) =>
            match partA j cs off with
            | some v => followA cf h rest p.2 (.val v)
            | none => none
          | .val _ => none
    | _, _ => none

def receiverA (cf : Cfg) (h : AHeap) (xt : TypeId) (x : APlace) (p : Bool) : Option AV :=
  match cf.td xt, p, x with
  | some (.ptr _), true, x => x.get cf h xt
  | some (.ptr e), false, x =>
    match x.get cf h xt with
    | some (.ptr (some a)) => (cf.ty e).bind fun i => ldVar i h a
    | _ => none
  | some _, true, .var a => some (.ptr (some a))
  | some _, false, x => x.get cf h xt
  | _, _, _ => none

def methodA (cf : Cfg) (h : AHeap) : Nat → TypeId → AV → String → Option (FuncId × AV)
  | 0, _, _, _ => none
  | n + 1, t, v, name =>
    match cf.mth t name with
    | none => none
    | some m =>
      match followA cf h m.path.toList t (.val v) with
      | none => none
      | some (xt, x) =>
        match m.func with
        | none =>
          match x.get cf h xt with
          | some (.iface t' v') => methodA cf h n t' v' name
          | _ => none
        | some (f, p) => (receiverA cf h xt x p).map fun r => (f, r)

def targetA (cf : Cfg) (ρ : Operand → AV) (h : AHeap) (c : Call) : Option (FuncId × List AV) :=
  match c.callee with
  | .value f =>
    match ρ f with
    | .func (.func g) first captured => some (g, first ++ c.args.toList.map ρ ++ captured)
    | _ => none
  | .invoke r name =>
    match ρ r with
    | .iface t v => (methodA cf h 12 t v name).map fun p => (p.1, p.2 :: c.args.toList.map ρ)
    | _ => none
  | .builtin _ => none

def isE : Op → Bool
  | .move _ | .assign _ | .pick _ _ _ | .build _ _ | .load _ _ | .nilCheck _ | .binOp _ _ _ _ _ | .unOp _ _ _ | .convert _ _ _
  | .makeInterface _ _ | .makeFunc _ _ _ | .slice _ _ _ _ _ | .fieldAddr _ _ _ | .field _ _ _ | .indexAddr _ _ _ | .index _ _ _
  | .lookup _ _ _ _ | .entry _ | .extract _ _ | .alloc _ | .box _ _ | .buildSlice _ _ _ | .makeMap _ _ | .makeSlice _ _ _ => false
  | .call c =>
    match c.callee with
    | .builtin .len | .builtin .cap | .builtin .min | .builtin .max => false
    | _ => true
  | _ => true

abbrev CallK := FuncId → List AV → AHeap → Comp (AV × AHeap)

/-- An operation that writes, or calls. -/
def stepE (cf : Cfg) (ck : CallK) (ρ : Operand → AV) (h : AHeap) (op : Op) : Comp (AV × AHeap) :=
  match op with
  | .next it false => nextA h (ρ it)
  | .call c =>
    match c.callee with
    | .builtin _ => .of "eff" (effOp cf ρ h op)
    | _ =>
      match targetA cf ρ h c with
      | some (f, args) => ck f args h
      | none => .fail "target"
  | op => .of "eff" (effOp cf ρ h op)

def stepN (cf : Cfg) (ρ : Operand → AV) (h : AHeap) (op : Op) : Option (AV × AHeap × Bool) :=
  match readOp cf ρ h op with
  | some v => some (v, h, false)
  | none => (allocOp cf ρ h op).map fun p => (p.1, p.2, true)

def stepOp (cf : Cfg) (ck : CallK) (ρ : Operand → AV) (h : AHeap) (op : Op) : Comp (AV × AHeap) :=
  if isE op then stepE cf ck ρ h op else .of "op" ((stepN cf ρ h op).map fun p => (p.1, p.2.1))

def wantedA (ops : Array Oper) (fr : Fr) (o : Oper) : Option Bool :=
  match o.guard with
  | none => some true
  | some (j, want) =>
    match (ops[j]?).bind (·.dst) with
    | none => none
    | some d =>
      match fr.get d with
      | .bool b => some (b == want)
      | .tuple [] => some false
      | _ => none

def putD (fr : Fr) (d : Option Nat) (v : AV) : Fr :=
  match d with
  | some d => fr.put d v
  | none => fr

def execOps (cf : Cfg) (ck : CallK) (ops : Array Oper) : List Oper → Fr → AHeap → Comp (Fr × AHeap)
  | [], fr, h => .ret (fr, h)
  | o :: rest, fr, h =>
    match wantedA ops fr o with
    | none => .fail "guard"
    | some false => execOps cf ck ops rest (putD fr o.dst (.tuple [])) h
    | some true => (stepOp cf ck (ev fr) h o.op).bind fun p => execOps cf ck ops rest (putD fr o.dst p.1) p.2

/-- What was done of a drawn region: kind 0 nothing, 1 read, 2 a block made. -/
structure DrE where
  i : Nat
  o : Oper
  fr : Fr
  v : AV
  id : Nat
  kind : Nat

def sameObj : Option AObj → Option AObj → Bool
  | some a, some b => AObj.same a b
  | _, _ => false

def stableE (cf : Cfg) (h h' : AHeap) (e : DrE) : Bool :=
  match e.kind with
  | 0 => true
  | 1 =>
    match readOp cf (ev e.fr) h' e.o.op with
    | some v => AV.same e.v v
    | none => false
  | _ => sameObj (h.get e.id) (h'.get e.id)

def stableA (cf : Cfg) (h h' : AHeap) (un : List Nat) : List DrE → Bool
  | [] => true
  | e :: l => (!un.contains e.i || stableE cf h h' e) && stableA cf h h' un l

def opSlots (o : Oper) : List Nat := o.op.operands.toList.filterMap fun | .tmp t => some t | _ => none

def execDr (cf : Cfg) (ck : CallK) (ops : Array Oper) : List (Nat × List Nat) → Fr → AHeap → List DrE → Comp (Fr × AHeap)
  | [], fr, h, _ => .ret (fr, h)
  | (i, un) :: rest, fr, h, tr =>
    match ops[i]? with
    | none => .fail "drawn"
    | some o =>
      match wantedA ops fr o with
      | none => .fail "guard"
      | some false => execDr cf ck ops rest (putD fr o.dst (.tuple [])) h (⟨i, o, fr, .tuple [], 0, 0⟩ :: tr)
      | some true =>
        if isE o.op then
          (stepE cf ck (ev (fr.keepL (opSlots o))) h o.op).bind fun p =>
            if stableA cf h p.2 un tr then execDr cf ck ops rest (putD fr o.dst p.1) p.2 tr else .fail "order"
        else
          match readOp cf (ev (fr.keepL (opSlots o))) h o.op with
          | some v => execDr cf ck ops rest (putD fr o.dst v) h (⟨i, o, fr.keepL (opSlots o), v, 0, 1⟩ :: tr)
          | none =>
            match allocOp cf (ev (fr.keepL (opSlots o))) h o.op with
            | some (v, h') => execDr cf ck ops rest (putD fr o.dst v) h' (⟨i, o, fr.keepL (opSlots o), v, h.next, 2⟩ :: tr)
            | none => .fail "op"

inductive AExit where
  | normal
  | exit (id : Nat)
  | ret
  deriving DecidableEq, Inhabited

def loopN (body : Fr → AHeap → Comp (AExit × Fr × AHeap)) (ks : Option Nat) : Nat → Fr → AHeap → Comp (AExit × Fr × AHeap)
  | 0, _, _ => .fail "rounds"
  | n + 1, fr, h => (body (Fr.keep ks fr) h).bind fun p =>
    match p.1 with
    | .normal => loopN body ks n p.2.1 p.2.2
    | e => .ret (e, p.2)

structure Ann where
  keep : Option Nat
  lkeep : Nat → Option Nat
  dr : Nat → Option (List (Nat × List Nat))

def exec (cf : Cfg) (ck : CallK) (an : Ann) (blk : Nat) : Code → Fr → AHeap → Comp (AExit × Fr × AHeap)
  | .skip, fr, h => .ret (.normal, fr, h)
  | .region _ ops false, fr, h => (execOps cf ck ops ops.toList fr h).bind fun p => .ret (.normal, Fr.keep an.keep p.1, p.2)
  | .region id ops true, fr, h =>
    match an.dr id with
    | none => .fail "drawn"
    | some s => (execDr cf ck ops s fr h []).bind fun p => .ret (.normal, Fr.keep an.keep p.1, p.2)
  | .seq a b, fr, h => (exec cf ck an blk a fr h).bind fun p =>
    match p.1 with
    | .normal => exec cf ck an blk b p.2.1 p.2.2
    | e => .ret (e, p.2)
  | .cond c a b, fr, h =>
    match ev fr c with
    | .bool true => exec cf ck an blk a fr h
    | .bool false => exec cf ck an blk b fr h
    | _ => .fail "cond"
  | .block id body, fr, h => (exec cf ck an id body fr h).bind fun p =>
    match p.1 with
    | .exit id' => .ret (if id' = id then .normal else .exit id', p.2)
    | e => .ret (e, p.2)
  | .loop body, fr, h => loopN (exec cf ck an blk body) (an.lkeep blk) cf.lf fr h
  | .exit id, fr, h => .ret (.exit id, fr, h)
  | .ret, fr, h => .ret (.ret, fr, h)
  | _, _, _ => .fail "code"

def argsFr : Nat → List AV → Fr
  | _, [] => []
  | i, v :: l => (i, v) :: argsFr (i + 1) l

def resA (cf : Cfg) (fr : Fr) (h : AHeap) : ResultVar → Option AV
  | .tmp t => some (fr.get t)
  | .cell a t =>
    match fr.get a with
    | .ptr (some a) => (cf.ty t).bind fun i => ldVar i h a
    | _ => none

def ressA (cf : Cfg) (fr : Fr) (h : AHeap) : List ResultVar → Option (List AV)
  | [] => some []
  | r :: l => (resA cf fr h r).bind fun v => (ressA cf fr h l).map fun vs => v :: vs

def resultsA (cf : Cfg) (fr : Fr) (h : AHeap) (l : List ResultVar) : Option AV :=
  (ressA cf fr h l).map fun vs =>
    match vs with
    | [v] => v
    | vs => .tuple vs

def Cfg.ann (cf : Cfg) (f : FuncId) : Ann := ⟨cf.keep f, cf.lkeep f, cf.dr f⟩

def Cfg.primAt (cf : Cfg) (f : FuncId) (args : List AV) (h : AHeap) : Option (Comp (AV × AHeap)) :=
  match cf.prim f with
  | some p => p args h
  | none => none

def callCode (cf : Cfg) (ck : CallK) (f : FuncId) (args : List AV) (h : AHeap) : Comp (AV × AHeap) :=
  match cf.code f with
  | none => .fail "code"
  | some fn =>
    match fn.body with
    | none => .fail "body"
    | some c => (exec cf ck (cf.ann f) 0 c (argsFr 0 args) h).bind fun p =>
      match p.1 with
      | .exit _ => .fail "exit"
      | _ => .of "results" ((resultsA cf p.2.1 p.2.2 fn.results.toList).map fun v => (v, p.2.2))

def call (cf : Cfg) : Nat → FuncId → List AV → AHeap → Comp (AV × AHeap)
  | 0, _, _, _ => .fail "depth"
  | n + 1, f, args, h =>
    match cf.primAt f args h with
    | some c => c
    | none => callCode cf (call cf n) f args h

end Go.AM
namespace Go.AM

/-- Where a block of the machine lies: block, first cell, cells of that block. -/
abbrev Inj := Nat → Option (Nat × Nat × Nat)

mutual
inductive VR (β : Inj) : AV → Value → Prop where
  | dead (v : Value) : VR β .dead v
  | bool (b : Bool) : VR β (.bool b) (.bool b)
  | int (k : IntKind) (n : Int) : VR β (.int k n) (.int k n)
  | str (l : List UInt8) : VR β (.str l) (.string ⟨l.toArray⟩)
  | ptrNil : VR β (.ptr none) (.pointer none)
  | ptr {b o B O N : Nat} (h : β b = some (B, O, N)) : VR β (.ptr (some (b, o))) (.pointer (some ⟨B, O + o, none⟩))
  | sliceNil (sz : Nat) (ex : Bool) : VR β (.slice none 0 0 sz ex) (.slice none 0 0)
  | slice {b o B O N len cap cap' sz : Nat} {ex : Bool} {a : Addr} (h : β b = some (B, O, N)) (hc : cap ≤ cap') (hx : ex = true → cap' = cap)
      (hl : len ≤ cap') (ha : cap' = 0 ∨ (a = ⟨B, O + o, none⟩ ∧ O + o + cap' * sz ≤ N)) :
      VR β (.slice (some (b, o)) len cap sz ex) (.slice (some a) len cap')
  | mapNil : VR β (.map none) (.map none)
  | map {b B O N : Nat} (h : β b = some (B, O, N)) : VR β (.map (some b)) (.map (some B))
  | func (f : Fn) {a c : List AV} {a' c' : Array Value} (ha : VRs β a a'.toList) (hc : VRs β c c'.toList) : VR β (.func f a c) (.func f a' c')
  | nilFunc : VR β .nilFunc .nilFunc
  | iface (t : TypeId) {v : AV} {v' : Value} (h : VR β v v') : VR β (.iface t v) (.iface t v')
  | nilIface : VR β .nilIface .nilIface
  | agg {cs : List AV} {cs' : Array Value} (h : VRs β cs cs'.toList) (h1 : ∀ x ∈ cs'.toList, x.oneCell' = true) : VR β (.agg cs) (.agg cs')
  | tuple {vs : List AV} {vs' : Array Value} (h : VRs β vs vs'.toList) : VR β (.tuple vs) (.tuple vs')
inductive VRs (β : Inj) : List AV → List Value → Prop where
  | nil : VRs β [] []
  | cons {a : AV} {v : Value} {as : List AV} {vs : List Value} (h : VR β a v) (t : VRs β as vs) : VRs β (a :: as) (v :: vs)
end

def Inj.le (β β' : Inj) : Prop := ∀ b x, β b = some x → β' b = some x

mutual
theorem VR.mono {β β' : Inj} (hb : β.le β') : ∀ {a : AV} {v : Value}, VR β a v → VR β' a v
  | _, _, .dead v => .dead v
  | _, _, .bool b => .bool b
  | _, _, .int k n => .int k n
  | _, _, .str l => .str l
  | _, _, .ptrNil => .ptrNil
  | _, _, .ptr h => .ptr (hb _ _ h)
  | _, _, .sliceNil s e => .sliceNil s e
  | _, _, .slice h hc hx hl ha => .slice (hb _ _ h) hc hx hl ha
  | _, _, .mapNil => .mapNil
  | _, _, .map h => .map (hb _ _ h)
  | _, _, .func f ha hc => .func f (VRs.mono hb ha) (VRs.mono hb hc)
  | _, _, .nilFunc => .nilFunc
  | _, _, .iface t h => .iface t (VR.mono hb h)
  | _, _, .nilIface => .nilIface
  | _, _, .agg h h1 => .agg (VRs.mono hb h) h1
  | _, _, .tuple h => .tuple (VRs.mono hb h)
theorem VRs.mono {β β' : Inj} (hb : β.le β') : ∀ {as : List AV} {vs : List Value}, VRs β as vs → VRs β' as vs
  | _, _, .nil => .nil
  | _, _, .cons h t => .cons (VR.mono hb h) (VRs.mono hb t)
end

namespace VRs
variable {β : Inj}
theorem length : ∀ {as : List AV} {vs : List Value}, VRs β as vs → as.length = vs.length
  | _, _, .nil => rfl
  | _, _, .cons _ t => by simp [VRs.length t]

theorem append : ∀ {as : List AV} {vs : List Value} {bs : List AV} {ws : List Value}, VRs β as vs → VRs β bs ws → VRs β (as ++ bs) (vs ++ ws)
  | _, _, _, _, .nil, h => h
  | _, _, _, _, .cons h t, h' => .cons h (VRs.append t h')

theorem get : ∀ {as : List AV} {vs : List Value} {i : Nat} {a : AV}, VRs β as vs → as[i]? = some a → ∃ v, vs[i]? = some v ∧ VR β a v
  | _, _, 0, _, .cons h _, e => by simp at e; subst e; exact ⟨_, rfl, h⟩
  | _, _, _ + 1, _, .cons _ t, e => by simp at e; obtain ⟨v, hv, hr⟩ := VRs.get t e; exact ⟨v, by simpa using hv, hr⟩

theorem of_get {as : List AV} : ∀ {vs : List Value}, as.length = vs.length → (∀ (i : Nat) (a : AV) (v : Value), as[i]? = some a → vs[i]? = some v → VR β a v) → VRs β as vs := by
  induction as with
  | nil => intro vs h _; cases vs with
    | nil => exact .nil
    | cons => simp at h
  | cons a as ih =>
    intro vs h hg
    cases vs with
    | nil => simp at h
    | cons v vs => exact .cons (hg 0 a v rfl rfl) (ih (by simpa using h) fun i a' v' h1 h2 => hg (i + 1) a' v' (by simpa using h1) (by simpa using h2))

theorem take : ∀ {as : List AV} {vs : List Value} (n : Nat), VRs β as vs → VRs β (as.take n) (vs.take n)
  | _, _, 0, _ => .nil
  | _, _, _ + 1, .nil => .nil
  | _, _, n + 1, .cons h t => .cons h (VRs.take n t)

theorem drop : ∀ {as : List AV} {vs : List Value} (n : Nat), VRs β as vs → VRs β (as.drop n) (vs.drop n)
  | _, _, 0, h => h
  | _, _, _ + 1, .nil => .nil
  | _, _, n + 1, .cons _ t => VRs.drop n t

theorem set : ∀ {as : List AV} {vs : List Value} (i : Nat) {a : AV} {v : Value}, VRs β as vs → VR β a v → VRs β (as.set i a) (vs.set i v)
  | _, _, _, _, _, .nil, _ => .nil
  | _, _, 0, _, _, .cons _ t, h => .cons h t
  | _, _, i + 1, _, _, .cons h t, h' => .cons h (VRs.set i t h')

theorem map {ρA : Operand → AV} {ρ : Operand → Value} (h : ∀ x, VR β (ρA x) (ρ x)) : ∀ (l : List Operand), VRs β (l.map ρA) (l.map ρ)
  | [] => .nil
  | x :: l => .cons (h x) (VRs.map h l)
end VRs

def ESR (β : Inj) : List (AV × AV × Nat) → List MapEntry → Prop
  | [], [] => True
  | (k, v, n) :: l, e :: r => VR β k e.key ∧ VR β v e.val ∧ e.born = n ∧ ESR β l r
  | _, _ => False

theorem ESR.mono {β β' : Inj} (hb : β.le β') : ∀ {l : List (AV × AV × Nat)} {r : List MapEntry}, ESR β l r → ESR β' l r
  | [], [], _ => trivial
  | (_, _, _) :: _, _ :: _, h => ⟨h.1.mono hb, h.2.1.mono hb, h.2.2.1, ESR.mono hb h.2.2.2⟩
  | [], _ :: _, h => h.elim
  | (_, _, _) :: _, [], h => h.elim

def CellsR (β : Inj) (cs : List AV) (O : Nat) (c : Array Value) : Prop :=
  ∀ i v, cs[i]? = some v → ∃ v', c[O + i]? = some v' ∧ VR β v v' ∧ v'.oneCell' = true

def OR (β : Inj) (H : Array Obj) (B O N : Nat) : AObj → Prop
  | .cells cs fz => ∃ c e lo hi, H[B]? = some (.cells c e (lo, hi)) ∧ c.size = N ∧ (lo = hi ∨ (fz = true ∧ N ≤ lo)) ∧ O + cs.length ≤ N ∧ CellsR β cs O c
  | .map es clock => ∃ es', H[B]? = some (.map es' clock) ∧ ESR β es es'.toList
  | .miter m since seen last => O = 0 ∧ ∃ m', H[B]? = some (.mapIter m' since seen.toArray last) ∧ VR β (.map m) (.map m')
  | .kbox m => O = 0 ∧ ∃ m' e lo hi, H[B]? = some (.cells #[m'] e (lo, hi)) ∧ VR β (.map m) m'
  | .gone => True

def AHeap.live (h : AHeap) (b : Nat) : Prop := ∃ o, h.get b = some o ∧ o.live = true

structure HR (β : Inj) (h : AHeap) (H : Array Obj) : Prop where
  top : ∀ b, h.next ≤ b → h.get b = none
  dom : ∀ b x, β b = some x → b < h.next
  low : ∀ b B O N, β b = some (B, O, N) → B < H.size
  inj : ∀ b c B O N O' N', β b = some (B, O, N) → β c = some (B, O', N') → h.live b → h.live c → b = c
  obj : ∀ b B O N o, β b = some (B, O, N) → h.get b = some o → OR β H B O N o

structure Tn (β : Inj) (h : AHeap) (H : Array Obj) (β' : Inj) (h' : AHeap) (H' : Array Obj) : Prop where
  ext : β.le β'
  new : ∀ b x, β' b = some x → β b = some x ∨ h.next ≤ b
  next : h.next ≤ h'.next
  rel : HR β' h' H'
  sz : H.size ≤ H'.size
  live : ∀ b B O N, β' b = some (B, O, N) → h'.live b → (∃ c O' N', β c = some (B, O', N') ∧ h.live c) ∨ H.size ≤ B
  frame : ∀ B, B < H.size → (∀ c O N, β c = some (B, O, N) → ¬ h.live c) → H'[B]? = H[B]?

/-- What of a world no operation of the machine touches. -/
structure Kp (w w' : World) : Prop where
  os : w'.os = w.os
  tape : w'.tape = w.tape
  output : w'.output = w.output

theorem Kp.refl (w : World) : Kp w w := ⟨rfl, rfl, rfl⟩
theorem Kp.trans {a b c : World} (h : Kp a b) (k : Kp b c) : Kp a c := ⟨k.os.trans h.os, k.tape.trans h.tape, k.output.trans h.output⟩

structure TnW (β : Inj) (h : AHeap) (w : World) (β' : Inj) (h' : AHeap) (w' : World) : Prop extends Tn β h w.heap β' h' w'.heap where
  kp : Kp w w'

theorem Tn.refl {β : Inj} {h : AHeap} {H : Array Obj} (hr : HR β h H) : Tn β h H β h H :=
  ⟨fun _ _ e => e, fun _ _ e => .inl e, Nat.le_refl _, hr, Nat.le_refl _, fun b _ O N e l => .inl ⟨b, O, N, e, l⟩, fun _ _ _ => rfl⟩

theorem Tn.trans {β₁ β₂ β₃ : Inj} {h₁ h₂ h₃ : AHeap} {H₁ H₂ H₃ : Array Obj} (a : Tn β₁ h₁ H₁ β₂ h₂ H₂) (b : Tn β₂ h₂ H₂ β₃ h₃ H₃) :
    Tn β₁ h₁ H₁ β₃ h₃ H₃ where
  ext := fun x y e => b.ext _ _ (a.ext _ _ e)
  new := fun x y e => by
    rcases b.new _ _ e with e | l
    · exact a.new _ _ e
    · exact .inr (Nat.le_trans a.next l)
  next := Nat.le_trans a.next b.next
  rel := b.rel
  sz := Nat.le_trans a.sz b.sz
  live := fun x B O N e l => by
    rcases b.live _ _ _ _ e l with ⟨c, O', N', hc, hl⟩ | hs
    · exact a.live _ _ _ _ hc hl
    · exact .inr (Nat.le_trans a.sz hs)
  frame := fun B hB hn => by
    rw [b.frame B (Nat.lt_of_lt_of_le hB a.sz), a.frame B hB hn]
    intro c O N hc hl
    rcases a.live _ _ _ _ hc hl with ⟨d, O', N', hd, hl'⟩ | hs
    · exact hn _ _ _ hd hl'
    · omega

/-- A world that differs in what it drew, not in its memory. -/
theorem CellsR.mono {β β' : Inj} (hb : β.le β') {cs : List AV} {O : Nat} {c : Array Value} (h : CellsR β cs O c) : CellsR β' cs O c :=
  fun i v e => let ⟨v', h1, h2, h3⟩ := h i v e; ⟨v', h1, h2.mono hb, h3⟩

theorem OR.mono {β β' : Inj} (hb : β.le β') {H : Array Obj} {B O N : Nat} {o : AObj} (h : OR β H B O N o) : OR β' H B O N o := by
  cases o with
  | cells cs fz => obtain ⟨c, e, lo, hi, h1, h2, h3, h4, h5⟩ := h; exact ⟨c, e, lo, hi, h1, h2, h3, h4, h5.mono hb⟩
  | map es cl => obtain ⟨es', h1, h2⟩ := h; exact ⟨es', h1, h2.mono hb⟩
  | miter m s sn l => obtain ⟨h0, m', h1, h2⟩ := h; exact ⟨h0, m', h1, h2.mono hb⟩
  | kbox m => obtain ⟨h0, m', e, lo, hi, h1, h2⟩ := h; exact ⟨h0, m', e, lo, hi, h1, h2.mono hb⟩
  | gone => trivial

theorem OR.heap {β : Inj} {H H' : Array Obj} {B O N : Nat} {o : AObj} (hh : H'[B]? = H[B]?) (h : OR β H B O N o) : OR β H' B O N o := by
  cases o <;> simp only [OR] at h ⊢ <;> (try rw [hh]) <;> exact h

def Inj.add (β : Inj) (b : Nat) (x : Nat × Nat × Nat) : Inj := fun c => if c = b then some x else β c

theorem Inj.le_add {β : Inj} {b : Nat} {x : Nat × Nat × Nat} (h : β b = none) : β.le (β.add b x) := by
  intro c y hc
  unfold Inj.add
  split
  · rename_i e; subst e; rw [h] at hc; simp at hc
  · exact hc

theorem HR.fresh {β : Inj} {h : AHeap} {H : Array Obj} (hr : HR β h H) : β h.next = none := by
  cases e : β h.next with
  | none => rfl
  | some x => exact absurd (hr.dom _ _ e) (by omega)

theorem AHeap.live_set (h : AHeap) (b : Nat) (o : AObj) (c : Nat) (hl : (h.set b o).live c) : (c = b ∧ o.live = true) ∨ (c ≠ b ∧ h.live c) := by
  obtain ⟨x, hx, hl⟩ := hl
  rw [AHeap.get_set] at hx
  split at hx
  · rename_i e; simp at hx; subst hx; exact .inl ⟨e, hl⟩
  · rename_i e; exact .inr ⟨e, x, hx, hl⟩

theorem AHeap.live_push (h : AHeap) (o : AObj) (c : Nat) (hl : (h.push o).live c) : (c = h.next ∧ o.live = true) ∨ (c ≠ h.next ∧ h.live c) := by
  obtain ⟨x, hx, hl⟩ := hl
  rw [AHeap.get_push] at hx
  split at hx
  · rename_i e; simp at hx; subst hx; exact .inl ⟨e, hl⟩
  · rename_i e; exact .inr ⟨e, x, hx, hl⟩

/-- A new block. -/
theorem TnW.refl {β : Inj} {h : AHeap} {w : World} (hr : HR β h w.heap) : TnW β h w β h w := ⟨.refl hr, .refl w⟩
theorem TnW.trans {β₁ β₂ β₃ : Inj} {h₁ h₂ h₃ : AHeap} {w₁ w₂ w₃ : World} (a : TnW β₁ h₁ w₁ β₂ h₂ w₂) (b : TnW β₂ h₂ w₂ β₃ h₃ w₃) : TnW β₁ h₁ w₁ β₃ h₃ w₃ := ⟨a.toTn.trans b.toTn, a.kp.trans b.kp⟩

theorem Tn.push {β : Inj} {h : AHeap} {H : Array Obj} (hr : HR β h H) (o : AObj) (O' : Obj) (N : Nat)
    (ho : ∀ β', β.le β' → OR β' (H.push O') H.size 0 N o) :
    Tn β h H (β.add h.next (H.size, 0, N)) (h.push o) (H.push O') := by
  have hf := hr.fresh
  have hle := Inj.le_add (x := (H.size, 0, N)) hf
  refine ⟨hle, ?_, by simp, ?_, by simp, ?_, ?_⟩
  · intro b x e
    unfold Inj.add at e
    split at e
    · exact .inr (by omega)
    · exact .inl e
  · refine ⟨?_, ?_, ?_, ?_, ?_⟩
    · intro b hb
      simp only [AHeap.next_push] at hb
      rw [AHeap.get_push, if_neg (by omega)]
      exact hr.top _ (by omega)
    · intro b x e
      unfold Inj.add at e
      simp only [AHeap.next_push]
      split at e
      · omega
      · have := hr.dom _ _ e; omega
    · intro b B O M e
      unfold Inj.add at e
      simp only [Array.size_push]
      split at e
      · simp at e; omega
      · have := hr.low _ _ _ _ e; omega
    · intro b c B O M O' M' hb hc lb lc
      unfold Inj.add at hb hc
      split at hb <;> split at hc
      · omega
      · simp at hb; have := hr.low _ _ _ _ hc; omega
      · simp at hc; have := hr.low _ _ _ _ hb; omega
      · rename_i n1 n2
        rcases AHeap.live_push _ _ _ lb with ⟨e, _⟩ | ⟨_, lb⟩
        · exact absurd e n1
        · rcases AHeap.live_push _ _ _ lc with ⟨e, _⟩ | ⟨_, lc⟩
          · exact absurd e n2
          · exact hr.inj _ _ _ _ _ _ _ hb hc lb lc
    · intro b B O M x hb hx
      unfold Inj.add at hb
      rw [AHeap.get_push] at hx
      split at hb
      · rename_i e
        rw [if_pos e] at hx
        simp at hb hx
        obtain ⟨rfl, rfl, rfl⟩ := hb
        subst hx
        exact ho _ hle
      · rename_i e
        rw [if_neg e] at hx
        have := hr.low _ _ _ _ hb
        exact ((hr.obj _ _ _ _ _ hb hx).heap (by rw [Array.getElem?_push]; split; omega; rfl)).mono hle
  · intro b B O M e l
    unfold Inj.add at e
    split at e
    · simp at e; right; omega
    · rename_i hne
      rcases AHeap.live_push _ _ _ l with ⟨e', _⟩ | ⟨_, l⟩
      · exact absurd e' hne
      · exact .inl ⟨b, O, M, e, l⟩
  · intro B hB _
    rw [Array.getElem?_push]; split
    · omega
    · rfl

/-- A block that is another one now. -/
theorem Tn.set {β : Inj} {h : AHeap} {H : Array Obj} (hr : HR β h H) {b B O N : Nat} (hb : β b = some (B, O, N)) (o : AObj)
    (H' : Array Obj) (hs : H'.size = H.size) (hother : ∀ C, C ≠ B → H'[C]? = H[C]?) (hl : h.live b) (ho : OR β H' B O N o) :
    Tn β h H β (h.set b o) H' := by
  refine ⟨fun _ _ e => e, fun _ _ e => .inl e, by simp, ?_, by omega, ?_, ?_⟩
  · refine ⟨?_, ?_, ?_, ?_, ?_⟩
    · intro c hc
      have := hr.dom _ _ hb
      simp only [AHeap.next_set] at hc
      rw [AHeap.get_set, if_neg (by omega)]
      exact hr.top _ hc
    · intro c x e; exact hr.dom _ _ e
    · intro c C P M e; rw [hs]; exact hr.low _ _ _ _ e
    · intro c d C P M P' M' hc hd lc ld
      have lc' : h.live c := by
        rcases AHeap.live_set _ _ _ _ lc with ⟨e, _⟩ | ⟨_, lc⟩
        · rw [e]; exact hl
        · exact lc
      have ld' : h.live d := by
        rcases AHeap.live_set _ _ _ _ ld with ⟨e, _⟩ | ⟨_, ld⟩
        · rw [e]; exact hl
        · exact ld
      exact hr.inj _ _ _ _ _ _ _ hc hd lc' ld'
    · intro c C P M x hc hx
      rw [AHeap.get_set] at hx
      split at hx
      · rename_i e
        subst e
        rw [hb] at hc
        simp at hc hx
        obtain ⟨rfl, rfl, rfl⟩ := hc
        subst hx
        exact ho
      · rename_i e
        have := hr.obj _ _ _ _ _ hc hx
        by_cases hCB : C = B
        · subst hCB
          have hd : x.live = false := by
            cases hxl : x.live with
            | false => rfl
            | true => exact absurd (hr.inj _ _ _ _ _ _ _ hc hb ⟨x, hx, hxl⟩ hl) e
          cases x <;> simp [AObj.live] at hd
          trivial
        · exact this.heap (hother _ hCB)
  · intro c C P M e l
    refine .inl ⟨c, P, M, e, ?_⟩
    rcases AHeap.live_set _ _ _ _ l with ⟨e', _⟩ | ⟨_, l⟩
    · rw [e']; exact hl
    · exact l
  · intro C hC hn
    exact hother _ (fun e => hn b O N (e ▸ hb) hl)

end Go.AM
namespace Go.AM

def tdOf : TypeDesc → TD
  | .bool => .bool
  | .int k => .int k
  | .string => .str
  | .pointer e => .ptr e
  | .slice e => .slice e
  | .array n e => .array n e
  | .map k e => .map k e
  | .struct fs => .struct (fs.toList.map fun f => (f.offset, f.type))
  | .func _ _ _ => .func
  | .interface _ => .iface
  | _ => .other

def TIok (P : Program) (t : TypeId) (i : TI) : Prop :=
  ∃ d ti, P.underlying t = some d ∧ P.info? t = some ti ∧ tdOf d = i.d ∧ ti.size = i.size ∧ ti.bytes = i.bytes ∧
    (i.zero = .dead ∨ ∃ z, ti.zero = some z ∧ constAV z = i.zero)

theorem tdOf_isAgg (d : TypeDesc) : (tdOf d).isAgg = (match d with | .struct _ | .array _ _ => true | _ => false) := by
  cases d <;> rfl

theorem tdOf_slice {d : TypeDesc} {e : TypeId} (h : tdOf d = .slice e) : d = .slice e := by cases d <;> simp [tdOf] at h; rw [h]
theorem tdOf_map {d : TypeDesc} {k e : TypeId} (h : tdOf d = .map k e) : d = .map k e := by cases d <;> simp [tdOf] at h; rw [h.1, h.2]
theorem tdOf_str {d : TypeDesc} (h : tdOf d = .str) : d = .string := by cases d <;> simp [tdOf] at h; rfl
theorem tdOf_bool {d : TypeDesc} (h : tdOf d = .bool) : d = .bool := by cases d <;> simp [tdOf] at h; rfl
theorem tdOf_int {d : TypeDesc} {k : IntKind} (h : tdOf d = .int k) : d = .int k := by cases d <;> simp [tdOf] at h; rw [h]
theorem tdOf_ptr {d : TypeDesc} {e : TypeId} (h : tdOf d = .ptr e) : d = .pointer e := by cases d <;> simp [tdOf] at h; rw [h]
theorem tdOf_array {d : TypeDesc} {n : Nat} {e : TypeId} (h : tdOf d = .array n e) : d = .array n e := by cases d <;> simp [tdOf] at h; rw [h.1, h.2]
theorem tdOf_func {d : TypeDesc} (h : tdOf d = .func) : ∃ a b c, d = .func a b c := by cases d <;> simp [tdOf] at h; exact ⟨_, _, _, rfl⟩
theorem tdOf_iface {d : TypeDesc} (h : tdOf d = .iface) : ∃ ms, d = .interface ms := by cases d <;> simp [tdOf] at h; exact ⟨_, rfl⟩
theorem tdOf_struct {d : TypeDesc} {fs : List (Nat × TypeId)} (h : tdOf d = .struct fs) : ∃ f, d = .struct f ∧ f.toList.map (fun f => (f.offset, f.type)) = fs := by
  cases d <;> simp [tdOf] at h; exact ⟨_, rfl, h⟩

section runs
variable {P : Program} {t : TypeId}
theorem run_und {d : TypeDesc} (h : P.underlying t = some d) (w : World) : (underlying t).run P w = .ok d w := by simp [underlying, h]
theorem run_tinfo {ti : TypeInfo} (h : P.info? t = some ti) (w : World) : (typeInfo t).run P w = .ok ti w := by simp [typeInfo, h]
theorem run_size {ti : TypeInfo} (h : P.info? t = some ti) (w : World) : (sizeOf t).run P w = .ok ti.size w := by simp [sizeOf, run_tinfo h]
theorem run_agg {d : TypeDesc} (h : P.underlying t = some d) (w : World) : (isAgg t).run P w = .ok (tdOf d).isAgg w := by
  cases d <;> simp [isAgg, run_und h, tdOf, TD.isAgg]
theorem run_zero {ti : TypeInfo} {z : Value} (h : P.info? t = some ti) (hz : ti.zero = some z) (w : World) : (zeroValue t).run P w = .ok z w := by
  simp [zeroValue, run_tinfo h, hz]
end runs

theorem str_mk (s : ByteArray) : (⟨s.data.toList.toArray⟩ : ByteArray) = s := by cases s; rfl

theorem cellAV_sound (β : Inj) (v : Value) : VR β (cellAV v) v := by
  cases v with
  | bool b => exact .bool b
  | int k n => exact .int k n
  | string s =>
    have := VR.str (β := β) s.data.toList
    rw [str_mk] at this
    exact this
  | pointer a => cases a <;> first | exact .ptrNil | exact .dead _
  | slice a l c =>
    cases a with
    | none => cases l <;> cases c <;> first | exact .sliceNil _ _ | exact .dead _
    | some a => exact .dead _
  | map r => cases r <;> first | exact .mapNil | exact .dead _
  | nilFunc => exact .nilFunc
  | nilIface => exact .nilIface
  | _ => exact .dead _

theorem cellsAV_sound (β : Inj) : ∀ (l : List Value), VRs β (l.map cellAV) l
  | [] => .nil
  | v :: l => .cons (cellAV_sound β v) (cellsAV_sound β l)

theorem constAV_sound (β : Inj) (v : Value) : VR β (constAV v) v := by
  cases v with
  | agg cs =>
    simp only [constAV]
    split
    · rename_i h
      exact .agg (cellsAV_sound β _) (by simpa only [List.all_eq_true] using h)
    · exact .dead _
  | tuple _ => exact .dead _
  | bool b => exact cellAV_sound β (.bool b)
  | int k n => exact cellAV_sound β (.int k n)
  | float k n => exact cellAV_sound β (.float k n)
  | complex k a b => exact cellAV_sound β (.complex k a b)
  | string s => exact cellAV_sound β (.string s)
  | pointer a => exact cellAV_sound β (.pointer a)
  | slice a l c => exact cellAV_sound β (.slice a l c)
  | map r => exact cellAV_sound β (.map r)
  | chan r => exact cellAV_sound β (.chan r)
  | func f a b => exact cellAV_sound β (.func f a b)
  | nilFunc => exact cellAV_sound β .nilFunc
  | iface t v => exact cellAV_sound β (.iface t v)
  | nilIface => exact cellAV_sound β .nilIface

/-- The cells of a value are related. -/
theorem VR.cells {β : Inj} {a : AV} {v : Value} {cs : List AV} (h : VR β a v) (hc : a.cells = some cs) :
    VRs β cs v.cells.toList ∧ ∀ x ∈ v.cells.toList, x.oneCell' = true := by
  cases h <;> simp [AV.cells] at hc <;> (try subst hc) <;>
    first
      | (refine ⟨.cons ?_ .nil, ?_⟩
         · first
            | exact .bool _ | exact .int _ _ | exact .str _ | exact .ptrNil | exact .ptr ‹_› | exact .sliceNil _ _
            | exact .slice ‹_› ‹_› ‹_› ‹_› ‹_› | exact .mapNil | exact .map ‹_› | exact .func _ ‹_› ‹_› | exact .nilFunc | exact .iface _ ‹_› | exact .nilIface
         · simp [Value.cells, Value.oneCell'])
      | exact ⟨‹_›, ‹_›⟩

theorem cell?_of {w : World} {B j : Nat} {c : Array Value} {e : TypeId} {f : Nat × Nat} (h : w.heap[B]? = some (.cells c e f)) :
    w.cell? ⟨B, j, none⟩ = c[j]? := by simp [World.cell?, h]

theorem add_none (B j n : Nat) : (⟨B, j, none⟩ : Addr).add n = ⟨B, j + n, none⟩ := by
  unfold Addr.add; split
  · rename_i h; subst h; rfl
  · rfl

theorem loadCells_sound {P : Program} {β : Inj} {cs : List AV} {B O o n : Nat} {c : Array Value} {e : TypeId} {f : Nat × Nat}
    (hc : CellsR β cs O c) (hn : o + n ≤ cs.length) :
    ∃ vs : List Value, (∀ w1 : World, w1.heap[B]? = some (.cells c e f) → (loadCells ⟨B, O + o, none⟩ n).run P w1 = .ok vs.toArray w1) ∧ VRs β ((cs.drop o).take n) vs ∧ ∀ x ∈ vs, x.oneCell' = true := by
  have key : ∀ j, j < n → ∃ v', c[O + o + j]? = some v' ∧ VR β (cs[o + j]?.getD .dead) v' ∧ v'.oneCell' = true := by
    intro j hj
    have h1 : cs[o + j]? = some (cs[o + j]'(by omega)) := List.getElem?_eq_getElem (by omega)
    obtain ⟨v', h2, h3, h4⟩ := hc _ _ h1
    exact ⟨v', by rw [← h2]; congr 1; omega, by rw [h1]; exact h3, h4⟩
  refine ⟨(c.toList.drop (O + o)).take n, ?_, ?_, ?_⟩
  · intro w hH
    have hlen : ((c.toList.drop (O + o)).take n).length = n := by
      simp only [List.length_take, List.length_drop, Array.length_toList]
      cases n with
      | zero => simp
      | succ n =>
        obtain ⟨v', h2, _⟩ := key n (by omega)
        have := (Array.getElem?_eq_some_iff.1 h2).1
        omega
    have hw := run_loadCells_list (P := P) (w := w) ⟨B, O + o, none⟩ ((c.toList.drop (O + o)).take n) (by
      intro j v hj
      rw [add_none, cell?_of hH]
      rw [List.getElem?_take] at hj
      split at hj
      · rw [List.getElem?_drop] at hj; simpa using hj
      · simp at hj)
    rw [hlen] at hw
    exact hw
  · apply VRs.of_get
    · simp only [List.length_take, List.length_drop, Array.length_toList]
      cases n with
      | zero => simp
      | succ n =>
        obtain ⟨v', h2, _⟩ := key n (by omega)
        have := (Array.getElem?_eq_some_iff.1 h2).1
        omega
    · intro i a v ha hv
      rw [List.getElem?_take] at ha hv
      split at ha
      · rename_i hi
        rw [if_pos hi] at hv
        rw [List.getElem?_drop] at ha hv
        obtain ⟨v', h2, h3, _⟩ := key i hi
        rw [Array.getElem?_toList] at hv
        rw [h2] at hv
        simp at hv
        subst hv
        rw [ha] at h3
        exact h3
      · simp at ha
  · intro x hx
    obtain ⟨i, hi⟩ := List.getElem?_of_mem hx
    rw [List.getElem?_take] at hi
    split at hi
    · rename_i hlt
      rw [List.getElem?_drop, Array.getElem?_toList] at hi
      obtain ⟨v', h2, _, h4⟩ := key i hlt
      rw [h2] at hi
      simp at hi
      subst hi
      exact h4
    · simp at hi

theorem ldVar_sound {P : Program} {t : TypeId} {i : TI} {h : AHeap} {a : Nat × Nat} {v : AV} {β : Inj} {w : World} {B O N : Nat}
    (hl : ldVar i h a = some v) (ht : TIok P t i) (hr : HR β h w.heap) (hb : β a.1 = some (B, O, N)) :
    ∃ v', (loadVar t ⟨B, O + a.2, none⟩).run P w = .ok v' w ∧ VR β v v' := by
  obtain ⟨d, ti, hu, hi, hd, hs, _, _⟩ := ht
  unfold ldVar at hl
  cases hg : h.get a.1 with
  | none => rw [hg] at hl; simp at hl
  | some o =>
    rw [hg] at hl
    cases o with
    | cells cs fz =>
      obtain ⟨c, e, lo, hi', hH, hN, _, hO, hC⟩ := hr.obj _ _ _ _ _ hb hg
      simp only at hl
      split at hl
      · rename_i hagg
        split at hl
        · rename_i hlen
          simp at hl
          subst hl
          obtain ⟨vs, h1, h2, h3⟩ := loadCells_sound (P := P) (e := e) (f := (lo, hi')) (B := B) (n := i.size) hC hlen
          refine ⟨.agg vs.toArray, ?_, .agg (by simpa using h2) (by simpa using h3)⟩
          simp [loadVar, run_agg hu, hd, hagg, run_size hi, hs, h1 w hH]
        · simp at hl
      · rename_i hagg
        obtain ⟨v', h1, h2, _⟩ := hC _ _ hl
        refine ⟨v', ?_, h2⟩
        simp [loadVar, run_agg hu, hd, hagg, cell?_of hH, h1]
    | _ => simp at hl

end Go.AM
namespace Go.AM

/-- A type of numbers, strings, booleans, and structs of such. -/
def flatB (P : Program) : Nat → TypeId → Bool
  | 0, _ => false
  | d + 1, t =>
    match P.underlying t with
    | some (.int _) | some .string | some .bool => true
    | some (.struct fs) => !P.stoodInHeld t && fs.toList.all (fun f => decide (f.name ≠ "_") && flatB P d f.type)
    | _ => false

def FlatOk (P : Program) (t : TypeId) : Prop := P.eqGuardType P.depth t = false ∧ flatB P 8 t = true

/-- Does each drawn region have its order, each place its slot? -/
def slotsOk (nt : Nat) : Code → Bool
  | .region _ ops _ => ops.toList.all fun o => match o.dst with | some d => decide (d < nt) | none => true
  | .seq a b => slotsOk nt a && slotsOk nt b
  | .cond _ a b => slotsOk nt a && slotsOk nt b
  | .block _ a => slotsOk nt a
  | .loop a => slotsOk nt a
  | _ => true

theorem intOp_sound {P : Program} {β : Inj} {op : BinOp} {k : IntKind} {a b : Int} {v : AV} (h : intOp op k a b = some v) (t : TypeId) (w : World) :
    ∃ v', (binOp op t (.int k a) (.int k b)).run P w = .ok v' w ∧ VR β v v' := by
  rw [intOp_eq] at h
  cases op
  case shl => simp [intOpS] at h
  case shr => simp [intOpS] at h
  case quo =>
    simp only [intOpS] at h
    split at h
    · simp at h
    · rename_i hb
      injection h with h; subst h
      refine ⟨_, ?_, .int _ _⟩
      simp [binOp, Op.intDiv, hb]
  case rem =>
    simp only [intOpS] at h
    split at h
    · simp at h
    · rename_i hb
      injection h with h; subst h
      refine ⟨_, ?_, .int _ _⟩
      simp [binOp, Op.intDiv, hb]
  all_goals
    simp only [intOpS] at h
    injection h with h; subst h
    first
      | (refine ⟨_, ?_, .int _ _⟩; simp only [binOp, ne_eq, not_true_eq_false, if_false]; rfl)
      | (refine ⟨_, ?_, .bool _⟩; simp only [binOp, ne_eq, not_true_eq_false, if_false]; rfl)

theorem shiftOp_sound {P : Program} {β : Inj} {op : BinOp} {k j : IntKind} {a b : Int} {v : AV} (h : shiftOp op k a b = some v) (t : TypeId) (w : World) :
    ∃ v', (binOp op t (.int k a) (.int j b)).run P w = .ok v' w ∧ VR β v v' := by
  rw [shiftOp_eq] at h
  unfold shiftOpS at h
  split at h
  · simp at h
  · rename_i hb
    cases op <;> simp at h <;> subst h <;> exact ⟨_, by simp [binOp, Op.shift, hb], .int _ _⟩

theorem strOp_sound {P : Program} {β : Inj} {op : BinOp} {a b : List UInt8} {v : AV} (h : strOp op a b = some v) (t : TypeId) (w : World) :
    ∃ v', (binOp op t (.string ⟨a.toArray⟩) (.string ⟨b.toArray⟩)).run P w = .ok v' w ∧ VR β v v' := by
  have e : ∀ l : List UInt8, (ByteArray.mk l.toArray).toList = l := fun l => by rw [ByteArray.toList_eq]
  cases op <;> simp only [strOp] at h <;> (try split at h) <;> (try simp at h) <;> (try subst h)
  case add.isTrue hlen =>
    refine ⟨.string ⟨(a ++ b).toArray⟩, ?_, .str _⟩
    have h1 : ¬ (((ByteArray.mk a.toArray).size + (ByteArray.mk b.toArray).size : Nat) : Int) > IntKind.i64.max := by
      have h2 : (ByteArray.mk a.toArray).size = a.length := by simp [ByteArray.size]
      have h3 : (ByteArray.mk b.toArray).size = b.length := by simp [ByteArray.size]
      rw [h2, h3]
      have h4 : IntKind.i64.max = 9223372036854775807 := by decide
      rw [h4]; omega
    have h5 : ByteArray.mk a.toArray ++ ByteArray.mk b.toArray = ⟨(a ++ b).toArray⟩ := by
      apply ByteArray.ext
      simp
    simp only [binOp, Op.stringOp, if_neg h1, h5]
    rfl
  all_goals exact ⟨_, by simp [binOp, Op.stringOp, e], .bool _⟩

theorem unA_sound {P : Program} {β : Inj} {op : UnOp} {x v : AV} {x' : Value} (h : unA op x = some v) (hx : VR β x x') (w : World) :
    ∃ v', (Op.unary op x').run P w = .ok v' w ∧ VR β v v' := by
  rw [unA_eq] at h
  cases op <;> cases hx <;> simp [unAS] at h <;> subst h
  · exact ⟨_, by simp [Op.unary, Op.intArith], .int _ _⟩
  · exact ⟨_, by simp [Op.unary, Op.intBits], .int _ _⟩
  · exact ⟨_, by simp [Op.unary], .bool _⟩

section eql
variable {P : Program} {β : Inj} {w : World}

theorem run_equal {t : TypeId} {x y : Value} {r : Result Bool} (h : ∀ n, (Op.equalIn (n + 1) t x y).run P w = r) : (Op.equal t x y).run P w = r := h 9999

theorem sameAddr_same (a b : Addr) (h : a.block = b.block) : (sameAddr a b).run P w = .ok (a == b) w := by
  simp [sameAddr, h]

theorem sameAddr_apart {a b : Addr} {c c' : Array Value} {e e' : TypeId} {lo lo' : Nat} (h : a.block ≠ b.block)
    (ha : w.heap[a.block]? = some (.cells c e (lo, lo))) (hb : w.heap[b.block]? = some (.cells c' e' (lo', lo'))) :
    (sameAddr a b).run P w = .ok false w := by
  have fa : ∀ o s, w.frozen? ⟨a.block, o, s⟩ = false := by
    intro o s; simp only [World.frozen?, ha]; simp
  have fb : ∀ o s, w.frozen? ⟨b.block, o, s⟩ = false := by
    intro o s; simp only [World.frozen?, hb]; simp
  have fa' : w.frozen? a = false := fa a.off a.spot
  have sa : w.shape? a.block = some (e, c.size) := by simp [World.shape?, ha]
  have sb : w.shape? b.block = some (e', c'.size) := by simp [World.shape?, hb]
  have hne : (a.block == b.block) = false := by simpa using h
  have fb' : w.frozen? b = false := fb b.off b.spot
  simp [sameAddr, hne, fa', noView, viewAt, sa, sb, mayBeOne, stringish, fb', fa, fb]

theorem eqGuard_ok (op : BinOp) (t : TypeId) (ox oy : Operand) (x' y' : Value) (h1 : x' = .nilIface → y' = .nilIface → False)
    (h2 : ∀ xs ys, x' = .agg xs → y' = .agg ys → False) (w : World) : (eqGuard op t ox oy x' y').run P w = .ok () w := by
  unfold eqGuard
  cases op <;> (try rfl) <;> cases x' <;> (try rfl) <;> cases y' <;> first | rfl | exact (h1 rfl rfl).elim | exact (h2 _ _ rfl rfl).elim

theorem eqGuard_nil (op : BinOp) (t : TypeId) (ox oy : Operand) (h : (isConst ox || isConst oy) = true) (w : World) :
    (eqGuard op t ox oy .nilIface .nilIface).run P w = .ok () w := by
  unfold eqGuard
  cases op <;> (try rfl) <;> cases ox <;> (try rfl) <;> cases oy <;> first | rfl | simp [isConst] at h

theorem extract_list (c : Array Value) (a n : Nat) : (c.extract a (a + n)).toList = (c.toList.drop a).take n := by
  rw [Array.toList_extract, List.extract_eq_take_drop]; congr 1; omega

theorem partA_sound {t : TypeId} {j : TI} {cs : List AV} {cs' : Array Value} {off : Nat} {v : AV} (ht : TIok P t j) (he : partA j cs off = some v)
    (hv : VRs β cs cs'.toList) (h1 : ∀ x ∈ cs'.toList, x.oneCell' = true) : ∃ v', (part t cs' off).run P w = .ok v' w ∧ VR β v v' := by
  obtain ⟨d, ti, hu, hinf, hd, hs, _⟩ := ht
  unfold partA at he
  split at he
  · rename_i hagg
    split at he
    · simp at he; subst he
      refine ⟨.agg (cs'.extract off (off + j.size)), ?_, .agg ?_ ?_⟩
      · simp [part, run_agg hu, hd, hagg, run_size hinf, hs]
      · rw [extract_list]; exact (hv.drop _).take _
      · rw [extract_list]; intro x hx; exact h1 x (List.mem_of_mem_drop (List.mem_of_mem_take hx))
    · simp at he
  · rename_i hagg
    obtain ⟨v', g1, g2⟩ := hv.get he
    refine ⟨v', ?_, g2⟩
    have : cs'[off]? = some v' := by simpa using g1
    simp [part, run_agg hu, hd, hagg, this]

theorem eqI_run (a b : Int) : eqI a b = (a == b) := eqI_eq a b

theorem eqFs_sound {cf : Cfg} (hty : ∀ t i, cf.ty t = some i → TIok P t i) {eq : TypeId → AV → AV → Option Bool} {m d : Nat}
    (heq : ∀ {t : TypeId} {x y : AV} {x' y' : Value} {r : Bool}, eq t x y = some r → flatB P m t = true → VR β x x' → VR β y y' → (Op.equalIn d t x' y').run P w = .ok r w) : ∀ {fs : List Field} {xs ys : List AV} {xs' ys' : Array Value} {r : Bool},
    eqFs cf eq (fs.map fun f => (f.offset, f.type)) xs ys = some r → (∀ f ∈ fs, f.name ≠ "_" ∧ flatB P m f.type = true) →
    VRs β xs xs'.toList → (∀ x ∈ xs'.toList, x.oneCell' = true) → VRs β ys ys'.toList → (∀ x ∈ ys'.toList, x.oneCell' = true) → (Op.eqFields d xs' ys' fs).run P w = .ok r w
  | [], _, _, _, _, r, h, _, _, _, _, _ => by
    simp [eqFs] at h
    subst h
    simp [Op.eqFields]
  | f :: fs, xs, ys, xs', ys', r, h, hf, h1, o1, h2, o2 => by
    simp only [List.map_cons, eqFs] at h
    obtain ⟨hn, hfb⟩ := hf f (.head _)
    cases hj : cf.ty f.type with
    | none => rw [hj] at h; simp at h
    | some j =>
      rw [hj] at h
      simp only at h
      split at h
      · rename_i a b ha hb
        obtain ⟨a', pa, va⟩ := partA_sound (P := P) (w := w) (hty _ _ hj) ha h1 o1
        obtain ⟨b', pb, vb⟩ := partA_sound (P := P) (w := w) (hty _ _ hj) hb h2 o2
        simp only [Op.eqFields, if_pos hn, Sem.run_bind, pa, pb, Result.andThen_ok]
        split at h
        · rename_i he
          rw [heq he hfb va vb]
          simp only [Result.andThen_ok, Bool.not_true, Bool.false_eq_true, if_false]
          exact eqFs_sound hty heq h (fun g hg => hf g (.tail _ hg)) h1 o1 h2 o2
        · rename_i he
          injection h with h
          subst h
          rw [heq he hfb va vb]
          simp
        · simp at h
      · simp at h

theorem eqV_sound {cf : Cfg} (hty : ∀ t i, cf.ty t = some i → TIok P t i) : ∀ (n : Nat) {m d : Nat} {t : TypeId} {x y : AV} {x' y' : Value} {r : Bool},
    eqV cf n t x y = some r → flatB P m t = true → n ≤ d → VR β x x' → VR β y y' → (Op.equalIn d t x' y').run P w = .ok r w
  | 0, _, _, _, _, _, _, _, _, h, _, _, _, _ => by simp [eqV] at h
  | n + 1, m, d, t, x, y, x', y', r, h, hf, hd, hx, hy => by
    obtain ⟨d, rfl⟩ : ∃ e, d = e + 1 := ⟨d - 1, by omega⟩
    unfold eqV at h
    cases hi : cf.ty t with
    | none => rw [hi] at h; simp at h
    | some i =>
      rw [hi] at h
      obtain ⟨de, ti, hu, hinf, hde, _⟩ := hty _ _ hi
      simp only at h
      split at h
      · rename_i hid
        obtain ⟨k0, rfl⟩ : ∃ k0, de = .int k0 := by
          have := hde.trans hid
          cases de <;> simp [tdOf] at this
          exact ⟨_, rfl⟩
        split at h
        · rename_i hk
          injection h with h
          subst h; subst hk
          cases hx; cases hy
          simp [Op.equalIn, run_und hu, eqI_eq]
        · simp at h
      · rename_i hid
        have := tdOf_str (hde.trans hid); subst this
        injection h with h
        subst h
        cases hx; cases hy
        rename_i a b
        simp only [Op.equalIn, Sem.run_bind, run_und hu, Result.andThen_ok, Sem.run_pure]
        congr 1
        rw [beq_toListBytes, ByteArray.toList_eq, ByteArray.toList_eq]
      · rename_i hid
        have := tdOf_bool (hde.trans hid); subst this
        injection h with h
        subst h
        cases hx; cases hy
        simp [Op.equalIn, run_und hu]
      · rename_i fs xs ys hid
        obtain ⟨fields, rfl, hm⟩ := tdOf_struct (hde.trans hid)
        cases hx with
        | agg h1 o1 =>
          cases hy with
          | agg h2 o2 =>
            cases m with
            | zero => simp [flatB] at hf
            | succ m =>
              simp only [flatB, hu, Bool.and_eq_true, Bool.not_eq_true'] at hf
              have hfo : P.fieldsOf t = fields := by simp [Program.fieldsOf, hu]
              rw [run_equalIn_struct w d t _ _ (by rw [hfo]; exact hu) hf.1, hfo]
              have hall := List.all_eq_true.1 hf.2
              rw [← hm] at h
              exact eqFs_sound hty (m := m) (fun he hfb va vb => eqV_sound hty n he hfb (by omega) va vb) h (fun f hf' => by have := hall f hf'; simpa [Bool.and_eq_true] using this) h1 o1 h2 o2
      · simp at h

theorem eqlOp_sound {cf : Cfg} {h : AHeap} {t : TypeId} {lit : Bool} {x y : AV} {b : Bool} {x' y' : Value}
    (hty : ∀ t i, cf.ty t = some i → TIok P t i) (hflat : ∀ t, cf.flat t = true → FlatOk P t)
    (he : eqlOp cf h t lit x y = some b) (hx : VR β x x') (hy : VR β y y') (hr : HR β h w.heap) :
    (Op.equal t x' y').run P w = .ok b w ∧
      ∀ (op : BinOp) (ox oy : Operand), lit = (isConst ox || isConst oy) → (eqGuard op t ox oy x' y').run P w = .ok () w := by
  unfold eqlOp at he
  cases hi : cf.ty t with
  | none => rw [hi] at he; simp at he
  | some i =>
    rw [hi] at he
    obtain ⟨d, ti, hu, hinf, hd, _⟩ := hty _ _ hi
    have hG : ∀ (op : BinOp) (ox oy : Operand), (x' = .nilIface → y' = .nilIface → False) → (∀ xs ys, x' = .agg xs → y' = .agg ys → False) →
        (eqGuard op t ox oy x' y').run P w = .ok () w := by
      intro op ox oy h1 h2
      exact eqGuard_ok op t ox oy x' y' h1 h2 w
    have hG' : (x' ≠ .nilIface ∨ y' ≠ .nilIface) → (∀ xs ys, x' = .agg xs → y' = .agg ys → False) → ∀ (op : BinOp) (ox oy : Operand),
        (eqGuard op t ox oy x' y').run P w = .ok () w := fun hn ha op ox oy =>
      hG op ox oy (fun e1 e2 => by rcases hn with hn | hn <;> simp_all) ha
    simp only at he
    split at he
    case h_1 a b' hd' =>
      cases hx; cases hy
      have := tdOf_bool (hd.trans hd'); subst this
      simp at he; subst he
      exact ⟨by refine run_equal fun n => ?_; simp [Op.equalIn, run_und hu], fun op ox oy _ => hG' (.inl (by simp)) (by simp) op ox oy⟩
    case h_2 e b' hd' =>
      cases hx
      have := tdOf_ptr (hd.trans hd'); subst this
      simp at he; subst he
      cases hy <;> exact ⟨by refine run_equal fun n => ?_; simp [Op.equalIn, run_und hu], fun op ox oy _ => hG' (.inl (by simp)) (by simp) op ox oy⟩
    case h_3 e a hd' =>
      cases hy
      have := tdOf_ptr (hd.trans hd'); subst this
      simp at he; subst he
      cases hx
      exact ⟨by refine run_equal fun n => ?_; simp [Op.equalIn, run_und hu], fun op ox oy _ => hG' (.inl (by simp)) (by simp) op ox oy⟩
    case h_4 e a b' hd' =>
      have := tdOf_ptr (hd.trans hd'); subst this
      refine ⟨?_, fun op ox oy _ => hG' (.inl (by cases hx; simp)) (by cases hx; simp) op ox oy⟩
      cases hje : cf.ty e with
      | none => rw [hje] at he; simp at he
      | some j =>
        rw [hje] at he
        obtain ⟨d2, ti2, hu2, hinf2, hd2, hs2, _⟩ := hty _ _ hje
        simp only at he
        split at he
        · simp at he
        · rename_i hsz
          obtain ⟨ab, ao⟩ := a
          obtain ⟨bb, bo⟩ := b'
          cases hx with
          | @ptr _ _ B1 O1 N1 h1 =>
            cases hy with
            | @ptr _ _ B2 O2 N2 h2 =>
              simp only at he
              split at he
              · rename_i heq
                subst heq
                rw [h1] at h2
                simp at h2
                obtain ⟨rfl, rfl, rfl⟩ := h2
                simp at he; subst he
                refine run_equal fun n => ?_
                simp [Op.equalIn, run_und hu, run_size hinf2, hs2, hsz, sameAddr_same]
                rw [Bool.eq_iff_iff]; simp
              · rename_i hne
                split at he
                · rename_i c1 l1 c2 l2 g1 g2
                  simp at he; subst he
                  obtain ⟨c, e1, lo, hi1, hH, _, hlo, _⟩ := hr.obj _ _ _ _ _ h1 g1
                  obtain ⟨c', e2, lo', hi2, hH', _, hlo', _⟩ := hr.obj _ _ _ _ _ h2 g2
                  simp at hlo hlo'
                  subst hlo; subst hlo'
                  have hBB : B1 ≠ B2 := by
                    intro e; subst e
                    exact hne (hr.inj _ _ _ _ _ _ _ h1 h2 ⟨_, g1, rfl⟩ ⟨_, g2, rfl⟩)
                  have hsa := sameAddr_apart (P := P) (w := w) (a := ⟨B1, O1 + ao, none⟩) (b := ⟨B2, O2 + bo, none⟩) hBB hH hH'
                  clear hH hH'
                  refine run_equal fun n => ?_
                  simp [Op.equalIn, run_und hu, run_size hinf2, hs2, hsz, hsa]
                · simp at he
    case h_5 hd' =>
      cases hx; cases hy
      obtain ⟨ms, rfl⟩ := tdOf_iface (hd.trans hd')
      split at he
      · rename_i hlit
        simp at he; subst he
        refine ⟨by refine run_equal fun n => ?_; simp [Op.equalIn, run_und hu], fun op ox oy hc => ?_⟩
        exact eqGuard_nil op t ox oy (hc ▸ hlit) w
      · simp at he
    case h_6 hd' =>
      cases hx; cases hy
      obtain ⟨ms, rfl⟩ := tdOf_iface (hd.trans hd')
      simp at he; subst he
      exact ⟨by refine run_equal fun n => ?_; simp [Op.equalIn, run_und hu], fun op ox oy _ => hG' (.inr (by simp)) (by simp) op ox oy⟩
    case h_7 hd' =>
      cases hx; cases hy
      obtain ⟨ms, rfl⟩ := tdOf_iface (hd.trans hd')
      simp at he; subst he
      exact ⟨by refine run_equal fun n => ?_; simp [Op.equalIn, run_und hu], fun op ox oy _ => hG' (.inl (by simp)) (by simp) op ox oy⟩
    case h_8 fs xs ys hd' =>
      cases hx with
      | agg h1 _ =>
        cases hy with
        | agg h2 _ =>
          split at he
          · rename_i hfl
            obtain ⟨f1, f2⟩ := hflat _ hfl
            refine ⟨eqV_sound hty 8 he f2 (by decide) (.agg h1 (by assumption)) (.agg h2 (by assumption)), fun op ox oy _ => ?_⟩
            unfold eqGuard
            cases op <;> (try rfl) <;> simp [f1]
          · simp at he
    case h_9 hd' =>
      have := tdOf_slice (hd.trans hd'); subst this
      simp at he; subst he
      cases hx
      cases hy <;> exact ⟨by refine run_equal fun n => ?_; simp [Op.equalIn, run_und hu], fun op ox oy _ => hG' (.inl (by simp)) (by simp) op ox oy⟩
    case h_10 hd' =>
      have := tdOf_slice (hd.trans hd'); subst this
      simp at he; subst he
      cases hx
      cases hy
      exact ⟨by refine run_equal fun n => ?_; simp [Op.equalIn, run_und hu], fun op ox oy _ => hG' (.inl (by simp)) (by simp) op ox oy⟩
    case h_11 hd' =>
      have := tdOf_map (hd.trans hd'); subst this
      simp at he; subst he
      cases hx
      cases hy <;> exact ⟨by refine run_equal fun n => ?_; simp [Op.equalIn, run_und hu], fun op ox oy _ => hG' (.inl (by simp)) (by simp) op ox oy⟩
    case h_12 hd' =>
      have := tdOf_map (hd.trans hd'); subst this
      simp at he; subst he
      cases hx
      cases hy
      exact ⟨by refine run_equal fun n => ?_; simp [Op.equalIn, run_und hu], fun op ox oy _ => hG' (.inl (by simp)) (by simp) op ox oy⟩
    case h_13 hd' =>
      cases hx; cases hy
      obtain ⟨a, b, c, rfl⟩ := tdOf_func (hd.trans hd')
      simp at he; subst he
      exact ⟨by refine run_equal fun n => ?_; simp [Op.equalIn, run_und hu], fun op ox oy _ => hG' (.inl (by simp)) (by simp) op ox oy⟩
    case h_14 hd' =>
      cases hx; cases hy
      obtain ⟨a, b, c, rfl⟩ := tdOf_func (hd.trans hd')
      simp at he; subst he
      exact ⟨by refine run_equal fun n => ?_; simp [Op.equalIn, run_und hu], fun op ox oy _ => hG' (.inl (by simp)) (by simp) op ox oy⟩
    case h_15 hd' =>
      cases hx; cases hy
      obtain ⟨a, b, c, rfl⟩ := tdOf_func (hd.trans hd')
      simp at he; subst he
      exact ⟨by refine run_equal fun n => ?_; simp [Op.equalIn, run_und hu], fun op ox oy _ => hG' (.inl (by simp)) (by simp) op ox oy⟩
    case h_16 => simp at he
end eql

end Go.AM
namespace Go.AM

structure RdOk (P : Program) (cf : Cfg) : Prop where
  ty : ∀ t i, cf.ty t = some i → TIok P t i
  flat : ∀ t, cf.flat t = true → FlatOk P t

theorem opt_bind {α β : Type} {o : Option α} {f : α → Option β} {b : β} (h : o.bind f = some b) : ∃ a, o = some a ∧ f a = some b := by
  cases o with
  | none => simp at h
  | some a => exact ⟨a, rfl, h⟩

theorem opt_do {α β : Type} {o : Option α} {f : α → Option β} {b : β} (h : (o >>= f) = some b) : ∃ a, o = some a ∧ f a = some b := opt_bind h

theorem opt_map {α β : Type} {o : Option α} {f : α → β} {b : β} (h : o.map f = some b) : ∃ a, o = some a ∧ f a = b := by
  cases o with
  | none => simp at h
  | some a => exact ⟨a, rfl, by simpa using h⟩

section
variable {P : Program} {cf : Cfg} {β : Inj} {w : World}

def otherShape : Value → Bool
  | .int _ _ | .float _ _ | .complex _ _ _ | .string _ => false
  | _ => true

theorem binOp_eql (t : TypeId) (x y : Value) (h : otherShape x = true) :
    binOp .eql t x y = (do pure (.bool (← Op.equal t x y))) ∧ binOp .neq t x y = (do pure (.bool (!(← Op.equal t x y)))) := by
  cases x <;> (try (simp [otherShape] at h; done)) <;> exact ⟨rfl, rfl⟩

theorem eqlOp_shape {h : AHeap} {t : TypeId} {lit : Bool} {x y : AV} {b : Bool} (he : eqlOp cf h t lit x y = some b) {x' : Value} (hx : VR β x x') :
    otherShape x' = true := by
  unfold eqlOp at he
  split at he
  · simp at he
  · split at he <;> first | (cases hx; rfl) | simp at he

theorem binA_sound {h : AHeap} {op : BinOp} {t : TypeId} {ox oy : Operand} {x y v : AV} {x' y' : Value} (hc : RdOk P cf)
    (hb : binA cf h op t (isConst ox || isConst oy) x y = some v) (hx : VR β x x') (hy : VR β y y') (hr : HR β h w.heap) :
    ∃ v', (do eqGuard op t ox oy x' y'; binOp op t x' y' : Sem Value).run P w = .ok v' w ∧ VR β v v' := by
  have hplain : ∀ {r : Value}, (x' = .nilIface → y' = .nilIface → False) → (∀ xs ys, x' = .agg xs → y' = .agg ys → False) →
      (binOp op t x' y').run P w = .ok r w → (do eqGuard op t ox oy x' y'; binOp op t x' y' : Sem Value).run P w = .ok r w := by
    intro r h1 h2 h3
    simp [eqGuard_ok op t ox oy x' y' h1 h2 w, h3]
  unfold binA at hb
  split at hb
  · cases hx; cases hy
    obtain ⟨v', h1, h2⟩ := shiftOp_sound (P := P) (β := β) hb t w
    exact ⟨v', hplain (by simp) (by simp) h1, h2⟩
  · cases hx; cases hy
    obtain ⟨v', h1, h2⟩ := shiftOp_sound (P := P) (β := β) hb t w
    exact ⟨v', hplain (by simp) (by simp) h1, h2⟩
  · cases hx; cases hy
    split at hb
    · rename_i e; subst e
      obtain ⟨v', h1, h2⟩ := intOp_sound (P := P) (β := β) hb t w
      exact ⟨v', hplain (by simp) (by simp) h1, h2⟩
    · simp at hb
  · cases hx; cases hy
    obtain ⟨v', h1, h2⟩ := strOp_sound (P := P) (β := β) hb t w
    exact ⟨v', hplain (by simp) (by simp) h1, h2⟩
  · obtain ⟨b, h1, rfl⟩ := opt_map hb
    obtain ⟨h2, h3⟩ := eqlOp_sound hc.ty hc.flat h1 hx hy hr
    refine ⟨.bool b, ?_, .bool b⟩
    rw [(binOp_eql t x' y' (eqlOp_shape h1 hx)).1]
    simp [h3 _ _ _ rfl, h2]
  · obtain ⟨b, h1, rfl⟩ := opt_map hb
    obtain ⟨h2, h3⟩ := eqlOp_sound hc.ty hc.flat h1 hx hy hr
    refine ⟨.bool (!b), ?_, .bool _⟩
    rw [(binOp_eql t x' y' (eqlOp_shape h1 hx)).2]
    simp [h3 _ _ _ rfl, h2]
  · simp at hb

theorem natOf_sound {v : AV} {v' : Value} {n : Nat} (h : natOf v = some n) (hv : VR β v v') : ∃ k m, v' = .int k m ∧ 0 ≤ m ∧ m.toNat = n := by
  cases hv <;> simp [natOf] at h
  exact ⟨_, _, rfl, h.1, h.2⟩

theorem sliceBound_sound {v : AV} {v' : Value} {n y : Nat} (h : natOf v = some n) (hv : VR β v v') (hy : n ≤ y) (c : BoundsCode) :
    (Instr.sliceBound v' y c).run P w = .ok n w := by
  obtain ⟨k, m, rfl, h0, rfl⟩ := natOf_sound h hv
  have : 0 ≤ m ∧ m ≤ (y : Int) := ⟨h0, by omega⟩
  simp [Instr.sliceBound, asIntOf, this]

def OVR (β : Inj) : Option AV → Option Value → Prop
  | none, none => True
  | some a, some v => VR β a v
  | _, _ => False

/-- The bounds of a slice expression. -/
theorem sliceBounds_sound {lo hi mx : Option AV} {lo' hi' mx' : Option Value} {l e m len cap : Nat} (hl : OVR β lo lo') (hh : OVR β hi hi') (hm : OVR β mx mx')
    (el : optNat 0 lo = some l) (eh : optNat len hi = some e) (em : optNat cap mx = some m) (h1 : l ≤ e) (h2 : e ≤ m) (h3 : m ≤ cap) (h4 : mx.isSome → hi.isSome) (b : Bool) :
    (Instr.sliceBounds b len cap lo' hi' mx').run P w = .ok (l, e, m) w := by
  cases lo <;> cases lo' <;> (try exact hl.elim) <;> cases hi <;> cases hi' <;> (try exact hh.elim) <;> cases mx <;> cases mx' <;> (try exact hm.elim) <;>
    simp only [OVR] at hl hh hm <;> simp [optNat] at el eh em h4 <;>
    (first
      | (subst el; subst eh; subst em; simp [Instr.sliceBounds]; done)
      | skip) <;>
    (try subst el) <;> (try subst eh) <;> (try subst em) <;>
    simp only [Instr.sliceBounds, Option.isSome, Sem.run_bind, Sem.run_pure, Result.andThen_ok] <;>
    (repeat (first
      | rw [sliceBound_sound em hm h3]
      | rw [sliceBound_sound eh hh h2]
      | rw [sliceBound_sound el hl h1]
      | simp only [Result.andThen_ok])) <;> rfl

theorem sliceAt_plain {t : TypeId} {d : TypeDesc} (hu : P.underlying t = some d) (hd : (∀ n e, d ≠ .array n e)) (x' : Value) (lo hi mx : Option Value) :
    (Instr.sliceAt t x' lo hi mx).run P w = (Instr.slice t x' lo hi mx).run P w := by
  unfold Instr.sliceAt
  cases d <;> first | (exact absurd rfl (hd _ _)) | simp only [Sem.run_bind, run_und hu, Result.andThen_ok]

theorem sliceA_sound {t : TypeId} {x v : AV} {lo hi mx : Option AV} {x' : Value} {lo' hi' mx' : Option Value} (hc : RdOk P cf)
    (he : sliceA cf t x lo hi mx = some v) (hx : VR β x x') (hl : OVR β lo lo') (hh : OVR β hi hi') (hm : OVR β mx mx') :
    ∃ v', (Instr.sliceAt t x' lo' hi' mx').run P w = .ok v' w ∧ VR β v v' := by
  unfold sliceA at he
  split at he
  · rename_i i l hi1 hl1
    obtain ⟨d, ti, hu, hinf, hd, hs, _⟩ := hc.ty _ _ hi1
    split at he
    · -- a string
      rename_i s hd'
      have hd2 := tdOf_str (hd.trans hd'); subst hd2
      cases hx
      split at he
      · rename_i e he1
        split at he
        · rename_i hb
          injection he with he; subst he
          have hsz : (ByteArray.mk s.toArray).size = s.length := by simp [ByteArray.size]
          have hb2 := sliceBounds_sound (P := P) (w := w) (len := s.length) (cap := s.length) (m := s.length) hl hh hm hl1 he1 rfl hb.1 hb.2 (Nat.le_refl _) (by simp) false
          have hmx' : mx' = none := by cases mx' with
            | none => rfl
            | some _ => exact hm.elim
          subst hmx'
          refine ⟨.string ⟨((s.drop l).take (e - l)).toArray⟩, ?_, .str _⟩
          rw [sliceAt_plain hu (by simp)]
          simp [Instr.slice, run_und hu, hsz, hb2, Lib.extract_eq]
        · simp at he
      · simp at he
    · -- a slice
      rename_i el a len cap sz ex hd'
      have hd2 := tdOf_slice (hd.trans hd'); subst hd2
      split at he
      · rename_i j e m hj he1 hm1
        obtain ⟨d2, ti2, hu2, hinf2, hd2, hs2, _⟩ := hc.ty _ _ hj
        split at he
        · rename_i hb
          injection he with he; subst he
          obtain ⟨hb0, hb1, hb2, hb3, hb4⟩ := hb
          have run : ∀ (a' : Option Addr) (cap' : Nat), cap ≤ cap' → (Instr.sliceAt t (.slice a' len cap') lo' hi' mx').run P w =
              .ok (.slice (if (if mx.isSome then m else cap') = l then a' else a'.map (·.add (l * j.size))) (e - l) ((if mx.isSome then m else cap') - l)) w := by
            intro a' cap' hcap
            have hmm : optNat cap' mx = some (if mx.isSome then m else cap') := by
              cases mx with
              | none => rfl
              | some v => simpa [optNat] using hm1
            have hmc : cap = m ∨ mx.isSome := by
              cases mx with
              | none => left; simpa [optNat] using hm1
              | some v => right; rfl
            have := sliceBounds_sound (P := P) (w := w) (len := len) (cap := cap') hl hh hm hl1 he1 hmm hb1 (by
              split
              · exact hb2
              · rcases hmc with h | h
                · omega
                · contradiction) (by split <;> omega) hb4 true
            rw [sliceAt_plain hu (by simp)]
            simp [Instr.slice, run_und hu, this, run_size hinf2, hs2]
          cases hx with
          | sliceNil =>
            refine ⟨_, run none 0 (Nat.le_refl _), ?_⟩
            have e0 : e = 0 := by omega
            have m0 : m = 0 := by omega
            have l0 : l = 0 := by omega
            subst e0; subst m0; subst l0
            have : (if mx.isSome = true then 0 else 0) = 0 := by split <;> rfl
            rw [this]
            exact .sliceNil _ _
          | @slice b o B O N _ _ cap' _ _ a hb hcc hx hll ha =>
            refine ⟨_, run (some a) cap' hcc, ?_⟩
            have hjs : j.size = sz := by
              rcases hb0 with h | h
              · simp at h
              · exact h
            rw [hjs]
            have hmc : cap = m ∨ mx.isSome = true := by
              cases mx with
              | none => left; simpa [optNat] using hm1
              | some v => right; rfl
            generalize hM : (if mx.isSome = true then m else cap') = M
            have hMle : M ≤ cap' := by
              split at hM <;> omega
            have hMm : m ≤ M := by
              split at hM
              · omega
              · rcases hmc with h | h
                · omega
                · contradiction
            have hex : (ex || mx.isSome) = true → M = m := by
              intro h
              split at hM
              · omega
              · rcases hmc with h' | h'
                · rename_i hns
                  have : ex = true := by simpa [hns] using h
                  have := hx this
                  omega
                · contradiction
            have hopt : (if M = l then some a else (some a).map (·.add (l * sz))) = some (if M = l then a else a.add (l * sz)) := by split <;> rfl
            rw [hopt]
            refine .slice hb (by omega) (fun h => by have := hex h; omega) (by omega) ?_
            by_cases hz : M - l = 0
            · exact .inl hz
            · right
              rw [if_neg (by omega)]
              rcases ha with ha | ⟨ha, hN⟩
              · omega
              · subst ha
                rw [add_none]
                refine ⟨by rw [Nat.add_assoc], ?_⟩
                have : (M - l) * sz + l * sz ≤ cap' * sz := by
                  rw [← Nat.add_mul]; exact Nat.mul_le_mul_right _ (by omega)
                omega
        · simp at he
      · simp at he
    · simp at he
  · simp at he

end
end Go.AM
namespace Go.AM
section
variable {P : Program} {cf : Cfg} {β : Inj} {w : World}

theorem td_ok (hc : RdOk P cf) {t : TypeId} {d : TD} (h : cf.td t = some d) : ∃ d', P.underlying t = some d' ∧ tdOf d' = d := by
  unfold Cfg.td at h
  split at h
  · rename_i i hi
    obtain ⟨d', ti, hu, _, hd, _⟩ := hc.ty _ _ hi
    injection h with h
    exact ⟨d', hu, hd.trans h⟩
  · simp at h

theorem ba_beq (a b : List UInt8) : (ByteArray.mk a.toArray == ByteArray.mk b.toArray) = (a == b) := by
  show (a.toArray == b.toArray) = (a == b)
  simp

def keyD : TypeDesc → Bool
  | .int _ | .string | .bool => true
  | _ => false

theorem isKey_keyD {d : TypeDesc} {k : AV} (h : isKey (tdOf d) k = true) : keyD d = true := by
  cases d <;> simp [tdOf, isKey] at h <;> rfl

theorem checkKey_plain {t : TypeId} {d : TypeDesc} (hu : P.underlying t = some d) (hk : keyD d = true) (e : Bool) (n : Nat) (v : Value) :
    (Instr.checkKey e (n + 1) t v).run P w = .ok () w := by
  unfold Instr.checkKey
  simp only [Sem.run_bind, run_und hu, Result.andThen_ok]
  cases d <;> simp [keyD] at hk <;> rfl

theorem sameNow_sound {d : TypeDesc} {a b : AV} {a' b' : Value} (ha : isKey (tdOf d) a = true) (hb : isKey (tdOf d) b = true) (h1 : VR β a a') (h2 : VR β b b') :
    Instr.sameNow d a' b' = some (keySame a b) := by
  cases d <;> cases a <;> simp [tdOf, isKey] at ha <;> cases b <;> simp [tdOf, isKey] at hb <;> cases h1 <;> cases h2 <;>
    simp_all [Instr.sameNow, keySame, ba_beq]

theorem findA_sound {d : TypeDesc} {k : AV} {k' : Value} (hk : isKey (tdOf d) k = true) (h1 : VR β k k') :
    ∀ {es : List (AV × AV × Nat)} {es' : List MapEntry} {i : Nat} {r : Option (Nat × AV × Nat)}, ESR β es es' → findA (tdOf d) k es i = some r →
      match r with
      | none => Instr.findNow d k' es' i = some none
      | some (j, v, n) => ∃ v', Instr.findNow d k' es' i = some (some (j, v')) ∧ VR β v v' ∧ i ≤ j ∧
          ∃ e, es'[j - i]? = some e ∧ e.born = n ∧ e.val = v' ∧ ∃ q, es[j - i]? = some (q, v, n) ∧ VR β q e.key ∧ keySame k q = true ∧ isKey (tdOf d) q = true
  | [], [], i, r, _, hf => by
    simp [findA] at hf; subst hf; rfl
  | (q, v, n) :: es, e :: es', i, r, he, hf => by
    obtain ⟨hq, hv, hn, ht⟩ := he
    simp only [findA] at hf
    split at hf
    · rename_i hqk
      have hs := sameNow_sound (β := β) hk hqk h1 hq
      split at hf
      · rename_i hsame
        simp at hf; subst hf
        refine ⟨e.val, ?_, hv, Nat.le_refl _, e, by simp, hn, rfl, q, by simp, hq, hsame, hqk⟩
        simp [Instr.findNow, hs, hsame]
      · rename_i hsame
        have ih := findA_sound hk h1 ht hf
        have hfn : Instr.findNow d k' (e :: es') i = Instr.findNow d k' es' (i + 1) := by
          simp [Instr.findNow, hs, hsame]
        cases r with
        | none => simp only at ih ⊢; rw [hfn]; exact ih
        | some x =>
          obtain ⟨j, v2, n2⟩ := x
          simp only at ih ⊢
          obtain ⟨v', g1, g2, g3, e2, g4, g5, g6, q2, g7, g8, g9, g10⟩ := ih
          have hj : j - i = (j - (i + 1)) + 1 := by omega
          refine ⟨v', by rw [hfn]; exact g1, g2, by omega, e2, ?_, g5, g6, q2, ?_, g8, g9, g10⟩
          · rw [hj]; simpa using g4
          · rw [hj]; simpa using g7
    · simp at hf
  | [], _ :: _, _, _, he, _ => he.elim
  | (_, _, _) :: _, [], _, _, he, _ => he.elim

theorem getObj_run {r : Nat} {o : Obj} (h : w.heap[r]? = some o) (hn : ∀ c e f, o ≠ .cells c e f) : (getObj r).run P w = .ok o w := by
  cases o <;> first | (exact absurd rfl (hn _ _ _)) | simp only [getObj, Sem.run, h]

/-- The entries of a map. -/
theorem entriesA_sound {h : AHeap} {m : AV} {m' : Value} {es : List (AV × AV × Nat)} (he : entriesA h m = some es) (hm : VR β m m') (hr : HR β h w.heap) :
    (m' = .map none ∧ es = []) ∨ ∃ R es' c, m' = .map (some R) ∧ w.heap[R]? = some (.map es' c) ∧ ESR β es es'.toList := by
  unfold entriesA at he
  split at he
  · cases hm; simp at he; exact .inl ⟨rfl, he⟩
  · rename_i r
    cases hm with
    | map hb =>
      split at he
      · rename_i es0 c hg
        simp at he; subst he
        obtain ⟨es', h1, h2⟩ := hr.obj _ _ _ _ _ hb hg
        exact .inr ⟨_, es', _, rfl, h1, h2⟩
      · simp at he
  · simp at he

theorem zeroA_sound {i : TI} {z : AV} {zt : Option Value} (h : zeroA i = some z) (hz : i.zero = .dead ∨ ∃ z, zt = some z ∧ constAV z = i.zero) :
    ∃ z', zt = some z' ∧ VR β z z' := by
  unfold zeroA at h
  split at h
  · simp at h
  · rename_i hnd
    injection h with h
    rcases hz with hz | ⟨z', h1, h2⟩
    · exact absurd hz hnd
    · refine ⟨z', h1, ?_⟩
      rw [← h, ← h2]
      exact constAV_sound β z'

theorem lookupA_sound {h : AHeap} {t : TypeId} {m k v : AV} {ok : Bool} {m' k' : Value} (hc : RdOk P cf) (he : lookupA cf h t m k ok = some v)
    (hm : VR β m m') (hk : VR β k k') (hr : HR β h w.heap) : ∃ v', (Instr.lookup t m' k' ok).run P w = .ok v' w ∧ VR β v v' := by
  unfold lookupA at he
  split at he
  · rename_i kt et htd
    obtain ⟨d, hu, hd⟩ := td_ok hc htd
    have := tdOf_map hd; subst this
    split at he
    · rename_i kd ed es hkd hed hes
      obtain ⟨dk, huk, hdk⟩ := td_ok hc hkd
      subst hdk
      obtain ⟨de, tie, hue, hie, hde, _, _, hz⟩ := hc.ty _ _ hed
      split at he
      · rename_i hik
        have hkd' := isKey_keyD hik
        have hck : ∀ e, (Instr.checkKey e 10000 kt k').run P w = .ok () w := fun e => checkKey_plain huk hkd' e 9999 k'
        have hent : ∃ es' : Array MapEntry, ESR β es es'.toList ∧ ((m' = .map none ∧ es' = #[]) ∨ ∃ R c, m' = .map (some R) ∧ w.heap[R]? = some (.map es' c)) := by
          rcases entriesA_sound hes hm hr with ⟨rfl, rfl⟩ | ⟨R, es', c, rfl, hH, hE⟩
          · exact ⟨#[], trivial, .inl ⟨rfl, rfl⟩⟩
          · exact ⟨es', hE, .inr ⟨R, c, rfl, hH⟩⟩
        obtain ⟨es', hE, hM⟩ := hent
        split at he
        · rename_i j v0 n hfa
          injection he with he
          obtain ⟨v', g1, g2, _⟩ := findA_sound hik hk hE hfa
          refine ⟨if ok then .tuple #[v', .bool true] else v', ?_, ?_⟩
          · rcases hM with ⟨rfl, rfl⟩ | ⟨R, c, rfl, hH⟩
            · simp only [Instr.lookup, Sem.run_bind, run_und hu, Result.andThen_ok, Sem.run_pure, hck, Instr.findKey, run_und huk, g1]
            · simp only [Instr.lookup, Sem.run_bind, run_und hu, Result.andThen_ok, Sem.run_pure, getObj_run hH (by simp), hck, Instr.findKey, run_und huk, g1]
          · subst he
            cases ok
            · exact g2
            · exact .tuple (.cons g2 (.cons (.bool _) .nil))
        · rename_i hfa
          obtain ⟨z, hz1, he⟩ := opt_map he
          have g1 := findA_sound hik hk hE hfa
          simp only at g1
          obtain ⟨z', hz2, hz3⟩ := zeroA_sound (β := β) hz1 hz
          refine ⟨if ok then .tuple #[z', .bool false] else z', ?_, ?_⟩
          · rcases hM with ⟨rfl, rfl⟩ | ⟨R, c, rfl, hH⟩
            · simp only [Instr.lookup, Sem.run_bind, run_und hu, Result.andThen_ok, Sem.run_pure, hck, Instr.findKey, run_und huk, g1, run_zero hie hz2]
            · simp only [Instr.lookup, Sem.run_bind, run_und hu, Result.andThen_ok, Sem.run_pure, getObj_run hH (by simp), hck, Instr.findKey, run_und huk, g1, run_zero hie hz2]
          · subst he
            cases ok
            · exact hz3
            · exact .tuple (.cons hz3 (.cons (.bool _) .nil))
        · simp at he
      · simp at he
    · simp at he
  · simp at he
end
end Go.AM
namespace Go.AM
section
variable {P : Program} {cf : Cfg} {β : Inj} {w : World}

theorem fieldOff_sound (hc : RdOk P cf) {s : TypeId} {f off : Nat} {j : TI} (h : fieldOff cf s f = some (off, j)) :
    ∃ fields F, P.underlying s = some (.struct fields) ∧ fields[f]? = some F ∧ F.offset = off ∧ TIok P F.type j := by
  unfold fieldOff at h
  obtain ⟨i, hi, h⟩ := opt_do h
  obtain ⟨d, ti, hu, _, hd, _⟩ := hc.ty _ _ hi
  split at h
  · rename_i fs hfs
    obtain ⟨fields, rfl, hm⟩ := tdOf_struct (hd.trans hfs)
    obtain ⟨p, hp, h⟩ := opt_do h
    obtain ⟨j', hj, h⟩ := opt_do h
    simp at h
    obtain ⟨rfl, rfl⟩ := h
    rw [← hm, List.getElem?_map] at hp
    obtain ⟨F, hF, rfl⟩ := opt_map hp
    exact ⟨fields, F, hu, by simpa using hF, rfl, hc.ty _ _ hj⟩
  · simp at h

theorem fieldPlace_sound {a : Addr} {F : Field} {j : TI} (hj : TIok P F.type j) (hz : j.size ≠ 0) :
    (fieldPlace a F).run P w = .ok (a.add F.offset) w := by
  obtain ⟨d, ti, hu, hinf, hd, hs, _⟩ := hj
  simp [fieldPlace, run_size hinf, hs, hz]

theorem idxOf_sound {v : AV} {v' : Value} {k : Nat} (h : idxOf v = some k) (hv : VR β v v') : ∃ kk m, v' = .int kk m ∧ 0 ≤ m ∧ m.toNat = k := by
  cases hv <;> simp [idxOf] at h
  exact ⟨_, _, rfl, h.1, h.2⟩

theorem indexAddrA_sound (hc : RdOk P cf) {t : TypeId} {x ix v : AV} {x' ix' : Value} (he : indexAddrA cf t x ix = some v) (hx : VR β x x') (hi : VR β ix ix') :
    ∃ v', (Instr.indexAt t x' ix').run P w = .ok v' w ∧ VR β v v' := by
  unfold indexAddrA at he
  replace he := opt_do he
  obtain ⟨i, hi1, he⟩ := he
  replace he := opt_do he
  obtain ⟨k, hk, he⟩ := he
  obtain ⟨d, ti, hu, hinf, hd, hs, _⟩ := hc.ty _ _ hi1
  obtain ⟨kk, m, rfl, h0, rfl⟩ := idxOf_sound hk hi
  split at he
  · rename_i n e a hd'
    have := tdOf_array (hd.trans hd'); subst this
    replace he := opt_do he
    obtain ⟨j, hj, he⟩ := he
    obtain ⟨d2, ti2, hu2, hinf2, hd2, hs2, _⟩ := hc.ty _ _ hj
    split at he
    · rename_i hlt
      simp at he; subst he
      obtain ⟨b, o⟩ := a
      cases hx with
      | @ptr _ _ B O N hb =>
        refine ⟨_, ?_, .ptr hb⟩
        have hb2 : 0 ≤ m ∧ m < (n : Int) := ⟨h0, by omega⟩
        simp [Instr.indexAt, asIntOf, run_und hu, Instr.sureAddr, hb2, run_size hinf2, hs2, add_none, Nat.add_assoc]
    · simp at he
  · rename_i e a len cap sz ex hd'
    have := tdOf_slice (hd.trans hd'); subst this
    replace he := opt_do he
    obtain ⟨j, hj, he⟩ := he
    obtain ⟨d2, ti2, hu2, hinf2, hd2, hs2, _⟩ := hc.ty _ _ hj
    split at he
    · rename_i hlt
      simp at he; subst he
      obtain ⟨b, o⟩ := a
      cases hx with
      | @slice _ _ B O N _ _ cap' _ _ a hb hcc hxx hll ha =>
        refine ⟨_, ?_, .ptr hb⟩
        have hb2 : 0 ≤ m ∧ m < (len : Int) := ⟨h0, by omega⟩
        rcases ha with ha | ⟨ha, hN⟩
        · omega
        · subst ha
          simp [Instr.indexAt, asIntOf, run_und hu, hb2, run_size hinf2, hs2, hlt.2, add_none, Nat.add_assoc]
    · simp at he
  · simp at he

theorem ba_get (l : List UInt8) (n : Nat) : (ByteArray.mk l.toArray)[n]? = l[n]? := by
  show (if h : n < (ByteArray.mk l.toArray).size then some ((ByteArray.mk l.toArray)[n]'h) else none) = _
  split
  · rename_i h
    have h' : n < l.length := by simpa [ByteArray.size] using h
    rw [List.getElem?_eq_getElem h']
    rfl
  · rename_i h
    rw [List.getElem?_eq_none]
    simpa [ByteArray.size] using h

theorem indexA_sound (hc : RdOk P cf) {t : TypeId} {x ix v : AV} {x' ix' : Value} (he : indexA cf t x ix = some v) (hx : VR β x x') (hi : VR β ix ix') :
    ∃ v', (Instr.index t x' ix').run P w = .ok v' w ∧ VR β v v' := by
  unfold indexA at he
  replace he := opt_do he
  obtain ⟨i, hi1, he⟩ := he
  replace he := opt_do he
  obtain ⟨k, hk, he⟩ := he
  obtain ⟨d, ti, hu, hinf, hd, hs, _⟩ := hc.ty _ _ hi1
  obtain ⟨kk, m, rfl, h0, rfl⟩ := idxOf_sound hk hi
  split at he
  · rename_i n e cs hd'
    have := tdOf_array (hd.trans hd'); subst this
    replace he := opt_do he
    obtain ⟨j, hj, he⟩ := he
    have hjj := hc.ty _ _ hj
    obtain ⟨d2, ti2, hu2, hinf2, hd2, hs2, _⟩ := hjj
    split at he
    · rename_i hlt
      cases hx with
      | agg h1 h2 =>
        obtain ⟨v', g1, g2⟩ := partA_sound (P := P) (w := w) (hc.ty _ _ hj) he h1 h2
        refine ⟨v', ?_, g2⟩
        have hb2 : 0 ≤ m ∧ m < (n : Int) := ⟨h0, by omega⟩
        simp [Instr.index, asIntOf, run_und hu, hb2, run_size hinf2, hs2, g1]
    · simp at he
  · rename_i l hd'
    have := tdOf_str (hd.trans hd'); subst this
    obtain ⟨b, hb, rfl⟩ := opt_map he
    cases hx
    refine ⟨.int .u8 b.toNat, ?_, .int _ _⟩
    simp [Instr.index, asIntOf, run_und hu, h0, ba_get, hb]
  · simp at he

theorem lenA_sound (hc : RdOk P cf) {h : AHeap} {t : TypeId} {x v : AV} {x' : Value} (he : lenA cf h t x = some v) (hx : VR β x x') (hr : HR β h w.heap)
    (u : TypeId) (ts : Array TypeId) (hts : ts[0]? = some t) (xs : Array Value) (hxs : xs[0]? = some x') :
    ∃ v', (Builtin.len_ ts u xs).run P w = .ok v' w ∧ VR β v v' := by
  unfold lenA at he
  replace he := opt_do he
  obtain ⟨i, hi1, he⟩ := he
  obtain ⟨d, ti, hu, hinf, hd, hs, _⟩ := hc.ty _ _ hi1
  split at he
  · rename_i s hd'
    have := tdOf_str (hd.trans hd'); subst this
    cases hx; simp at he; subst he
    have hsz : (ByteArray.mk s.toArray).size = s.length := by simp [ByteArray.size]
    refine ⟨.int .i64 s.length, ?_, .int _ _⟩
    simp [Builtin.len_, hts, hxs, run_und hu, goInt, hsz]
  · rename_i n e hd'
    have := tdOf_array (hd.trans hd'); subst this
    simp at he; subst he
    exact ⟨_, by simp [Builtin.len_, hts, hxs, run_und hu, goInt], .int _ _⟩
  · rename_i n a m c s e hd'
    have := tdOf_slice (hd.trans hd'); subst this
    simp at he; subst he
    cases hx <;> exact ⟨_, by simp [Builtin.len_, hts, hxs, run_und hu, goInt], .int _ _⟩
  · rename_i k e hd'
    have := tdOf_map (hd.trans hd'); subst this
    simp at he; subst he
    cases hx
    exact ⟨_, by simp [Builtin.len_, hts, hxs, run_und hu, goInt], .int _ _⟩
  · rename_i k e r hd'
    have := tdOf_map (hd.trans hd'); subst this
    cases hx with
    | map hb =>
      split at he
      · rename_i es c hg
        simp at he; subst he
        obtain ⟨es', h1, h2⟩ := hr.obj _ _ _ _ _ hb hg
        have hlen : es.length = es'.size := by
          have : ∀ {l : List (AV × AV × Nat)} {r : List MapEntry}, ESR β l r → l.length = r.length := by
            intro l
            induction l with
            | nil => intro r hr; cases r with
              | nil => rfl
              | cons => exact hr.elim
            | cons a l ih => intro r hr; cases r with
              | nil => exact hr.elim
              | cons e r => simp [ih hr.2.2.2]
          simpa using this h2
        refine ⟨.int .i64 es.length, ?_, .int _ _⟩
        rw [hlen]
        simp [Builtin.len_, hts, hxs, run_und hu, goInt, getObj_run h1 (by simp)]
      · simp at he
  · simp at he

theorem maxA_sound {x y v : AV} {x' y' : Value} (he : maxA x y = some v) (hx : VR β x x') (hy : VR β y y') :
    ∃ v', (Builtin.max2 x' y').run P w = .ok v' w ∧ VR β v v' := by
  cases hx <;> cases hy <;> simp [maxA] at he
  obtain ⟨rfl, rfl⟩ := he
  exact ⟨_, by simp [Builtin.max2], .int _ _⟩

theorem minA_sound {x y v : AV} {x' y' : Value} (he : minA x y = some v) (hx : VR β x x') (hy : VR β y y') :
    ∃ v', (Builtin.min2 x' y').run P w = .ok v' w ∧ VR β v v' := by
  cases hx <;> cases hy <;> simp [minA] at he
  obtain ⟨rfl, rfl⟩ := he
  exact ⟨_, by simp [Builtin.min2], .int _ _⟩

theorem foldA_sound {f : AV → AV → Option AV} {g : Value → Value → Sem Value}
    (hfg : ∀ {x y v : AV} {x' y' : Value}, f x y = some v → VR β x x' → VR β y y' → ∃ v', (g x' y').run P w = .ok v' w ∧ VR β v v') :
    ∀ {l : List AV} {l' : List Value} {x v : AV} {x' : Value}, foldA f x l = some v → VR β x x' → VRs β l l' → ∃ v', (l'.foldlM g x').run P w = .ok v' w ∧ VR β v v'
  | _, _, _, _, _, he, hx, .nil => by simp [foldA] at he; subst he; exact ⟨_, rfl, hx⟩
  | _, _, _, _, _, he, hx, .cons h t => by
    simp only [foldA] at he
    replace he := opt_bind he
    obtain ⟨z, hz, he⟩ := he
    obtain ⟨z', g1, g2⟩ := hfg hz hx h
    obtain ⟨v', g3, g4⟩ := foldA_sound hfg he g2 t
    exact ⟨v', by simp [g1, g3], g4⟩

end
end Go.AM
