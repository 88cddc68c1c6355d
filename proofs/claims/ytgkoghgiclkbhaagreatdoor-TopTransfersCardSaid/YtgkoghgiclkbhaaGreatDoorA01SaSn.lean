/- What the symbolic walk of this claim reckons with: trees, numbers, the heap, pure operations. No condition but the hypotheses that stand in each. -/
import Derived.Calls
import Derived.Orders
import Derived.Scope
import Derived.Test.YtgkoghgiclkbhaaGreatDoorProg
import Derived.Laws.Entries
import Derived.Laws.StructEq
import Derived.Laws.Tables
import Derived.Laws.Build
import Derived.Laws.Externs
import Derived.KernelRfl
import Derived.Laws.CopyRow
set_option linter.unusedVariables false
namespace Go.Proofs.YtgkoghgiclkbhaaGreatDoor.Sx
open Go
noncomputable section

/-- A map from numbers. -/
inductive Tr (α : Type) where
  | leaf
  | node (l : Tr α) (v : Option α) (r : Tr α)
def Tr.get {α : Type} (t : Tr α) : Nat → Option α :=
  Tr.rec (motive := fun _ => Nat → Option α) (fun _ => none) (fun l v r ihl ihr k =>
    Bool.rec (motive := fun _ => Option α) (Bool.rec (motive := fun _ => Option α) (ihr (Nat.pred (Nat.div k 2))) (ihl (Nat.div k 2)) (Nat.beq (Nat.mod k 2) 1)) v (Nat.beq k 0)) t
/-- A path in an empty map. -/
def Tr.one {α : Type} (f : Nat) : Nat → Option α → Tr α :=
  Nat.rec (motive := fun _ => Nat → Option α → Tr α) (fun _ _ => .leaf) (fun _ ih k x =>
    Bool.rec (motive := fun _ => Tr α) (Bool.rec (motive := fun _ => Tr α) (.node .leaf none (ih (Nat.pred (Nat.div k 2)) x)) (.node (ih (Nat.div k 2) x) none .leaf) (Nat.beq (Nat.mod k 2) 1)) (.node .leaf x .leaf) (Nat.beq k 0)) f
def Tr.setF {α : Type} (f : Nat) (t : Tr α) : Nat → Option α → Tr α :=
  Tr.rec (motive := fun _ => Nat → Option α → Tr α) (Tr.one f) (fun l v r ihl ihr k x =>
    Bool.rec (motive := fun _ => Tr α) (Bool.rec (motive := fun _ => Tr α) (.node l v (ihr (Nat.pred (Nat.div k 2)) x)) (.node (ihl (Nat.div k 2) x) v r) (Nat.beq (Nat.mod k 2) 1)) (.node l x r) (Nat.beq k 0)) t
theorem Tr.get_leaf {α : Type} (k : Nat) : (Tr.leaf : Tr α).get k = none := rfl
theorem brec_ite {β : Type} (c : Bool) (a b : β) : (Bool.rec (motive := fun _ => β) b a c) = if c = true then a else b := by cases c <;> rfl
theorem beq_ite (a b : Nat) : (Nat.beq a b = true) = (a = b) := by rw [Nat.beq_eq]
theorem Tr.get_node {α : Type} (l r : Tr α) (v : Option α) (k : Nat) :
    (Tr.node l v r).get k = if k = 0 then v else if k % 2 = 1 then l.get (k / 2) else r.get (k / 2 - 1) := by
  show (Bool.rec (motive := fun _ => Option α) (Bool.rec (motive := fun _ => Option α) (r.get (Nat.pred (Nat.div k 2))) (l.get (Nat.div k 2)) (Nat.beq (Nat.mod k 2) 1)) v (Nat.beq k 0)) = _
  rw [brec_ite, brec_ite]
  simp only [beq_ite]
  rfl
theorem Tr.get_one {α : Type} : ∀ (f : Nat) (k : Nat) (x : Option α) (j : Nat), k + 1 < 2 ^ f → (Tr.one f k x).get j = if j = k then x else none := by
  intro f
  induction f with
  | zero => intro k x j h; simp at h
  | succ f ih =>
    intro k x j h
    have hp : 2 ^ (f + 1) = 2 * 2 ^ f := by rw [Nat.pow_succ]; omega
    have e : Tr.one (f + 1) k x = if k = 0 then .node .leaf x .leaf else if k % 2 = 1 then .node (Tr.one f (k / 2) x) none .leaf else .node .leaf none (Tr.one f (k / 2 - 1) x) := by
      show (Bool.rec (motive := fun _ => Tr α) (Bool.rec (motive := fun _ => Tr α) (.node .leaf none (Tr.one f (Nat.pred (Nat.div k 2)) x)) (.node (Tr.one f (Nat.div k 2) x) none .leaf) (Nat.beq (Nat.mod k 2) 1)) (.node .leaf x .leaf) (Nat.beq k 0)) = _
      rw [brec_ite, brec_ite]
      simp only [beq_ite]
      rfl
    rw [e]
    by_cases hk : k = 0
    · subst hk
      simp only [if_true, Tr.get_node, Tr.get_leaf]
      split <;> simp_all
    · simp only [hk, if_false]
      by_cases h1 : k % 2 = 1
      · simp only [h1, if_true, Tr.get_node, Tr.get_leaf]
        rw [ih _ _ _ (by omega)]
        by_cases hj : j = k
        · subst hj; simp [hk, h1]
        · by_cases hj0 : j = 0
          · simp [hj0, Ne.symm hk]
          · by_cases hj1 : j % 2 = 1
            · have : j / 2 ≠ k / 2 := by omega
              simp [hj, hj0, hj1, this]
            · simp [hj, hj0, hj1]
      · simp only [h1, if_false, Tr.get_node, Tr.get_leaf]
        rw [ih _ _ _ (by omega)]
        by_cases hj : j = k
        · subst hj; simp [hk, h1]
        · by_cases hj0 : j = 0
          · simp [hj0, Ne.symm hk]
          · by_cases hj1 : j % 2 = 1
            · simp [hj, hj0, hj1]
            · have : j / 2 - 1 ≠ k / 2 - 1 := by omega
              simp [hj, hj0, hj1, this]
theorem Tr.get_setF {α : Type} : ∀ (f : Nat) (t : Tr α) (k : Nat) (x : Option α) (j : Nat), k + 1 < 2 ^ f →
    (Tr.setF f t k x).get j = if j = k then x else t.get j := by
  intro f t
  induction t with
  | leaf =>
    intro k x j h
    show (Tr.one f k x).get j = _
    rw [Tr.get_one f k x j h, Tr.get_leaf]
  | node l v r ihl ihr =>
    intro k x j h
    have e : Tr.setF f (.node l v r) k x = if k = 0 then .node l x r else if k % 2 = 1 then .node (Tr.setF f l (k / 2) x) v r else .node l v (Tr.setF f r (k / 2 - 1) x) := by
      show (Bool.rec (motive := fun _ => Tr α) (Bool.rec (motive := fun _ => Tr α) (.node l v (Tr.setF f r (Nat.pred (Nat.div k 2)) x)) (.node (Tr.setF f l (Nat.div k 2) x) v r) (Nat.beq (Nat.mod k 2) 1)) (.node l x r) (Nat.beq k 0)) = _
      rw [brec_ite, brec_ite]
      simp only [beq_ite]
      rfl
    rw [e]
    by_cases hk : k = 0
    · subst hk
      simp only [if_true, Tr.get_node]
      split <;> simp_all
    · simp only [hk, if_false]
      by_cases h1 : k % 2 = 1
      · simp only [h1, if_true, Tr.get_node]
        rw [ihl _ _ _ (by omega)]
        by_cases hj : j = k
        · subst hj; simp [hk, h1]
        · by_cases hj0 : j = 0
          · simp [hj0, Ne.symm hk]
          · by_cases hj1 : j % 2 = 1
            · have : j / 2 ≠ k / 2 := by omega
              simp [hj, hj0, hj1, this]
            · simp [hj, hj0, hj1]
      · simp only [h1, if_false, Tr.get_node]
        rw [ihr _ _ _ (by omega)]
        by_cases hj : j = k
        · subst hj; simp [hk, h1]
        · by_cases hj0 : j = 0
          · simp [hj0, Ne.symm hk]
          · by_cases hj1 : j % 2 = 1
            · simp [hj, hj0, hj1]
            · have : j / 2 - 1 ≠ k / 2 - 1 := by omega
              simp [hj, hj0, hj1, this]
/-- Where the place is too great the map forgets all. -/
def Tr.set {α : Type} (t : Tr α) (k : Nat) (x : Option α) : Tr α := bif Nat.ble (k + 2) 1099511627776 then Tr.setF 40 t k x else .leaf
theorem Tr.get_set {α : Type} (t : Tr α) (k : Nat) (x : Option α) (j : Nat) (h : k + 2 ≤ 1099511627776) : (t.set k x).get j = if j = k then x else t.get j := by
  have : Nat.ble (k + 2) 1099511627776 = true := by rw [Nat.ble_eq]; exact h
  simp only [Tr.set, this, cond_true]
  exact Tr.get_setF 40 t k x j (by omega)
theorem Tr.get_set_some {α : Type} {t : Tr α} {k : Nat} {x : Option α} {j : Nat} {y : α} (h : (t.set k x).get j = some y) :
    (j = k ∧ x = some y) ∨ (j ≠ k ∧ t.get j = some y) := by
  by_cases hb : k + 2 ≤ 1099511627776
  · rw [Tr.get_set _ _ _ _ hb] at h
    by_cases hj : j = k
    · simp only [hj, if_true] at h; exact .inl ⟨hj, h⟩
    · simp only [hj, if_false] at h; exact .inr ⟨hj, h⟩
  · have : Nat.ble (k + 2) 1099511627776 = false := by rw [← Bool.not_eq_true, Nat.ble_eq]; exact hb
    simp only [Tr.set, this, cond_false, Tr.get_leaf] at h
    cases h

/-! comparisons that the kernel does quickly -/
def ileB : Int → Int → Bool
  | .ofNat a, .ofNat b => Nat.ble a b
  | .ofNat _, .negSucc _ => false
  | .negSucc _, .ofNat _ => true
  | .negSucc a, .negSucc b => Nat.ble b a
theorem ileB_iff (a b : Int) : ileB a b = true ↔ a ≤ b := by
  cases a <;> cases b <;> simp only [ileB, Nat.ble_eq, Bool.false_eq_true, false_iff, true_iff, Int.ofNat_eq_natCast, Int.negSucc_eq] <;> omega
def ieqB : Int → Int → Bool
  | .ofNat a, .ofNat b => Nat.beq a b
  | .negSucc a, .negSucc b => Nat.beq a b
  | _, _ => false
theorem ieqB_iff (a b : Int) : ieqB a b = true ↔ a = b := by
  cases a <;> cases b <;> simp only [ieqB, Nat.beq_eq, Bool.false_eq_true, false_iff, Int.ofNat_eq_natCast, Int.negSucc_eq] <;> omega
def decB {p : Prop} (b : Bool) (h : b = true ↔ p) : Decidable p := match b, h with
  | true, h => .isTrue (h.1 rfl)
  | false, h => .isFalse fun q => by have := h.2 q; cases this
instance (priority := 2000) fastLe (a b : Int) : Decidable (a ≤ b) := decB (ileB a b) (ileB_iff a b)
instance (priority := 2000) fastLt (a b : Int) : Decidable (a < b) := decB (ileB (a + 1) b) ((ileB_iff (a + 1) b).trans Int.add_one_le_iff)
instance (priority := 2000) fastEq : DecidableEq Int := fun a b => decB (ieqB a b) (ieqB_iff a b)
/-! numbers -/
/-- A number: an unknown one (by its place) and a known one, added. -/
structure Num where
  s : Option Nat
  c : Int
def onatB : Option Nat → Option Nat → Bool
  | none, none => true
  | some a, some b => Nat.beq a b
  | _, _ => false
theorem onatB_iff (a b : Option Nat) : onatB a b = true ↔ a = b := by
  cases a <;> cases b <;> simp [onatB, Nat.beq_eq]
instance (priority := 2000) fastO : DecidableEq (Option Nat) := fun a b => decB (onatB a b) (onatB_iff a b)
def numB (x y : Num) : Bool := ieqB x.c y.c && onatB x.s y.s
theorem numB_iff (x y : Num) : numB x y = true ↔ x = y := by
  cases x; cases y; simp [numB, ieqB_iff, onatB_iff, and_comm]
instance : DecidableEq Num := fun x y => decB (numB x y) (numB_iff x y)
/-- What the walk knows of values that nobody writes any more. -/
inductive Sh where
  | any
  | int (k : IntKind) (lo hi : Int)
  | bool
  | str
  | agg (l : List Sh)
  | tup (l : List Sh)
  | slice (cells : List Sh) (lo hi : Nat)
  | ptr (cells : List Sh)
mutual
def Sh.beq : Sh → Sh → Bool
  | .any, .any => true
  | .int k a b, .int k' a' b' => decide (k = k') && decide (a = a') && decide (b = b')
  | .bool, .bool => true
  | .str, .str => true
  | .agg l, .agg l' => Sh.beqL l l'
  | .tup l, .tup l' => Sh.beqL l l'
  | .slice c a b, .slice c' a' b' => Sh.beqL c c' && decide (a = a') && decide (b = b')
  | .ptr c, .ptr c' => Sh.beqL c c'
  | _, _ => false
def Sh.beqL : List Sh → List Sh → Bool
  | [], [] => true
  | a :: l, b :: l' => Sh.beq a b && Sh.beqL l l'
  | _, _ => false
end
mutual
theorem Sh.beq_eq : ∀ a b : Sh, Sh.beq a b = true → a = b
  | .any, b, h => by cases b <;> simp_all [Sh.beq]
  | .int .., b, h => by cases b <;> simp_all [Sh.beq]
  | .bool, b, h => by cases b <;> simp_all [Sh.beq]
  | .str, b, h => by cases b <;> simp_all [Sh.beq]
  | .agg l, b, h => by cases b <;> simp_all [Sh.beq]; exact Sh.beqL_eq _ _ h
  | .tup l, b, h => by cases b <;> simp_all [Sh.beq]; exact Sh.beqL_eq _ _ h
  | .slice c _ _, b, h => by cases b <;> simp_all [Sh.beq]; exact Sh.beqL_eq _ _ h.1.1
  | .ptr c, b, h => by cases b <;> simp_all [Sh.beq]; exact Sh.beqL_eq _ _ h
theorem Sh.beqL_eq : ∀ a b : List Sh, Sh.beqL a b = true → a = b
  | [], b, h => by cases b <;> simp_all [Sh.beqL]
  | a :: l, b, h => by
    cases b with
    | nil => simp [Sh.beqL] at h
    | cons b l' => simp [Sh.beqL] at h; rw [Sh.beq_eq _ _ h.1, Sh.beqL_eq _ _ h.2]
end
abbrev Imm := Nat → Option Obj
mutual
def SatSh (imm : Imm) : Sh → Value → Prop
  | .any, _ => True
  | .int k lo hi, v => ∃ n, v = .int k n ∧ lo ≤ n ∧ n ≤ hi
  | .bool, v => ∃ b, v = .bool b
  | .str, v => ∃ s, v = .string s
  | .agg l, v => ∃ vs : List Value, v = .agg ⟨vs⟩ ∧ SatShL imm l vs
  | .tup l, v => ∃ vs : List Value, v = .tuple ⟨vs⟩ ∧ SatShL imm l vs
  | .slice cs lo hi, v => ∃ base len cap, v = .slice base len cap ∧ lo ≤ len ∧ len ≤ hi ∧ len ≤ cap ∧
      ((base = none ∧ len = 0) ∨ ∃ b off c e fr, base = some ⟨b, off, none⟩ ∧ imm b = some (.cells c e fr) ∧ off + len * cs.length ≤ c.size ∧
        ∀ j x, j < len * cs.length → c[off + j]? = some x → SatShAt imm cs (j % cs.length) x)
  | .ptr cs, v => v = .pointer none ∨ ∃ b off c e fr, v = .pointer (some ⟨b, off, none⟩) ∧ imm b = some (.cells c e fr) ∧ off + cs.length ≤ c.size ∧
        ∀ j x, j < cs.length → c[off + j]? = some x → SatShAt imm cs j x
def SatShL (imm : Imm) : List Sh → List Value → Prop
  | [], vs => vs = []
  | s :: l, vs => ∃ v vs', vs = v :: vs' ∧ SatSh imm s v ∧ SatShL imm l vs'
def SatShAt (imm : Imm) : List Sh → Nat → Value → Prop
  | [], _, _ => True
  | s :: _, 0, v => SatSh imm s v
  | _ :: l, q + 1, v => SatShAt imm l q v
end
def Imm.le (i j : Imm) : Prop := ∀ b o, i b = some o → j b = some o
mutual
theorem SatSh.mono {i j : Imm} (h : Imm.le i j) : ∀ (s : Sh) (v : Value), SatSh i s v → SatSh j s v
  | .any, _, hs => by simp [SatSh]
  | .int .., _, hs => by simpa [SatSh] using hs
  | .bool, _, hs => by simpa [SatSh] using hs
  | .str, _, hs => by simpa [SatSh] using hs
  | .agg l, _, hs => by
    simp only [SatSh] at hs ⊢
    obtain ⟨vs, e, hl⟩ := hs
    exact ⟨vs, e, SatShL.mono h l vs hl⟩
  | .tup l, _, hs => by
    simp only [SatSh] at hs ⊢
    obtain ⟨vs, e, hl⟩ := hs
    exact ⟨vs, e, SatShL.mono h l vs hl⟩
  | .slice cs lo hi, _, hs => by
    simp only [SatSh] at hs ⊢
    obtain ⟨base, len, cap, e, h1, h2, hlc, hb⟩ := hs
    refine ⟨base, len, cap, e, h1, h2, hlc, hb.imp id ?_⟩
    rintro ⟨b, off, c, e, fr, h3, h4, h5, h6⟩
    exact ⟨b, off, c, e, fr, h3, h _ _ h4, h5, fun q x hq hx => SatShAt.mono h cs _ x (h6 q x hq hx)⟩
  | .ptr cs, _, hs => by
    simp only [SatSh] at hs ⊢
    refine hs.imp id ?_
    rintro ⟨b, off, c, e, fr, h3, h4, h5, h6⟩
    exact ⟨b, off, c, e, fr, h3, h _ _ h4, h5, fun q x hq hx => SatShAt.mono h cs _ x (h6 q x hq hx)⟩
theorem SatShL.mono {i j : Imm} (h : Imm.le i j) : ∀ (l : List Sh) (vs : List Value), SatShL i l vs → SatShL j l vs
  | [], _, hs => by simpa [SatShL] using hs
  | s :: l, _, hs => by
    simp only [SatShL] at hs ⊢
    obtain ⟨v, vs', e, h1, h2⟩ := hs
    exact ⟨v, vs', e, SatSh.mono h s v h1, SatShL.mono h l vs' h2⟩
theorem SatShAt.mono {i j : Imm} (h : Imm.le i j) : ∀ (l : List Sh) (q : Nat) (v : Value), SatShAt i l q v → SatShAt j l q v
  | [], _, _, _ => by simp [SatShAt]
  | s :: _, 0, v, hs => by simp only [SatShAt] at hs ⊢; exact SatSh.mono h s v hs
  | _ :: l, q + 1, v, hs => by simp only [SatShAt] at hs ⊢; exact SatShAt.mono h l q v hs
end
theorem SatShAt.of_get {i : Imm} : ∀ (l : List Sh) (q : Nat) (v : Value) (s : Sh), l[q]? = some s → (SatShAt i l q v ↔ SatSh i s v)
  | [], _, _, _, h => by simp at h
  | a :: _, 0, _, _, h => by simp at h; subst h; simp [SatShAt]
  | _ :: l, q + 1, v, s, h => by simp at h; simp only [SatShAt]; exact SatShAt.of_get l q v s h

/-- What is true or not: known, an unknown one, or numbers compared. -/
inductive BE where
  | c (b : Bool)
  | s (i : Nat) (pos : Bool)
  | lt (a b : Num) (pos : Bool)
  | eq (a b : Num) (pos : Bool)
  deriving DecidableEq
def intOp (op : BinOp) (k : IntKind) (x y : Int) : Option Int :=
  match op with
  | .add => some (k.wrap (x + y))
  | .sub => some (k.wrap (x - y))
  | .mul => some (k.wrap (x * y))
  | .quo => bif decide (y = 0) then none else some (k.wrap (x.tdiv y))
  | .rem => bif decide (y = 0) then none else some (x.tmod y)
  | .and => some (k.wrap ((BitVec.ofInt k.bits x &&& BitVec.ofInt k.bits y).toNat : Int))
  | .or => some (k.wrap ((BitVec.ofInt k.bits x ||| BitVec.ofInt k.bits y).toNat : Int))
  | .xor => some (k.wrap ((BitVec.ofInt k.bits x ^^^ BitVec.ofInt k.bits y).toNat : Int))
  | .andNot => some (k.wrap ((BitVec.ofInt k.bits x &&& ~~~BitVec.ofInt k.bits y).toNat : Int))
  | .shl => bif decide (y < 0) then none else some (k.wrap (x * 2 ^ (min y.toNat k.bits)))
  | .shr => bif decide (y < 0) then none else some (x.fdiv (2 ^ (min y.toNat k.bits)))
  | _ => none
/-- What is known of numbers beside their ranges. -/
inductive Fx where
  | op (op : BinOp) (k : IntKind) (x y r : Num)
  | conv (k : IntKind) (x r : Num)
  | mm (mn : Bool) (x y r : Num)
  | be (e : BE)
  | cell (b : Nat) (i : Num) (k : IntKind) (v : Num)
  | rd (k : Bool) (x v : Num)
  | iter (b : Nat) (l : List Nat) (k : Nat)
  deriving DecidableEq
/-- What the walk knows of a value. -/
inductive AV where
  | top
  | int (k : IntKind) (x : Num)
  | bool (e : BE)
  | str (l : List Nat)
  | lit (v : Value)
  | ptr (b off : Nat)
  | eptr (b off esz : Nat) (i : Num) (sub lim : Nat)
  | sl (b off esz : Nat) (len cap : Num)
  | agg (l : List AV)
  | tup (l : List AV)
  | fn (f : FuncId) (caps : List AV)
  | ifc (t : TypeId) (v : AV)
  | osl (cells : List Sh) (len : Num)
  | oaddr (cells : List Sh)
  | any (s : Sh)
/-- What the unknown numbers are, which block a name means and how many cells it has, and which blocks nobody writes any more. -/
structure Env where
  n : List Int
  b : List (Option (Nat × Nat))
  imm : Imm
def Num.den (σ : Env) (x : Num) : Option Int :=
  match x.s with
  | none => some x.c
  | some i => (σ.n[i]?).map (· + x.c)
def BE.den (σ : Env) : BE → Option Bool
  | .c b => some b
  | .s i pos => (σ.n[i]?).map fun n => (n != 0) == pos
  | .lt x y pos => (x.den σ).bind fun a => (y.den σ).map fun b => decide (a < b) == pos
  | .eq x y pos => (x.den σ).bind fun a => (y.den σ).map fun b => decide (a = b) == pos
def strOf (l : List Nat) : ByteArray := ⟨⟨l.map UInt8.ofNat⟩⟩
mutual
def Sat (σ : Env) : AV → Value → Prop
  | .top, _ => True
  | .int k x, v => ∃ n, x.den σ = some n ∧ v = .int k n
  | .bool e, v => ∃ b, e.den σ = some b ∧ v = .bool b
  | .str l, v => v = .string (strOf l)
  | .lit u, v => v = u
  | .ptr b off, v => ∃ n sz, σ.b[b]? = some (some (n, sz)) ∧ v = .pointer (some ⟨n, off, none⟩)
  | .eptr b off esz i sub lim, v => ∃ n sz, ∃ k : Nat, σ.b[b]? = some (some (n, sz)) ∧ i.den σ = some (k : Int) ∧ off + k * esz + sub + lim ≤ sz ∧ v = .pointer (some ⟨n, off + k * esz + sub, none⟩)
  | .sl b off esz len cap, v => ∃ n sz, ∃ l c : Nat, σ.b[b]? = some (some (n, sz)) ∧ len.den σ = some (l : Int) ∧ cap.den σ = some (c : Int) ∧ l ≤ c ∧ off + c * esz ≤ sz ∧ v = .slice (some ⟨n, off, none⟩) l c
  | .agg l, v => ∃ vs : List Value, v = .agg ⟨vs⟩ ∧ SatL σ l vs
  | .tup l, v => ∃ vs : List Value, v = .tuple ⟨vs⟩ ∧ SatL σ l vs
  | .fn f l, v => ∃ vs : List Value, v = .func (.func f) #[] ⟨vs⟩ ∧ SatL σ l vs
  | .ifc t a, v => ∃ u, v = .iface t u ∧ Sat σ a u
  | .osl cs len, v => ∃ base, ∃ l cap : Nat, v = .slice base l cap ∧ len.den σ = some (l : Int) ∧ l ≤ cap ∧
      ((base = none ∧ l = 0) ∨ ∃ b off c e fr, base = some ⟨b, off, none⟩ ∧ σ.imm b = some (.cells c e fr) ∧ off + l * cs.length ≤ c.size ∧
        ∀ j x, j < l * cs.length → c[off + j]? = some x → SatShAt σ.imm cs (j % cs.length) x)
  | .oaddr cs, v => ∃ b off c e fr, v = .pointer (some ⟨b, off, none⟩) ∧ σ.imm b = some (.cells c e fr) ∧ off + cs.length ≤ c.size ∧
        ∀ j x, j < cs.length → c[off + j]? = some x → SatShAt σ.imm cs j x
  | .any s, v => SatSh σ.imm s v
def SatL (σ : Env) : List AV → List Value → Prop
  | [], vs => vs = []
  | a :: l, vs => ∃ v vs', vs = v :: vs' ∧ Sat σ a v ∧ SatL σ l vs'
end
/-- More is known. -/
structure Env.le (σ τ : Env) : Prop where
  n : σ.n <+: τ.n
  b : σ.b <+: τ.b
  imm : Imm.le σ.imm τ.imm
theorem Env.le.refl (σ : Env) : σ.le σ := ⟨List.prefix_refl _, List.prefix_refl _, fun _ _ h => h⟩
theorem Env.le.trans {σ τ υ : Env} (h : σ.le τ) (h' : τ.le υ) : σ.le υ := ⟨h.n.trans h'.n, h.b.trans h'.b, fun b o e => h'.imm b o (h.imm b o e)⟩
theorem prefix_get {α : Type} {l l' : List α} (h : l <+: l') {i : Nat} {x : α} (e : l[i]? = some x) : l'[i]? = some x := by
  obtain ⟨r, rfl⟩ := h
  have hlt : i < l.length := (List.getElem?_eq_some_iff.1 e).1
  rw [List.getElem?_append_left hlt]; exact e
theorem Num.den_mono {σ τ : Env} (h : σ.le τ) {x : Num} {n : Int} (e : x.den σ = some n) : x.den τ = some n := by
  unfold Num.den at *
  cases hs : x.s with
  | none => rw [hs] at e; exact e
  | some i =>
    rw [hs] at e
    simp only [Option.map_eq_some_iff] at e ⊢
    obtain ⟨m, hm, rfl⟩ := e
    exact ⟨m, prefix_get h.n hm, rfl⟩
theorem BE.den_mono {σ τ : Env} (h : σ.le τ) {x : BE} {b : Bool} (e : x.den σ = some b) : x.den τ = some b := by
  cases x with
  | c b => exact e
  | s i pos =>
    simp only [BE.den, Option.map_eq_some_iff] at e ⊢
    obtain ⟨m, hm, rfl⟩ := e
    exact ⟨m, prefix_get h.n hm, rfl⟩
  | lt x y pos =>
    simp only [BE.den, Option.bind_eq_some_iff, Option.map_eq_some_iff] at e ⊢
    obtain ⟨m, hm, k, hk, rfl⟩ := e
    exact ⟨m, Num.den_mono h hm, k, Num.den_mono h hk, rfl⟩
  | eq x y pos =>
    simp only [BE.den, Option.bind_eq_some_iff, Option.map_eq_some_iff] at e ⊢
    obtain ⟨m, hm, k, hk, rfl⟩ := e
    exact ⟨m, Num.den_mono h hm, k, Num.den_mono h hk, rfl⟩
mutual
theorem Sat.mono {σ τ : Env} (h : σ.le τ) : ∀ (a : AV) (v : Value), Sat σ a v → Sat τ a v
  | .top, _, _ => by simp [Sat]
  | .int k x, _, hs => by simp only [Sat] at hs ⊢; obtain ⟨n, h1, h2⟩ := hs; exact ⟨n, Num.den_mono h h1, h2⟩
  | .bool e, _, hs => by simp only [Sat] at hs ⊢; obtain ⟨n, h1, h2⟩ := hs; exact ⟨n, BE.den_mono h h1, h2⟩
  | .str _, _, hs => by simpa only [Sat] using hs
  | .lit _, _, hs => by simpa only [Sat] using hs
  | .ptr b off, _, hs => by simp only [Sat] at hs ⊢; obtain ⟨n, sz, h1, h2⟩ := hs; exact ⟨n, sz, prefix_get h.b h1, h2⟩
  | .eptr .., _, hs => by simp only [Sat] at hs ⊢; obtain ⟨n, sz, k, h1, h2, h3⟩ := hs; exact ⟨n, sz, k, prefix_get h.b h1, Num.den_mono h h2, h3⟩
  | .sl .., _, hs => by simp only [Sat] at hs ⊢; obtain ⟨n, sz, l, c, h1, h2, h3, h4⟩ := hs; exact ⟨n, sz, l, c, prefix_get h.b h1, Num.den_mono h h2, Num.den_mono h h3, h4⟩
  | .agg l, _, hs => by simp only [Sat] at hs ⊢; obtain ⟨vs, h1, h2⟩ := hs; exact ⟨vs, h1, SatL.mono h l vs h2⟩
  | .tup l, _, hs => by simp only [Sat] at hs ⊢; obtain ⟨vs, h1, h2⟩ := hs; exact ⟨vs, h1, SatL.mono h l vs h2⟩
  | .fn f l, _, hs => by simp only [Sat] at hs ⊢; obtain ⟨vs, h1, h2⟩ := hs; exact ⟨vs, h1, SatL.mono h l vs h2⟩
  | .ifc t a, _, hs => by simp only [Sat] at hs ⊢; obtain ⟨u, h1, h2⟩ := hs; exact ⟨u, h1, Sat.mono h a u h2⟩
  | .osl cs len, _, hs => by
    simp only [Sat] at hs ⊢
    obtain ⟨base, l, cap, h1, h2, hlc, h3⟩ := hs
    refine ⟨base, l, cap, h1, Num.den_mono h h2, hlc, h3.imp id ?_⟩
    rintro ⟨b, off, c, e, fr, h3, h4, h5, h6⟩
    exact ⟨b, off, c, e, fr, h3, h.imm _ _ h4, h5, fun q x hq hx => SatShAt.mono h.imm cs _ x (h6 q x hq hx)⟩
  | .oaddr cs, _, hs => by
    simp only [Sat] at hs ⊢
    obtain ⟨b, off, c, e, fr, h3, h4, h5, h6⟩ := hs
    exact ⟨b, off, c, e, fr, h3, h.imm _ _ h4, h5, fun q x hq hx => SatShAt.mono h.imm cs _ x (h6 q x hq hx)⟩
  | .any s, _, hs => by simp only [Sat] at hs ⊢; exact SatSh.mono h.imm s _ hs
theorem SatL.mono {σ τ : Env} (h : σ.le τ) : ∀ (l : List AV) (vs : List Value), SatL σ l vs → SatL τ l vs
  | [], _, hs => by simpa only [SatL] using hs
  | a :: l, _, hs => by simp only [SatL] at hs ⊢; obtain ⟨v, vs', e, h1, h2⟩ := hs; exact ⟨v, vs', e, Sat.mono h a v h1, SatL.mono h l vs' h2⟩
end
end
end Go.Proofs.YtgkoghgiclkbhaaGreatDoor.Sx
namespace Go.Proofs.YtgkoghgiclkbhaaGreatDoor.Sx
open Go
noncomputable section

/-- A block: the cells that are known one by one, what the others are (in turn), how many there are at least. -/
structure AB where
  t : Tr AV
  d : List Sh
  n : Nat
  e : TypeId
structure AH where
  rng : Tr (Int × Int)
  nn : Nat
  lts : List (Num × Num)
  hp : Tr AB
  nb : Nat
  fx : List Fx
  fm : Bool
  n0 : Nat
/-- What a call brings that makes no use of what stands behind names. -/
def Grown (w w' : World) : Prop := w.heap.size ≤ w'.heap.size ∧ (∀ n, n < w.heap.size → w'.heap[n]? = w.heap[n]?) ∧ w'.os = w.os ∧ w'.output = w.output
/-- A machine stands there, with its cartridge and its memories. -/
def MachAt (w : World) (n0 sz n1 n2 : Nat) : Prop :=
  ∃ c, w.heap[n0]? = some (.cells c 68 (0, 0)) ∧ c.size = sz ∧ 203 ≤ sz ∧ c[0]? = some (.pointer (some ⟨n1, 0, none⟩)) ∧ c[1]? = some (.pointer (some ⟨n2, 0, none⟩))
/-- What the machine (or its cartridge) answers at a place, as long as its cartridge and its memories are those. -/
def RdOk (k : Bool) (n0 sz : Nat) (ns : List (Nat × Obj)) (a b : Int) : Prop :=
  0 ≤ b ∧ b ≤ 255 ∧ ∀ (w : World) (n1 n2 : Nat), (ns[0]?).map (·.1) = some n1 → (ns[1]?).map (·.1) = some n2 → (∀ p ∈ ns, w.heap[p.1]? = some p.2) → MachAt w n0 sz n1 n2 →
    Calls Tryz.prog (bif k then 16 else 41) #[.pointer (some ⟨bif k then n0 else n1, 0, none⟩), .int .u16 a] w fun e w' => e = .returned (.int .u8 b) ∧ Grown w w'
def FxOk (σ : Env) (w : World) : Fx → Prop
  | .op op k x y r => ∃ a b c, x.den σ = some a ∧ y.den σ = some b ∧ r.den σ = some c ∧ intOp op k a b = some c
  | .conv k x r => ∃ a, x.den σ = some a ∧ r.den σ = some (k.wrap a)
  | .mm mn x y r => ∃ a b, x.den σ = some a ∧ y.den σ = some b ∧ r.den σ = some (bif mn then min a b else max a b)
  | .be e => e.den σ = some true
  | .cell b i k v => ∃ n sz c e fr m, ∃ j : Nat, σ.b[b]? = some (some (n, sz)) ∧ w.heap[n]? = some (.cells c e fr) ∧ i.den σ = some (j : Int) ∧ c[j]? = some (.int k m) ∧ v.den σ = some m
  | .rd k x v => ∃ a b n0 ns sz, x.den σ = some a ∧ v.den σ = some b ∧ σ.b[0]? = some (some (n0, sz)) ∧ ns.length = 6 ∧ (∀ (i : Nat) (p : Nat × Obj), ns[i]? = some p → (∃ sz, σ.b[i + 1]? = some (some (p.1, sz))) ∧ w.heap[p.1]? = some p.2) ∧ RdOk k n0 sz ns a b
  | .iter b l k => ∃ n sz, σ.b[b]? = some (some (n, sz)) ∧ w.heap[n]? = some (.stringIter (strOf l) k) ∧ σ.imm n = none
def Fx.isIter : Fx → Bool
  | .iter _ _ _ => true
  | _ => false
/-- What is new of the blocks that nobody writes: it is new in the world, or of cells. -/
def ImmOk (σ τ : Env) (w : World) : Prop := ∀ n o, τ.imm n = some o → σ.imm n = some o ∨ w.heap.size ≤ n ∨ ∃ c e fr, w.heap[n]? = some (.cells c e fr)
theorem ImmOk.same {σ τ : Env} {w : World} (h : τ.imm = σ.imm) : ImmOk σ τ w := fun n o ho => .inl (h ▸ ho)
theorem FxOk.mono {σ τ : Env} (h : σ.le τ) {w : World} {f : Fx} (hi : f.isIter = false ∨ ImmOk σ τ w) (hf : FxOk σ w f) : FxOk τ w f := by
  cases f with
  | iter b l k =>
    obtain ⟨n, sz, h1, h2, h3⟩ := hf
    refine ⟨n, sz, prefix_get h.b h1, h2, ?_⟩
    cases ht : τ.imm n with
    | none => rfl
    | some o =>
      rcases hi with hi | hi
      · cases hi
      · rcases hi n o ht with hi | hi | ⟨c, e, fr, hi⟩
        · rw [h3] at hi; cases hi
        · have := (Array.getElem?_eq_some_iff.1 h2).1; omega
        · rw [h2] at hi; cases hi
  | op op k x y r =>
    obtain ⟨a, b, c, h1, h2, h3, h4⟩ := hf
    exact ⟨a, b, c, Num.den_mono h h1, Num.den_mono h h2, Num.den_mono h h3, h4⟩
  | conv k x r => obtain ⟨a, h1, h2⟩ := hf; exact ⟨a, Num.den_mono h h1, Num.den_mono h h2⟩
  | mm mn x y r => obtain ⟨a, b, h1, h2, h3⟩ := hf; exact ⟨a, b, Num.den_mono h h1, Num.den_mono h h2, Num.den_mono h h3⟩
  | be e => exact BE.den_mono h hf
  | cell b i k v => obtain ⟨n, sz, c, e, fr, m, j, h1, h2, h3, h4, h5⟩ := hf; exact ⟨n, sz, c, e, fr, m, j, prefix_get h.b h1, h2, Num.den_mono h h3, h4, Num.den_mono h h5⟩
  | rd k x v =>
    obtain ⟨a, b, n0, ns, sz, h1, h2, h3, h4, h5, h6⟩ := hf
    exact ⟨a, b, n0, ns, sz, Num.den_mono h h1, Num.den_mono h h2, prefix_get h.b h3, h4, fun i p hp => ⟨(h5 i p hp).1.imp fun sz k => prefix_get h.b k, (h5 i p hp).2⟩, h6⟩
theorem FxOk.heap {σ : Env} {w w' : World} (hk : ∀ n, n < w.heap.size → w'.heap[n]? = w.heap[n]?) {f : Fx} (hf : FxOk σ w f) : FxOk σ w' f := by
  cases f with
  | cell b i k v =>
    obtain ⟨n, sz, c, e, fr, m, j, h1, h2, h3, h4, h5⟩ := hf
    exact ⟨n, sz, c, e, fr, m, j, h1, by rw [hk n (Array.getElem?_eq_some_iff.1 h2).1]; exact h2, h3, h4, h5⟩
  | rd k x v =>
    obtain ⟨a, b, n0, ns, sz, h1, h2, h3, h4, h5, h6⟩ := hf
    exact ⟨a, b, n0, ns, sz, h1, h2, h3, h4, fun i p hp => ⟨(h5 i p hp).1, by rw [hk p.1 (Array.getElem?_eq_some_iff.1 (h5 i p hp).2).1]; exact (h5 i p hp).2⟩, h6⟩
  | iter b l k =>
    obtain ⟨n, sz, h1, h2, h3⟩ := hf
    exact ⟨n, sz, h1, by rw [hk n (Array.getElem?_eq_some_iff.1 h2).1]; exact h2, h3⟩
  | _ => exact hf
structure Gh where
  w0 : World
  pre : List Nat
  imm0 : Imm
def CellOk (σ : Env) (ab : AB) (j : Nat) (v : Value) : Prop :=
  match ab.t.get j with
  | some av => Sat σ av v
  | none => SatShAt σ.imm ab.d (j % ab.d.length) v
def BlkOk (σ : Env) (w : World) (ab : AB) (n sz : Nat) : Prop :=
  ∃ c, w.heap[n]? = some (.cells c ab.e (0, 0)) ∧ c.size = sz ∧ ab.n ≤ sz ∧ ∀ j v, c[j]? = some v → CellOk σ ab j v
/-- The heap has not shrunk; what the world has beside it is as it was. -/
structure SzOk (w0 w : World) : Prop where
  le : w0.heap.size ≤ w.heap.size
  os : w.os = w0.os
  out : w.output = w0.output
theorem SzOk.refl (w : World) : SzOk w w := ⟨Nat.le_refl _, rfl, rfl⟩
theorem SzOk.trans {a b c : World} (h : SzOk a b) (k : SzOk b c) : SzOk a c := ⟨Nat.le_trans h.le k.le, k.os.trans h.os, k.out.trans h.out⟩
structure Rel (ro : Nat → Bool) (g : Gh) (σ : Env) (H : AH) (w : World) : Prop where
  nlen : σ.n.length = H.nn
  rng : ∀ i r, H.rng.get i = some r → ∃ n, σ.n[i]? = some n ∧ r.1 ≤ n ∧ n ≤ r.2
  lts : ∀ p ∈ H.lts, ∃ a b, p.1.den σ = some a ∧ p.2.den σ = some b ∧ a < b
  blen : σ.b.length = H.nb
  blk : ∀ b ab, H.hp.get b = some ab → ∃ n sz, σ.b[b]? = some (some (n, sz)) ∧ BlkOk σ w ab n sz
  inj : ∀ b b' ab ab' n sz sz', H.hp.get b = some ab → H.hp.get b' = some ab' → σ.b[b]? = some (some (n, sz)) → σ.b[b']? = some (some (n, sz')) → b = b'
  imm : ∀ m o, σ.imm m = some o → w.heap[m]? = some o
  immd : ∀ b ab n sz, H.hp.get b = some ab → σ.b[b]? = some (some (n, sz)) → σ.imm n = none
  frame : ∀ m, m < g.w0.heap.size → m ∉ g.pre → w.heap[m]? = g.w0.heap[m]?
  sz : SzOk g.w0 w
  own : ∀ (b n sz : Nat), ro b = true → σ.b[b]? = some (some (n, sz)) → g.w0.heap.size ≤ n ∨ n ∈ g.pre
  bnd : ∀ (b n sz : Nat), σ.b[b]? = some (some (n, sz)) → n < w.heap.size
  immo : ∀ (m : Nat) (o : Obj), σ.imm m = some o → m < g.w0.heap.size → m ∉ g.pre → g.imm0 m = some o
  fx : ∀ f ∈ H.fx, FxOk σ w f

theorem Rel.size {ro : Nat → Bool} {g : Gh} {σ : Env} {H : AH} {w : World} (R : Rel ro g σ H w) : g.w0.heap.size ≤ w.heap.size := R.sz.le
theorem CellOk.mono {σ τ : Env} (h : σ.le τ) {ab : AB} {j : Nat} {v : Value} (hc : CellOk σ ab j v) : CellOk τ ab j v := by
  unfold CellOk at *
  split
  · rename_i av ha; rw [ha] at hc; exact Sat.mono h _ _ hc
  · rename_i ha; rw [ha] at hc; exact SatShAt.mono h.imm _ _ _ hc
theorem BlkOk.mono {σ τ : Env} (h : σ.le τ) {w : World} {ab : AB} {n sz : Nat} (hb : BlkOk σ w ab n sz) : BlkOk τ w ab n sz := by
  obtain ⟨c, h1, h2, h3, h4⟩ := hb
  exact ⟨c, h1, h2, h3, fun j v hv => (h4 j v hv).mono h⟩

/-! ranges -/
def AH.range (H : AH) (x : Num) : Option (Int × Int) :=
  match x.s with
  | none => some (x.c, x.c)
  | some i => match H.rng.get i with
    | none => none
    | some (a, b) => some (a + x.c, b + x.c)
section
variable {ro : Nat → Bool} {g : Gh} {σ : Env} {H : AH} {w : World}
theorem Rel.range (R : Rel ro g σ H w) {x : Num} {n lo hi : Int} (hd : x.den σ = some n) (hr : H.range x = some (lo, hi)) : lo ≤ n ∧ n ≤ hi := by
  unfold AH.range at hr
  unfold Num.den at hd
  cases hs : x.s with
  | none => simp only [hs] at hr hd; cases hr; cases hd; omega
  | some i =>
    simp only [hs] at hr hd
    cases hg : H.rng.get i with
    | none => simp [hg] at hr
    | some r =>
      obtain ⟨a, b⟩ := r
      simp only [hg, Option.some.injEq, Prod.mk.injEq] at hr
      obtain ⟨m, hm, h1, h2⟩ := R.rng i _ hg
      simp only [hm, Option.map_some, Option.some.injEq] at hd
      obtain ⟨rfl, rfl⟩ := hr
      subst hd
      dsimp only at h1 h2
      omega
def AH.norm (H : AH) (x : Num) : Num :=
  match H.range x with
  | some (a, b) => bif decide (a = b) then ⟨none, a⟩ else x
  | none => x
theorem Rel.norm (R : Rel ro g σ H w) {x : Num} {n : Int} (hd : x.den σ = some n) : (H.norm x).den σ = some n := by
  unfold AH.norm
  split
  · rename_i a b hr
    rw [cond_eq_ite]
    by_cases h : a = b
    · simp only [h, decide_true, if_true, Num.den]
      have := R.range hd hr
      congr 1; omega
    · simp [h, hd]
  · exact hd
def AH.fresh (H : AH) (lo hi : Int) : AH := { H with rng := H.rng.set H.nn (some (lo, hi)), nn := H.nn + 1 }
def Env.more (σ : Env) (n : Int) : Env := { σ with n := σ.n ++ [n] }
theorem Env.le_more (σ : Env) (n : Int) : σ.le (σ.more n) := ⟨List.prefix_append _ _, List.prefix_refl _, fun _ _ h => h⟩
theorem Rel.fresh (R : Rel ro g σ H w) {lo hi n : Int} (h1 : lo ≤ n) (h2 : n ≤ hi) : Rel ro g (σ.more n) (H.fresh lo hi) w := by
  have hle := σ.le_more n
  refine ⟨by simp [Env.more, AH.fresh, R.nlen], ?_, ?_, R.blen, ?_, R.inj, R.imm, R.immd, R.frame, R.sz, R.own, R.bnd, R.immo, fun f hf => (R.fx f hf).mono hle (.inr (.same rfl))⟩
  · intro i r hr
    rcases Tr.get_set_some hr with ⟨rfl, h⟩ | ⟨hne, h⟩
    · cases h
      refine ⟨n, ?_, h1, h2⟩
      simp [Env.more, ← R.nlen]
    · obtain ⟨m, hm, h3⟩ := R.rng i r h
      exact ⟨m, prefix_get hle.n hm, h3⟩
  · intro p hp
    obtain ⟨a, b, h3, h4, h5⟩ := R.lts p hp
    exact ⟨a, b, Num.den_mono hle h3, Num.den_mono hle h4, h5⟩
  · intro b ab hb
    obtain ⟨m, sz, h3, h4⟩ := R.blk b ab hb
    exact ⟨m, sz, h3, h4.mono hle⟩
theorem Rel.fresh_den (R : Rel ro g σ H w) (n : Int) : (⟨some H.nn, 0⟩ : Num).den (σ.more n) = some n := by
  simp [Num.den, Env.more, ← R.nlen]
/-- The world's other parts are of no account. -/
theorem Rel.heap (R : Rel ro g σ H w) {w' : World} (h : w'.heap = w.heap) (ho : w'.os = w.os := by rfl) (hu : w'.output = w.output := by rfl) : Rel ro g σ H w' := by
  refine ⟨R.nlen, R.rng, R.lts, R.blen, ?_, R.inj, ?_, R.immd, ?_, ?_, R.own, ?_, R.immo, fun f hf => (R.fx f hf).heap fun n _ => by rw [h]⟩
  · intro b ab hb
    obtain ⟨m, sz, h3, c, h4⟩ := R.blk b ab hb
    exact ⟨m, sz, h3, c, by rw [h]; exact h4⟩
  · intro m o; rw [h]; exact R.imm m o
  · intro m; rw [h]; exact R.frame m
  · exact ⟨by rw [h]; exact R.size, ho.trans R.sz.os, hu.trans R.sz.out⟩
  · rw [h]; exact R.bnd
def AH.from (H : AH) (k : Nat) : AH := { H with n0 := k }
theorem Rel.from (R : Rel ro g σ H w) (k : Nat) : Rel ro g σ (H.from k) w :=
  ⟨R.nlen, R.rng, R.lts, R.blen, R.blk, R.inj, R.imm, R.immd, R.frame, R.sz, R.own, R.bnd, R.immo, R.fx⟩
def AH.setFm (H : AH) (b : Bool) : AH := { H with fm := b }
theorem Rel.setFm (R : Rel ro g σ H w) (b : Bool) : Rel ro g σ (H.setFm b) w :=
  ⟨R.nlen, R.rng, R.lts, R.blen, R.blk, R.inj, R.imm, R.immd, R.frame, R.sz, R.own, R.bnd, R.immo, R.fx⟩
def AH.addFx (H : AH) (f : Fx) : AH := { H with fx := f :: H.fx }
theorem Rel.addFx (R : Rel ro g σ H w) {f : Fx} (h : FxOk σ w f) : Rel ro g σ (H.addFx f) w :=
  ⟨R.nlen, R.rng, R.lts, R.blen, R.blk, R.inj, R.imm, R.immd, R.frame, R.sz, R.own, R.bnd, R.immo, fun f' hf => by
    rcases List.mem_cons.1 hf with rfl | hf
    · exact h
    · exact R.fx _ hf⟩
/-- The numbers' ranges exchanged. -/
theorem Rel.ranges (R : Rel ro g σ H w) {H' : AH} (hn : H'.nn = H.nn) (hb : H'.hp = H.hp) (hm : H'.nb = H.nb) (hf : H'.fx = H.fx)
    (hr : ∀ i r, H'.rng.get i = some r → ∃ n, σ.n[i]? = some n ∧ r.1 ≤ n ∧ n ≤ r.2)
    (hl : ∀ p ∈ H'.lts, ∃ a b, p.1.den σ = some a ∧ p.2.den σ = some b ∧ a < b) : Rel ro g σ H' w :=
  ⟨hn ▸ R.nlen, hr, hl, hm ▸ R.blen, hb ▸ R.blk, hb ▸ R.inj, R.imm, hb ▸ R.immd, R.frame, R.sz, R.own, R.bnd, R.immo, hf ▸ R.fx⟩

/-- Only what is known of numbers differs. -/
structure AH.same (H H' : AH) : Prop where
  nn : H'.nn = H.nn
  hp : H'.hp = H.hp
  nb : H'.nb = H.nb
theorem AH.same.refl (H : AH) : H.same H := ⟨rfl, rfl, rfl⟩
theorem AH.same.trans {H H' H'' : AH} (h : H.same H') (h' : H'.same H'') : H.same H'' := ⟨h'.nn.trans h.nn, h'.hp.trans h.hp, h'.nb.trans h.nb⟩

def AH.tight (H : AH) (x : Num) (lo hi : Int) : Option AH :=
  match x.s with
  | none => bif decide (lo ≤ x.c) && decide (x.c ≤ hi) then some H else none
  | some i => match H.rng.get i with
    | none => some H
    | some (a, b) => bif decide (max a (lo - x.c) ≤ min b (hi - x.c)) then some { H with rng := H.rng.set i (some (max a (lo - x.c), min b (hi - x.c))) } else none
theorem Rel.tight (R : Rel ro g σ H w) {x : Num} {n lo hi : Int} (hd : x.den σ = some n) (h1 : lo ≤ n) (h2 : n ≤ hi) :
    ∃ H', H.tight x lo hi = some H' ∧ H.same H' ∧ Rel ro g σ H' w := by
  unfold AH.tight
  cases hs : x.s with
  | none =>
    simp only [Num.den, hs, Option.some.injEq] at hd
    subst hd
    exact ⟨H, by simp [h1, h2], .refl H, R⟩
  | some i =>
    simp only []
    cases hg : H.rng.get i with
    | none => exact ⟨H, rfl, .refl H, R⟩
    | some r =>
      obtain ⟨a, b⟩ := r
      obtain ⟨m, hm, h3, h4⟩ := R.rng i _ hg
      simp only [Num.den, hs, hm, Option.map_some, Option.some.injEq] at hd
      dsimp only at h3 h4
      have hle : max a (lo - x.c) ≤ min b (hi - x.c) := by omega
      refine ⟨{ H with rng := H.rng.set i (some (max a (lo - x.c), min b (hi - x.c))) }, by simp only [hle, decide_true, cond_true], ⟨rfl, rfl, rfl⟩, R.ranges rfl rfl rfl rfl ?_ R.lts⟩
      intro j r hr
      rcases Tr.get_set_some hr with ⟨rfl, h⟩ | ⟨hne, h⟩
      · cases h; exact ⟨m, hm, by dsimp only; omega, by dsimp only; omega⟩
      · exact R.rng j r h
/-- Nothing that is out of the question. -/
def AH.tight2 (H : AH) (x : Num) (lo hi : Int) (y : Num) (lo' hi' : Int) : Option AH :=
  match H.tight x lo hi with
  | none => none
  | some H' => H'.tight y lo' hi'
theorem Rel.tight2 (R : Rel ro g σ H w) {x y : Num} {n m lo hi lo' hi' : Int} (hd : x.den σ = some n) (h1 : lo ≤ n) (h2 : n ≤ hi)
    (hd' : y.den σ = some m) (h1' : lo' ≤ m) (h2' : m ≤ hi') : ∃ H', H.tight2 x lo hi y lo' hi' = some H' ∧ H.same H' ∧ Rel ro g σ H' w := by
  obtain ⟨H1, e1, s1, R1⟩ := R.tight hd h1 h2
  obtain ⟨H2, e2, s2, R2⟩ := R1.tight hd' h1' h2'
  exact ⟨H2, by simp only [AH.tight2, e1, e2], s1.trans s2, R2⟩
def AH.fact (H : AH) (x y : Num) : AH := match x.s, y.s with
  | some _, some _ => { H with lts := (x, y) :: H.lts }
  | _, _ => H
theorem Rel.fact (R : Rel ro g σ H w) {x y : Num} {n m : Int} (hd : x.den σ = some n) (hd' : y.den σ = some m) (h : n < m) :
    Rel ro g σ (H.fact x y) w ∧ H.same (H.fact x y) := by
  unfold AH.fact
  split
  · refine ⟨R.ranges rfl rfl rfl rfl R.rng ?_, rfl, rfl, rfl⟩
    intro p hp
    rcases List.mem_cons.1 hp with rfl | hp
    · exact ⟨n, m, hd, hd', h⟩
    · exact R.lts p hp
  · exact ⟨R, .refl H⟩
/-- What follows of a test's outcome; nothing where it can't be. -/
def AH.assume (H : AH) (e : BE) (want : Bool) : Option AH :=
  match e with
  | .c b => bif b == want then some H else none
  | .s i pos => bif want == pos then
      match H.rng.get i with
      | some (lo, hi) => bif decide (0 ≤ lo) then H.tight ⟨some i, 0⟩ 1 hi else some H
      | none => some H
    else H.tight ⟨some i, 0⟩ 0 0
  | .lt a b pos =>
    match H.range a, H.range b with
    | some (al, ah), some (bl, bh) =>
      bif want == pos then match H.tight2 a al (bh - 1) b (al + 1) bh with
        | some H' => some (H'.fact a b)
        | none => none
      else H.tight2 a bl ah b bl ah
    | _, _ => some H
  | .eq a b pos =>
    match H.range a, H.range b with
    | some (al, ah), some (bl, bh) =>
      bif want == pos then H.tight2 a bl bh b al ah
      else bif decide (bl = bh) then
        bif decide (bl = al) then H.tight a (al + 1) ah
        else bif decide (bl = ah) then H.tight a al (ah - 1) else some H
      else bif decide (al = ah) then
        bif decide (al = bl) then H.tight b (bl + 1) bh
        else bif decide (al = bh) then H.tight b bl (bh - 1) else some H
      else some H
    | _, _ => some H
theorem Rel.assume (R : Rel ro g σ H w) {e : BE} {want : Bool} (hd : e.den σ = some want) :
    ∃ H', H.assume e want = some H' ∧ H.same H' ∧ Rel ro g σ H' w := by
  cases e with
  | c b => simp only [BE.den, Option.some.injEq] at hd; subst hd; exact ⟨H, by simp [AH.assume], .refl H, R⟩
  | s i pos =>
    simp only [BE.den, Option.map_eq_some_iff] at hd
    obtain ⟨n, hn, hd⟩ := hd
    have hden : (⟨some i, 0⟩ : Num).den σ = some n := by simp [Num.den, hn]
    simp only [AH.assume]
    by_cases hw : want = pos
    · subst hw
      simp only [beq_self_eq_true, cond_true]
      have hn0 : n ≠ 0 := by cases want <;> simp_all
      split
      · rename_i lo hi hr
        obtain ⟨m, hm, h3, h4⟩ := R.rng i _ hr
        rw [hn] at hm; cases hm
        by_cases h0 : 0 ≤ lo
        · simp only [h0, decide_true, cond_true]
          exact R.tight hden (by dsimp only at h3; omega) h4
        · simp only [h0, decide_false, cond_false]; exact ⟨H, rfl, .refl H, R⟩
      · exact ⟨H, rfl, .refl H, R⟩
    · have hb : (want == pos) = false := by simpa using hw
      simp only [hb, cond_false]
      have hn0 : n = 0 := by cases want <;> cases pos <;> simp_all
      exact R.tight hden (by omega) (by omega)
  | lt a b pos =>
    simp only [BE.den, Option.bind_eq_some_iff, Option.map_eq_some_iff] at hd
    obtain ⟨n, hn, m, hm, hd⟩ := hd
    simp only [AH.assume]
    split
    · rename_i al ah bl bh ha hb
      have h1 := R.range hn ha
      have h2 := R.range hm hb
      by_cases hw : want = pos
      · subst hw
        simp only [beq_self_eq_true, cond_true]
        have hlt : n < m := by cases want <;> simp_all
        obtain ⟨H', e', s', R'⟩ := R.tight2 (lo := al) (hi := bh - 1) (lo' := al + 1) (hi' := bh) hn h1.1 (by omega) hm (by omega) h2.2
        obtain ⟨R'', s''⟩ := R'.fact hn hm hlt
        exact ⟨_, by simp only [e'], s'.trans s'', R''⟩
      · have hb' : (want == pos) = false := by simpa using hw
        simp only [hb', cond_false]
        have hge : ¬ n < m := by cases want <;> cases pos <;> simp_all
        exact R.tight2 hn (by omega) h1.2 hm h2.1 (by omega)
    · exact ⟨H, rfl, .refl H, R⟩
  | eq a b pos =>
    simp only [BE.den, Option.bind_eq_some_iff, Option.map_eq_some_iff] at hd
    obtain ⟨n, hn, m, hm, hd⟩ := hd
    simp only [AH.assume]
    split
    · rename_i al ah bl bh ha hb
      have h1 := R.range hn ha
      have h2 := R.range hm hb
      by_cases hw : want = pos
      · subst hw
        simp only [beq_self_eq_true, cond_true]
        have heq : n = m := by cases want <;> simp_all
        exact R.tight2 hn (by omega) (by omega) hm (by omega) (by omega)
      · have hb' : (want == pos) = false := by simpa using hw
        simp only [hb', cond_false]
        have hne : ¬ n = m := by cases want <;> cases pos <;> simp_all
        simp only [cond_eq_ite, decide_eq_true_eq]
        repeat' split
        all_goals first
          | exact ⟨H, rfl, .refl H, R⟩
          | exact R.tight hn (by omega) (by omega)
          | exact R.tight hm (by omega) (by omega)
    · exact ⟨H, rfl, .refl H, R⟩
end

/-! whole numbers of a kind -/
theorem wrap_range (k : IntKind) (n : Int) : k.min ≤ k.wrap n ∧ k.wrap n ≤ k.max := by
  cases k <;> simp only [IntKind.wrap, IntKind.min, IntKind.max, IntKind.bits, IntKind.signed] <;> simp <;> (try split) <;> omega
theorem wrap_id (k : IntKind) (n : Int) (h1 : k.min ≤ n) (h2 : n ≤ k.max) : k.wrap n = n := by
  cases k <;> simp [IntKind.min, IntKind.max, IntKind.bits, IntKind.signed] at h1 h2 <;> simp only [IntKind.wrap, IntKind.bits, IntKind.signed] <;> simp <;> (try split) <;> omega
end
end Go.Proofs.YtgkoghgiclkbhaaGreatDoor.Sx
namespace Go.Proofs.YtgkoghgiclkbhaaGreatDoor.Sx
open Go
noncomputable section

def BinOp.isShift : BinOp → Bool
  | .shl | .shr => true
  | _ => false
theorem run_intOp {P : Program} {op : BinOp} {t : TypeId} {k k' : IntKind} {x y n : Int} (hk : k = k' ∨ BinOp.isShift op = true) (h : intOp op k x y = some n) (w : World) :
    (binOp op t (.int k x) (.int k' y)).run P w = .ok (.int k n) w := by
  cases op <;> simp [intOp, cond_eq_ite] at h <;> simp [BinOp.isShift] at hk <;> (try subst hk)
  case add => subst h; simp [binOp, Op.intArith]
  case sub => subst h; simp [binOp, Op.intArith]
  case mul => subst h; simp [binOp, Op.intArith]
  case quo => obtain ⟨h0, rfl⟩ := h; simp [binOp, Op.intDiv, h0]
  case rem => obtain ⟨h0, rfl⟩ := h; simp [binOp, Op.intDiv, h0]
  case and => subst h; simp [binOp, Op.intBits]
  case or => subst h; simp [binOp, Op.intBits]
  case xor => subst h; simp [binOp, Op.intBits]
  case andNot => subst h; simp [binOp, Op.intBits]
  case shl => obtain ⟨h0, rfl⟩ := h; have h0' : ¬ y < 0 := by omega
              simp [binOp, Op.shift, h0']
  case shr => obtain ⟨h0, rfl⟩ := h; have h0' : ¬ y < 0 := by omega
              simp [binOp, Op.shift, h0']

def full (k : IntKind) : Option (Int × Int) := some (k.min, k.max)
def orTop (k : IntKind) (b d : Int) : Option (Int × Int) :=
  bif decide ((2 : Int) ^ ((max b d).toNat.log2 + 1) - 1 ≤ k.max) then some (0, (2 : Int) ^ ((max b d).toNat.log2 + 1) - 1) else full k
/-- Where an operation's outcome lies. -/
def rngOf (op : BinOp) (k : IntKind) (a b c d : Int) : Option (Int × Int) :=
  match op with
  | .add => bif decide (k.min ≤ a + c) && decide (b + d ≤ k.max) then some (a + c, b + d) else full k
  | .sub => bif decide (k.min ≤ a - d) && decide (b - c ≤ k.max) then some (a - d, b - c) else full k
  | .mul => bif decide (0 ≤ a) && decide (0 ≤ c) && decide (b * d ≤ k.max) then some (a * c, b * d) else full k
  | .quo => bif decide (0 < c) then
      (bif decide (0 ≤ a) && decide (b ≤ k.max) then (bif decide (c = d) then some (a / c, b / c) else some (0, b)) else full k) else bif decide (d < 0) then full k else none
  | .rem => bif decide (0 < c) then (bif decide (0 ≤ a) then some (0, min b (d - 1)) else some (-(d - 1), d - 1)) else none
  | .and => bif decide (0 ≤ c) && decide (d ≤ k.max) then some (0, d) else bif decide (0 ≤ a) && decide (b ≤ k.max) then some (0, b) else full k
  | .andNot => bif decide (0 ≤ a) && decide (b ≤ k.max) then some (0, b) else full k
  | .or | .xor => bif decide (0 ≤ a) && decide (0 ≤ c) then orTop k b d else full k
  | .shl => bif decide (0 ≤ c) then
      (bif decide (0 ≤ a) && decide (b * 2 ^ (min d.toNat k.bits) ≤ k.max) then some (a * 2 ^ (min c.toNat k.bits), b * 2 ^ (min d.toNat k.bits)) else full k) else none
  | .shr => bif decide (0 ≤ c) then
      (bif decide (c = d) then some (a / 2 ^ (min c.toNat k.bits), b / 2 ^ (min c.toNat k.bits)) else bif decide (0 ≤ a) then some (0, b) else some (min a 0, max b 0)) else none
  | _ => none
theorem max_lt_pow (k : IntKind) : k.max < 2 ^ k.bits := by cases k <;> simp [IntKind.max, IntKind.bits, IntKind.signed]
theorem min_le_zero (k : IntKind) : k.min ≤ 0 := by cases k <;> simp [IntKind.min, IntKind.bits, IntKind.signed]
theorem toNat_ofInt_of (k : IntKind) {y : Int} (h : 0 ≤ y) (h' : y ≤ k.max) : ((BitVec.ofInt k.bits y).toNat : Int) = y := by
  have := max_lt_pow k
  rw [BitVec.toNat_ofInt, Int.emod_eq_of_lt h (by push_cast; omega)]
  omega
theorem two_pow_le {m n : Nat} (h : m ≤ n) : (2 : Int) ^ m ≤ 2 ^ n := by
  have : (2 : Nat) ^ m ≤ 2 ^ n := Nat.pow_le_pow_right (by decide) h
  exact_mod_cast this
theorem two_pow_pos (n : Nat) : (0 : Int) < 2 ^ n := Int.pow_pos (by decide)
set_option linter.unusedVariables false
theorem ediv_pow_mono {a x b : Int} (p : Int) (hp : 0 < p) (h1 : a ≤ x) (h2 : x ≤ b) : a / p ≤ x / p ∧ x / p ≤ b / p :=
  ⟨Int.ediv_le_ediv hp h1, Int.ediv_le_ediv hp h2⟩
theorem ediv_le_of_nonneg {x p : Int} (h : 0 ≤ x) (hp : 0 < p) : x / p ≤ x := Int.ediv_le_self p h
theorem ediv_neg_ge {x p : Int} (h : x < 0) (hp : 0 < p) : x ≤ x / p ∧ x / p ≤ 0 := by
  constructor
  · rw [Int.le_ediv_iff_mul_le hp]
    have : x * p ≤ x * 1 := Int.mul_le_mul_of_nonpos_left (by omega) (by omega)
    omega
  · have : x / p ≤ 0 / p := Int.ediv_le_ediv hp (by omega)
    simpa using this
theorem rngOf_sound {op : BinOp} {k : IntKind} {a b c d x y lo hi : Int} (h : rngOf op k a b c d = some (lo, hi)) (hx1 : a ≤ x) (hx2 : x ≤ b) (hy1 : c ≤ y) (hy2 : y ≤ d) :
    ∃ n, intOp op k x y = some n ∧ lo ≤ n ∧ n ≤ hi := by
  have hfull : ∀ m, full k = some (lo, hi) → lo ≤ k.wrap m ∧ k.wrap m ≤ hi := by
    intro m hf; simp only [full, Option.some.injEq, Prod.mk.injEq] at hf; rw [← hf.1, ← hf.2]; exact wrap_range k m
  have hmin := min_le_zero k
  have hbits : ∀ m : Nat, ∀ u : Int, (m : Int) ≤ u → u ≤ k.max → 0 ≤ k.wrap (m : Int) ∧ k.wrap (m : Int) ≤ u := by
    intro m u h1 h2; rw [wrap_id k m (by omega) (by omega)]; omega
  have hor : ∀ m : Nat, ∀ u v : Int, 0 ≤ u → 0 ≤ v → (∀ q, u.toNat < 2 ^ q → v.toNat < 2 ^ q → m < 2 ^ q) → u ≤ b → v ≤ d → orTop k b d = some (lo, hi) → lo ≤ k.wrap (m : Int) ∧ k.wrap (m : Int) ≤ hi := by
    intro m u v hu hv hq hub hvd ho
    simp only [orTop, cond_eq_ite, decide_eq_true_eq] at ho
    split at ho
    · rename_i hle
      simp only [Option.some.injEq, Prod.mk.injEq] at ho
      have hlog : (max b d).toNat < 2 ^ ((max b d).toNat.log2 + 1) := Nat.lt_log2_self
      have := hq ((max b d).toNat.log2 + 1) (by omega) (by omega)
      have h3 : (m : Int) < 2 ^ ((max b d).toNat.log2 + 1) := by exact_mod_cast this
      rw [wrap_id k m (by omega) (by omega), ← ho.1, ← ho.2]
      omega
    · exact hfull _ ho
  cases op <;> simp only [rngOf] at h
  case add =>
    refine ⟨_, rfl, ?_⟩
    simp only [cond_eq_ite, Bool.and_eq_true, decide_eq_true_eq] at h
    split at h
    · cases h; rw [wrap_id k _ (by omega) (by omega)]; omega
    · exact hfull _ h
  case sub =>
    refine ⟨_, rfl, ?_⟩
    simp only [cond_eq_ite, Bool.and_eq_true, decide_eq_true_eq] at h
    split at h
    · cases h; rw [wrap_id k _ (by omega) (by omega)]; omega
    · exact hfull _ h
  case mul =>
    refine ⟨_, rfl, ?_⟩
    simp only [cond_eq_ite, Bool.and_eq_true, decide_eq_true_eq] at h
    split at h
    · rename_i hc
      cases h
      have h1 : a * c ≤ x * y := Int.mul_le_mul hx1 hy1 hc.1.2 (by omega)
      have h2 : x * y ≤ b * d := Int.mul_le_mul hx2 hy2 (by omega) (by omega)
      have h3 : 0 ≤ a * c := Int.mul_nonneg hc.1.1 hc.1.2
      rw [wrap_id k _ (by omega) (by omega)]; omega
    · exact hfull _ h
  case quo =>
    simp only [cond_eq_ite, Bool.and_eq_true, decide_eq_true_eq] at h
    split at h
    · rename_i hc
      have hy0 : y ≠ 0 := by omega
      refine ⟨k.wrap (x.tdiv y), by simp [intOp, hy0], ?_⟩
      split at h
      · rename_i h0
        have hx0 : 0 ≤ x := by omega
        rw [Int.tdiv_eq_ediv_of_nonneg hx0]
        have h1 := ediv_le_of_nonneg (p := y) hx0 (by omega)
        have h2 : 0 ≤ x / y := Int.ediv_nonneg hx0 (by omega)
        rw [wrap_id k _ (by omega) (by omega)]
        split at h
        · rename_i hcd
          cases h
          have : y = c := by omega
          subst this
          exact ediv_pow_mono y hc hx1 hx2
        · cases h; omega
      · exact hfull _ h
    · split at h
      · have hy0 : y ≠ 0 := by omega
        refine ⟨k.wrap (x.tdiv y), by simp [intOp, hy0], hfull _ h⟩
      · cases h
  case rem =>
    simp only [cond_eq_ite, decide_eq_true_eq] at h
    split at h
    · rename_i hc
      have hy0 : y ≠ 0 := by omega
      refine ⟨x.tmod y, by simp [intOp, hy0], ?_⟩
      split at h
      · cases h
        have hx0 : 0 ≤ x := by omega
        rw [Int.tmod_eq_emod_of_nonneg hx0]
        have h1 := Int.emod_nonneg x hy0
        have h2 := Int.emod_lt_of_pos x (show 0 < y by omega)
        have h3 : x % y ≤ x := by
          by_cases hlt : x < y
          · rw [Int.emod_eq_of_lt hx0 hlt]; omega
          · omega
        omega
      · cases h
        have h1 := Int.tmod_lt_of_pos x (show 0 < y by omega)
        have h2 := Int.lt_tmod_of_pos x (show 0 < y by omega)
        omega
    · cases h
  case and =>
    refine ⟨_, rfl, ?_⟩
    simp only [cond_eq_ite, Bool.and_eq_true, decide_eq_true_eq] at h
    rw [BitVec.toNat_and]
    split at h
    · cases h
      have h1 := toNat_ofInt_of k (y := y) (by omega) (by omega)
      have h2 : (BitVec.ofInt k.bits x).toNat &&& (BitVec.ofInt k.bits y).toNat ≤ (BitVec.ofInt k.bits y).toNat := Nat.and_le_right
      have := hbits ((BitVec.ofInt k.bits x).toNat &&& (BitVec.ofInt k.bits y).toNat) y (by omega) (by omega)
      omega
    · split at h
      · cases h
        have h1 := toNat_ofInt_of k (y := x) (by omega) (by omega)
        have h2 : (BitVec.ofInt k.bits x).toNat &&& (BitVec.ofInt k.bits y).toNat ≤ (BitVec.ofInt k.bits x).toNat := Nat.and_le_left
        have := hbits ((BitVec.ofInt k.bits x).toNat &&& (BitVec.ofInt k.bits y).toNat) x (by omega) (by omega)
        omega
      · exact hfull _ h
  case andNot =>
    refine ⟨_, rfl, ?_⟩
    simp only [cond_eq_ite, Bool.and_eq_true, decide_eq_true_eq] at h
    split at h
    · cases h
      rw [BitVec.toNat_and]
      have h1 := toNat_ofInt_of k (y := x) (by omega) (by omega)
      have h2 : (BitVec.ofInt k.bits x).toNat &&& (~~~BitVec.ofInt k.bits y).toNat ≤ (BitVec.ofInt k.bits x).toNat := Nat.and_le_left
      have := hbits ((BitVec.ofInt k.bits x).toNat &&& (~~~BitVec.ofInt k.bits y).toNat) x (by omega) (by omega)
      omega
    · exact hfull _ h
  case or =>
    refine ⟨_, rfl, ?_⟩
    simp only [cond_eq_ite, Bool.and_eq_true, decide_eq_true_eq] at h
    split at h
    · rename_i hc
      by_cases hb : b ≤ k.max ∧ d ≤ k.max
      · refine hor _ x y (by omega) (by omega) ?_ hx2 hy2 h
        intro q h1 h2
        have e1 := toNat_ofInt_of k (y := x) (by omega) (by omega)
        have e2 := toNat_ofInt_of k (y := y) (by omega) (by omega)
        rw [BitVec.toNat_or]
        exact Nat.or_lt_two_pow (by omega) (by omega)
      · refine hfull _ ?_
        simp only [orTop, cond_eq_ite, decide_eq_true_eq] at h
        split at h
        · rename_i hle
          exfalso
          have hlog : (max b d).toNat < 2 ^ ((max b d).toNat.log2 + 1) := Nat.lt_log2_self
          have h3 : ((max b d).toNat : Int) < 2 ^ ((max b d).toNat.log2 + 1) := by exact_mod_cast hlog
          omega
        · exact h
    · exact hfull _ h
  case xor =>
    refine ⟨_, rfl, ?_⟩
    simp only [cond_eq_ite, Bool.and_eq_true, decide_eq_true_eq] at h
    split at h
    · rename_i hc
      by_cases hb : b ≤ k.max ∧ d ≤ k.max
      · refine hor _ x y (by omega) (by omega) ?_ hx2 hy2 h
        intro q h1 h2
        have e1 := toNat_ofInt_of k (y := x) (by omega) (by omega)
        have e2 := toNat_ofInt_of k (y := y) (by omega) (by omega)
        rw [BitVec.toNat_xor]
        exact Nat.xor_lt_two_pow (by omega) (by omega)
      · refine hfull _ ?_
        simp only [orTop, cond_eq_ite, decide_eq_true_eq] at h
        split at h
        · rename_i hle
          exfalso
          have hlog : (max b d).toNat < 2 ^ ((max b d).toNat.log2 + 1) := Nat.lt_log2_self
          have h3 : ((max b d).toNat : Int) < 2 ^ ((max b d).toNat.log2 + 1) := by exact_mod_cast hlog
          omega
        · exact h
    · exact hfull _ h
  case shl =>
    simp only [cond_eq_ite, Bool.and_eq_true, decide_eq_true_eq] at h
    split at h
    · rename_i hc
      have hy0 : ¬ y < 0 := by omega
      refine ⟨k.wrap (x * 2 ^ (min y.toNat k.bits)), by simp [intOp, hy0], ?_⟩
      split at h
      · rename_i h0
        cases h
        have e1 : (2 : Int) ^ (min c.toNat k.bits) ≤ 2 ^ (min y.toNat k.bits) := two_pow_le (by omega)
        have e2 : (2 : Int) ^ (min y.toNat k.bits) ≤ 2 ^ (min d.toNat k.bits) := two_pow_le (by omega)
        have hp := two_pow_pos (min y.toNat k.bits)
        have h1 : a * 2 ^ (min c.toNat k.bits) ≤ a * 2 ^ (min y.toNat k.bits) := Int.mul_le_mul_of_nonneg_left e1 h0.1
        have h1' : a * 2 ^ (min y.toNat k.bits) ≤ x * 2 ^ (min y.toNat k.bits) := Int.mul_le_mul_of_nonneg_right hx1 (by omega)
        have h2 : x * 2 ^ (min y.toNat k.bits) ≤ b * 2 ^ (min y.toNat k.bits) := Int.mul_le_mul_of_nonneg_right hx2 (by omega)
        have h2' : b * 2 ^ (min y.toNat k.bits) ≤ b * 2 ^ (min d.toNat k.bits) := Int.mul_le_mul_of_nonneg_left e2 (by omega)
        have h3 : 0 ≤ a * 2 ^ (min y.toNat k.bits) := Int.mul_nonneg h0.1 (by omega)
        rw [wrap_id k _ (by omega) (by omega)]
        omega
      · exact hfull _ h
    · cases h
  case shr =>
    simp only [cond_eq_ite, decide_eq_true_eq] at h
    split at h
    · rename_i hc
      have hy0 : ¬ y < 0 := by omega
      have hp := two_pow_pos (min y.toNat k.bits)
      refine ⟨x.fdiv (2 ^ (min y.toNat k.bits)), by simp [intOp, hy0], ?_⟩
      rw [Int.fdiv_eq_ediv_of_nonneg _ (by omega)]
      split at h
      · cases h
        have : y = c := by omega
        subst this
        exact ediv_pow_mono _ hp hx1 hx2
      · have q1 := ediv_pow_mono _ hp hx1 hx2
        split at h
        · cases h
          have := ediv_le_of_nonneg (x := x) (by omega) hp
          have h2 : 0 ≤ x / 2 ^ (min y.toNat k.bits) := Int.ediv_nonneg (by omega) (by omega)
          omega
        · cases h
          by_cases hx : 0 ≤ x
          · have := ediv_le_of_nonneg hx hp
            have h2 : 0 ≤ x / 2 ^ (min y.toNat k.bits) := Int.ediv_nonneg hx (by omega)
            omega
          · have := ediv_neg_ge (show x < 0 by omega) hp
            omega
    · cases h
  all_goals cases h
end
end Go.Proofs.YtgkoghgiclkbhaaGreatDoor.Sx
namespace Go.Proofs.YtgkoghgiclkbhaaGreatDoor.Sx
open Go
noncomputable section
set_option linter.unusedVariables false

/-! constants and operands -/
def ofCell : Value → AV
  | .int k n => .int k ⟨none, n⟩
  | .bool b => .bool (.c b)
  | .string s => .str (s.data.toList.map UInt8.toNat)
  | v => .lit v
def ofVal : Value → AV
  | .agg cs => .agg (cs.toList.map ofCell)
  | v => ofCell v
theorem strOf_toNat (s : ByteArray) : strOf (s.data.toList.map UInt8.toNat) = s := by
  unfold strOf
  simp only [List.map_map]
  have : UInt8.ofNat ∘ UInt8.toNat = id := by funext x; simp
  rw [this, List.map_id]
theorem sat_ofCell (σ : Env) (v : Value) : Sat σ (ofCell v) v := by
  cases v <;> simp only [ofCell, Sat, Num.den, BE.den]
  case int k n => exact ⟨n, rfl, rfl⟩
  case bool b => exact ⟨b, rfl, rfl⟩
  case string s => rw [strOf_toNat]
theorem satL_ofCells (σ : Env) : ∀ vs : List Value, SatL σ (vs.map ofCell) vs
  | [] => by simp [SatL]
  | v :: vs => by simp only [List.map_cons, SatL]; exact ⟨v, vs, rfl, sat_ofCell σ v, satL_ofCells σ vs⟩
theorem sat_ofVal (σ : Env) (v : Value) : Sat σ (ofVal v) v := by
  cases v <;> simp only [ofVal] <;> first | exact sat_ofCell σ _ | skip
  case agg cs => simp only [Sat]; exact ⟨cs.toList, rfl, satL_ofCells σ _⟩
def FrOk (σ : Env) (F : Tr AV) (a : Act) : Prop := ∀ i av, F.get i = some av → ∃ v, a.tmps[i]? = some v ∧ Sat σ av v
theorem FrOk.mono {σ τ : Env} (h : σ.le τ) {F : Tr AV} {a : Act} (hf : FrOk σ F a) : FrOk τ F a := fun i av hi =>
  let ⟨v, h1, h2⟩ := hf i av hi; ⟨v, h1, Sat.mono h _ _ h2⟩
def aeval (F : Tr AV) : Operand → AV
  | .tmp t => match F.get t with
    | some av => av
    | none => .top
  | .const v => ofVal v
  | .global g => .lit (.pointer (some ⟨g, 0, none⟩))
  | .func f => .fn f []
theorem sat_aeval {σ : Env} {F : Tr AV} {a : Act} (h : FrOk σ F a) (x : Operand) : Sat σ (aeval F x) (a.eval x) := by
  cases x with
  | tmp t =>
    simp only [aeval]
    split
    · rename_i av ha
      obtain ⟨v, h1, h2⟩ := h t av ha
      simp only [Act.eval, Array.getD_eq_getD_getElem?, h1, Option.getD_some]
      exact h2
    · simp [Sat]
  | const v => exact sat_ofVal σ v
  | global g => simp [aeval, Sat, Act.eval]
  | func f => simp [aeval, Sat, Act.eval, SatL]
/-- Of lists. -/
theorem SatL.length {σ : Env} : ∀ {l : List AV} {vs : List Value}, SatL σ l vs → vs.length = l.length
  | [], vs, h => by simp only [SatL] at h; simp [h]
  | a :: l, vs, h => by simp only [SatL] at h; obtain ⟨v, vs', rfl, _, h2⟩ := h; simp [SatL.length h2]
theorem SatL.get {σ : Env} : ∀ {l : List AV} {vs : List Value}, SatL σ l vs → ∀ {i : Nat} {a : AV}, l[i]? = some a → ∃ v, vs[i]? = some v ∧ Sat σ a v
  | [], vs, h, i, a, e => by simp at e
  | b :: l, vs, h, i, a, e => by
    simp only [SatL] at h
    obtain ⟨v, vs', rfl, h1, h2⟩ := h
    cases i with
    | zero => simp at e; subst e; exact ⟨v, rfl, h1⟩
    | succ i => simp at e; simpa using SatL.get h2 e
theorem SatL.drop {σ : Env} : ∀ (n : Nat) {l : List AV} {vs : List Value}, SatL σ l vs → SatL σ (l.drop n) (vs.drop n)
  | 0, l, vs, h => by simpa using h
  | n + 1, [], vs, h => by simp only [SatL] at h; subst h; simp [SatL]
  | n + 1, a :: l, vs, h => by
    simp only [SatL] at h
    obtain ⟨v, vs', rfl, h1, h2⟩ := h
    simpa using SatL.drop n h2
theorem SatL.take {σ : Env} : ∀ (n : Nat) {l : List AV} {vs : List Value}, SatL σ l vs → SatL σ (l.take n) (vs.take n)
  | 0, l, vs, h => by simp [SatL]
  | n + 1, [], vs, h => by simp only [SatL] at h; subst h; simp [SatL]
  | n + 1, a :: l, vs, h => by
    simp only [SatL] at h
    obtain ⟨v, vs', rfl, h1, h2⟩ := h
    simp only [List.take_succ_cons, SatL]
    exact ⟨v, vs'.take n, rfl, h1, SatL.take n h2⟩
theorem SatL.append {σ : Env} : ∀ {l : List AV} {vs : List Value} {l' : List AV} {vs' : List Value}, SatL σ l vs → SatL σ l' vs' → SatL σ (l ++ l') (vs ++ vs')
  | [], vs, l', vs', h, h' => by simp only [SatL] at h; subst h; simpa using h'
  | a :: l, vs, l', vs', h, h' => by
    simp only [SatL] at h
    obtain ⟨v, vs1, rfl, h1, h2⟩ := h
    simp only [List.cons_append, SatL]
    exact ⟨v, vs1 ++ vs', rfl, h1, SatL.append h2 h'⟩
theorem SatL.of_get {σ : Env} : ∀ {l : List AV} {vs : List Value}, vs.length = l.length → (∀ (i : Nat) (a : AV) (v : Value), l[i]? = some a → vs[i]? = some v → Sat σ a v) → SatL σ l vs
  | [], vs, h, _ => by simp only [SatL]; exact List.eq_nil_of_length_eq_zero (by simpa using h)
  | a :: l, [], h, _ => by simp at h
  | a :: l, v :: vs, h, hg => by
    simp only [SatL]
    refine ⟨v, vs, rfl, hg 0 a v rfl rfl, SatL.of_get (by simpa using h) fun i b u h1 h2 => hg (i + 1) b u (by simpa using h1) (by simpa using h2)⟩

/-! opening what is known by its shape alone -/
def AH.fresh1 (H : AH) (lo hi : Int) : AH × Num := (H.fresh lo hi, ⟨some H.nn, 0⟩)
/-- What is taken out anew. -/
def openAt (H : AH) : AV → AH × AV
  | .any (.int k lo hi) => (H.fresh lo hi, .int k ⟨some H.nn, 0⟩)
  | .any .bool => (H.fresh 0 1, .bool (.s H.nn true))
  | .any (.slice cs lo hi) => (H.fresh lo hi, .osl cs ⟨some H.nn, 0⟩)
  | a => (H, a)
def openL (H : AH) : List AV → AH × List AV
  | [] => (H, [])
  | a :: l =>
    match openAt H a with
    | (H', a') => match openL H' l with
      | (H'', l') => (H'', a' :: l')
def openShL : List Sh → List AV
  | [] => []
  | s :: l => .any s :: openShL l
theorem satL_openSh {σ : Env} : ∀ (l : List Sh) (vs : List Value), SatShL σ.imm l vs → SatL σ (openShL l) vs
  | [], _, h => by simp only [SatShL] at h; simp [openShL, SatL, h]
  | s :: l, _, h => by
    simp only [SatShL] at h
    obtain ⟨v, vs', rfl, h1, h2⟩ := h
    simp only [openShL, SatL]
    exact ⟨v, vs', rfl, by simpa only [Sat] using h1, satL_openSh l vs' h2⟩
/-- Aggregates opened too, two deep (a tuple of aggregates). -/
def open1 (H : AH) : AV → AH × AV
  | .any (.agg l) => match openL H (openShL l) with | (H', l') => (H', .agg l')
  | .agg l => match openL H l with | (H', l') => (H', .agg l')
  | a => openAt H a
def open1L (H : AH) : List AV → AH × List AV
  | [] => (H, [])
  | a :: l =>
    match open1 H a with
    | (H', a') => match open1L H' l with
      | (H'', l') => (H'', a' :: l')
def openAll (H : AH) : AV → AH × AV
  | .any (.tup l) => match open1L H (openShL l) with | (H', l') => (H', .tup l')
  | .tup l => match open1L H l with | (H', l') => (H', .tup l')
  | a => open1 H a
/-- A pointer known by its shape: nil, or not. -/
def fin (H : AH) (a : AV) : List (AH × AV) :=
  match a with
  | .any (.ptr cs) => [(H, .lit (.pointer none)), (H, .oaddr cs)]
  | a => [openAll H a]
section
variable {ro : Nat → Bool} {g : Gh} {σ : Env} {H : AH} {w : World}
theorem Rel.openAt (R : Rel ro g σ H w) {a : AV} {v : Value} (h : Sat σ a v) :
    ∃ σ', σ.le σ' ∧ Rel ro g σ' (openAt H a).1 w ∧ Sat σ' (openAt H a).2 v := by
  unfold Sx.openAt
  split
  · rename_i k lo hi
    simp only [Sat, SatSh] at h
    obtain ⟨n, rfl, h1, h2⟩ := h
    exact ⟨σ.more n, σ.le_more n, R.fresh h1 h2, by simp only [Sat]; exact ⟨n, R.fresh_den n, rfl⟩⟩
  · simp only [Sat, SatSh] at h
    obtain ⟨b, rfl⟩ := h
    refine ⟨σ.more (if b then 1 else 0), σ.le_more _, R.fresh (by cases b <;> simp) (by cases b <;> simp), ?_⟩
    simp only [Sat, BE.den]
    refine ⟨b, ?_, rfl⟩
    cases b <;> simp [Env.more, ← R.nlen]
  · rename_i cs lo hi
    simp only [Sat, SatSh] at h
    obtain ⟨base, len, cap, rfl, h1, h2, hlc, h3⟩ := h
    refine ⟨σ.more len, σ.le_more _, R.fresh (by omega) (by omega), ?_⟩
    simp only [Sat]
    exact ⟨base, len, cap, rfl, R.fresh_den _, hlc, h3⟩
  · exact ⟨σ, .refl σ, R, h⟩
theorem Rel.openL : ∀ {l : List AV} {σ : Env} {H : AH} {vs : List Value}, Rel ro g σ H w → SatL σ l vs →
    ∃ σ', σ.le σ' ∧ Rel ro g σ' (openL H l).1 w ∧ SatL σ' (openL H l).2 vs
  | [], σ, H, vs, R, h => ⟨σ, .refl σ, R, h⟩
  | a :: l, σ, H, vs, R, h => by
    simp only [SatL] at h
    obtain ⟨v, vs', rfl, h1, h2⟩ := h
    obtain ⟨σ1, l1, R1, s1⟩ := R.openAt h1
    obtain ⟨σ2, l2, R2, s2⟩ := Rel.openL R1 (SatL.mono l1 _ _ h2)
    refine ⟨σ2, l1.trans l2, R2, ?_⟩
    simp only [Sx.openL, SatL]
    exact ⟨v, vs', rfl, Sat.mono l2 _ _ s1, s2⟩
theorem Rel.open1 (R : Rel ro g σ H w) {a : AV} {v : Value} (h : Sat σ a v) :
    ∃ σ', σ.le σ' ∧ Rel ro g σ' (open1 H a).1 w ∧ Sat σ' (open1 H a).2 v := by
  unfold Sx.open1
  split
  · simp only [Sat, SatSh] at h
    obtain ⟨vs, rfl, h1⟩ := h
    obtain ⟨σ1, l1, R1, s1⟩ := R.openL (satL_openSh _ _ h1)
    refine ⟨σ1, l1, R1, ?_⟩
    simp only [Sat]
    exact ⟨vs, rfl, s1⟩
  · simp only [Sat] at h
    obtain ⟨vs, rfl, h1⟩ := h
    obtain ⟨σ1, l1, R1, s1⟩ := R.openL h1
    refine ⟨σ1, l1, R1, ?_⟩
    simp only [Sat]
    exact ⟨vs, rfl, s1⟩
  · exact R.openAt h
theorem Rel.open1L : ∀ {l : List AV} {σ : Env} {H : AH} {vs : List Value}, Rel ro g σ H w → SatL σ l vs →
    ∃ σ', σ.le σ' ∧ Rel ro g σ' (open1L H l).1 w ∧ SatL σ' (open1L H l).2 vs
  | [], σ, H, vs, R, h => ⟨σ, .refl σ, R, h⟩
  | a :: l, σ, H, vs, R, h => by
    simp only [SatL] at h
    obtain ⟨v, vs', rfl, h1, h2⟩ := h
    obtain ⟨σ1, l1, R1, s1⟩ := R.open1 h1
    obtain ⟨σ2, l2, R2, s2⟩ := Rel.open1L R1 (SatL.mono l1 _ _ h2)
    refine ⟨σ2, l1.trans l2, R2, ?_⟩
    simp only [Sx.open1L, SatL]
    exact ⟨v, vs', rfl, Sat.mono l2 _ _ s1, s2⟩
theorem Rel.openAll (R : Rel ro g σ H w) {a : AV} {v : Value} (h : Sat σ a v) :
    ∃ σ', σ.le σ' ∧ Rel ro g σ' (openAll H a).1 w ∧ Sat σ' (openAll H a).2 v := by
  unfold Sx.openAll
  split
  · simp only [Sat, SatSh] at h
    obtain ⟨vs, rfl, h1⟩ := h
    obtain ⟨σ1, l1, R1, s1⟩ := R.open1L (satL_openSh _ _ h1)
    refine ⟨σ1, l1, R1, ?_⟩
    simp only [Sat]
    exact ⟨vs, rfl, s1⟩
  · simp only [Sat] at h
    obtain ⟨vs, rfl, h1⟩ := h
    obtain ⟨σ1, l1, R1, s1⟩ := R.open1L h1
    refine ⟨σ1, l1, R1, ?_⟩
    simp only [Sat]
    exact ⟨vs, rfl, s1⟩
  · exact R.open1 h
theorem Rel.fin (R : Rel ro g σ H w) {a : AV} {v : Value} (h : Sat σ a v) :
    ∃ p ∈ fin H a, ∃ σ', σ.le σ' ∧ Rel ro g σ' p.1 w ∧ Sat σ' p.2 v := by
  unfold Sx.fin
  split
  · rename_i cs
    simp only [Sat, SatSh] at h
    rcases h with rfl | ⟨b, off, c, e, fr, rfl, h1, h2, h3⟩
    · exact ⟨_, List.mem_cons_self .., σ, .refl σ, R, by simp [Sat]⟩
    · refine ⟨_, List.mem_cons_of_mem _ (List.mem_cons_self ..), σ, .refl σ, R, ?_⟩
      simp only [Sat]
      exact ⟨b, off, c, e, fr, rfl, h1, h2, h3⟩
  · obtain ⟨σ', h1, h2, h3⟩ := R.openAll h
    exact ⟨_, List.mem_singleton.2 rfl, σ', h1, h2, h3⟩

/-! comparisons, sums -/
def BE.not : BE → BE
  | .c b => .c (!b)
  | .s i p => .s i (!p)
  | .lt a b p => .lt a b (!p)
  | .eq a b p => .eq a b (!p)
theorem beq_not (b p : Bool) : (b == !p) = !(b == p) := by cases b <;> cases p <;> rfl
theorem BE.den_not {e : BE} {b : Bool} (h : e.den σ = some b) : e.not.den σ = some (!b) := by
  cases e with
  | c b => simp only [BE.den, Option.some.injEq] at h; subst h; rfl
  | s i p =>
    simp only [BE.den, Option.map_eq_some_iff] at h
    obtain ⟨n, hn, rfl⟩ := h
    simp only [BE.not, BE.den, hn, Option.map_some, beq_not]
  | lt x y p =>
    simp only [BE.den, Option.bind_eq_some_iff, Option.map_eq_some_iff] at h
    obtain ⟨n, hn, m, hm, rfl⟩ := h
    simp only [BE.not, BE.den, hn, hm, Option.bind_some, Option.map_some, beq_not]
  | eq x y p =>
    simp only [BE.den, Option.bind_eq_some_iff, Option.map_eq_some_iff] at h
    obtain ⟨n, hn, m, hm, rfl⟩ := h
    simp only [BE.not, BE.den, hn, hm, Option.bind_some, Option.map_some, beq_not]
def AH.knows (H : AH) (x y : Num) : Bool := H.lts.any fun p => decide (p = (x, y))
def AH.mkLt (H : AH) (x y : Num) : BE :=
  bif decide (x.s = y.s) then .c (decide (x.c < y.c)) else
  match H.range x, H.range y with
  | some (a, b), some (c, d) => bif decide (b < c) then .c true else bif decide (d ≤ a) then .c false else bif H.knows x y then .c true else .lt x y true
  | _, _ => .lt x y true
def AH.mkEq (H : AH) (x y : Num) : BE :=
  bif decide (x.s = y.s) then .c (decide (x.c = y.c)) else
  match H.range x, H.range y with
  | some (a, b), some (c, d) => bif decide (b < c) || decide (d < a) then .c false else bif decide (a = b) && decide (c = d) && decide (a = c) then .c true else .eq x y true
  | _, _ => .eq x y true
theorem den_same {x y : Num} {n m : Int} (h : x.s = y.s) (hx : x.den σ = some n) (hy : y.den σ = some m) : n - x.c = m - y.c := by
  unfold Num.den at hx hy
  rw [h] at hx
  cases hs : y.s with
  | none => rw [hs] at hx hy; simp only [Option.some.injEq] at hx hy; omega
  | some i =>
    rw [hs] at hx hy
    simp only [Option.map_eq_some_iff] at hx hy
    obtain ⟨a, h1, rfl⟩ := hx
    obtain ⟨b, h2, rfl⟩ := hy
    rw [h1] at h2; cases h2
    omega
theorem Rel.mkLt (R : Rel ro g σ H w) {x y : Num} {n m : Int} (hx : x.den σ = some n) (hy : y.den σ = some m) : (H.mkLt x y).den σ = some (decide (n < m)) := by
  have hb : (BE.lt x y true).den σ = some (decide (n < m)) := by simp [BE.den, hx, hy]
  unfold AH.mkLt
  rw [cond_eq_ite]
  split
  · rename_i h0
    simp only [decide_eq_true_eq] at h0
    have := den_same h0 hx hy
    simp only [BE.den, Option.some.injEq, decide_eq_decide]; omega
  split
  · rename_i a b c d h1 h2
    have h1 := R.range hx h1
    have h2 := R.range hy h2
    simp only [cond_eq_ite, decide_eq_true_eq]
    split
    · have : n < m := by omega
      simp [BE.den, this]
    · split
      · have : ¬ n < m := by omega
        simp [BE.den, this]
      · split
        · rename_i hk
          simp only [AH.knows, List.any_eq_true, decide_eq_true_eq] at hk
          obtain ⟨p, hp, rfl⟩ := hk
          obtain ⟨a, b, h3, h4, h5⟩ := R.lts _ hp
          dsimp only at h3 h4
          rw [hx] at h3; rw [hy] at h4
          cases h3; cases h4
          simp [BE.den, h5]
        · exact hb
  · exact hb
theorem Rel.mkEq (R : Rel ro g σ H w) {x y : Num} {n m : Int} (hx : x.den σ = some n) (hy : y.den σ = some m) : (H.mkEq x y).den σ = some (decide (n = m)) := by
  have hb : (BE.eq x y true).den σ = some (decide (n = m)) := by simp [BE.den, hx, hy]
  unfold AH.mkEq
  rw [cond_eq_ite]
  split
  · rename_i h0
    simp only [decide_eq_true_eq] at h0
    have := den_same h0 hx hy
    simp only [BE.den, Option.some.injEq, decide_eq_decide]; omega
  · split
    · rename_i a b c d h1 h2
      have h1 := R.range hx h1
      have h2 := R.range hy h2
      simp only [cond_eq_ite, decide_eq_true_eq, Bool.or_eq_true, Bool.and_eq_true]
      split
      · have : ¬ n = m := by omega
        simp [BE.den, this]
      · split
        · have : n = m := by omega
          simp [BE.den, this]
        · exact hb
    · exact hb
/-- A sum, a product .. of two numbers. -/
def AH.arith (H : AH) (op : BinOp) (k : IntKind) (x y : Num) : Option (AH × Num) :=
  match x.s, y.s with
  | none, none => match intOp op k x.c y.c with
    | some n => some (H, ⟨none, n⟩)
    | none => none
  | _, _ =>
    match H.range x, H.range y with
    | some (a, b), some (c, d) =>
      match op, x.s, y.s with
      | .add, some i, none => bif decide (k.min ≤ a + y.c) && decide (b + y.c ≤ k.max) then some (H, ⟨some i, x.c + y.c⟩) else some (H.fresh k.min k.max, ⟨some H.nn, 0⟩)
      | .add, none, some i => bif decide (k.min ≤ x.c + c) && decide (x.c + d ≤ k.max) then some (H, ⟨some i, y.c + x.c⟩) else some (H.fresh k.min k.max, ⟨some H.nn, 0⟩)
      | .sub, some i, none => bif decide (k.min ≤ a - y.c) && decide (b - y.c ≤ k.max) then some (H, ⟨some i, x.c - y.c⟩) else some (H.fresh k.min k.max, ⟨some H.nn, 0⟩)
      | op, _, _ => match rngOf op k a b c d with
        | some (lo, hi) => match op, y.s with
          | .rem, some _ => some ((H.fresh lo hi).fact ⟨some H.nn, 0⟩ y, ⟨some H.nn, 0⟩)
          | _, _ => some (H.fresh lo hi, ⟨some H.nn, 0⟩)
        | none => none
    | _, _ => none
theorem Rel.arith (R : Rel ro g σ H w) {op : BinOp} {k : IntKind} {x y : Num} {n m : Int} (hx : x.den σ = some n) (hy : y.den σ = some m)
    {p : AH × Num} (h : H.arith op k x y = some p) : ∃ σ' r, σ.le σ' ∧ Rel ro g σ' p.1 w ∧ p.2.den σ' = some r ∧ intOp op k n m = some r := by
  have key : ∀ a b c d lo hi, H.range x = some (a, b) → H.range y = some (c, d) → rngOf op k a b c d = some (lo, hi) →
      ∃ r, Rel ro g (σ.more r) (H.fresh lo hi) w ∧ intOp op k n m = some r := by
    intro a b c d lo hi h1 h2 h3
    have q1 := R.range hx h1
    have q2 := R.range hy h2
    obtain ⟨r, e1, e2, e3⟩ := rngOf_sound h3 q1.1 q1.2 q2.1 q2.2
    exact ⟨r, R.fresh e2 e3, e1⟩
  have keyF : op = .add ∨ op = .sub → ∃ r, Rel ro g (σ.more r) (H.fresh k.min k.max) w ∧ intOp op k n m = some r := by
    rintro (rfl | rfl)
    · exact ⟨_, R.fresh (wrap_range k _).1 (wrap_range k _).2, rfl⟩
    · exact ⟨_, R.fresh (wrap_range k _).1 (wrap_range k _).2, rfl⟩
  have den0 : ∀ z : Num, ∀ q, z.s = none → z.den σ = some q → q = z.c := by
    intro z q hz hq; simp only [Num.den, hz, Option.some.injEq] at hq; exact hq.symm
  unfold AH.arith at h
  split at h
  · rename_i hx0 hy0
    split at h
    · rename_i r hr
      cases h
      rw [den0 x n hx0 hx, den0 y m hy0 hy]
      exact ⟨σ, r, .refl σ, R, rfl, hr⟩
    · cases h
  · split at h
    · rename_i a b c d hra hrb
      have q1 := R.range hx hra
      have q2 := R.range hy hrb
      split at h
      · rename_i i hxs hys
        have := den0 y m hys hy
        subst this
        simp only [cond_eq_ite, Bool.and_eq_true, decide_eq_true_eq] at h
        split at h
        · cases h
          refine ⟨σ, n + y.c, .refl σ, R, ?_, ?_⟩
          · simp only [Num.den, hxs, Option.map_eq_some_iff] at hx ⊢
            obtain ⟨q, hq, rfl⟩ := hx
            exact ⟨q, hq, by omega⟩
          · simp only [intOp]; rw [wrap_id k _ (by omega) (by omega)]
        · cases h
          obtain ⟨r, h1, h2⟩ := keyF (.inl rfl)
          exact ⟨_, r, σ.le_more r, h1, R.fresh_den r, h2⟩
      · rename_i i hxs hys
        have := den0 x n hxs hx
        subst this
        simp only [cond_eq_ite, Bool.and_eq_true, decide_eq_true_eq] at h
        split at h
        · cases h
          refine ⟨σ, x.c + m, .refl σ, R, ?_, ?_⟩
          · simp only [Num.den, hys, Option.map_eq_some_iff] at hy ⊢
            obtain ⟨q, hq, rfl⟩ := hy
            exact ⟨q, hq, by omega⟩
          · simp only [intOp]; rw [wrap_id k _ (by omega) (by omega)]
        · cases h
          obtain ⟨r, h1, h2⟩ := keyF (.inl rfl)
          exact ⟨_, r, σ.le_more r, h1, R.fresh_den r, h2⟩
      · rename_i i hxs hys
        have := den0 y m hys hy
        subst this
        simp only [cond_eq_ite, Bool.and_eq_true, decide_eq_true_eq] at h
        split at h
        · cases h
          refine ⟨σ, n - y.c, .refl σ, R, ?_, ?_⟩
          · simp only [Num.den, hxs, Option.map_eq_some_iff] at hx ⊢
            obtain ⟨q, hq, rfl⟩ := hx
            exact ⟨q, hq, by omega⟩
          · simp only [intOp]; rw [wrap_id k _ (by omega) (by omega)]
        · cases h
          obtain ⟨r, h1, h2⟩ := keyF (.inr rfl)
          exact ⟨_, r, σ.le_more r, h1, R.fresh_den r, h2⟩
      · split at h
        · rename_i lo hi hr
          obtain ⟨r, h1, h2⟩ := key a b c d lo hi hra hrb hr
          split at h
          · cases h
            have hc : 0 < c := by
              simp only [rngOf, cond_eq_ite, decide_eq_true_eq] at hr
              split at hr
              · assumption
              · cases hr
            have hlt : r < m := by
              have hm0 : m ≠ 0 := by omega
              simp only [intOp, hm0, decide_false, cond_false, Option.some.injEq] at h2
              rw [← h2]
              exact Int.tmod_lt_of_pos n (by omega)
            obtain ⟨R', s'⟩ := h1.fact (R.fresh_den r) (Num.den_mono (σ.le_more r) hy) hlt
            exact ⟨_, r, σ.le_more r, R', R.fresh_den r, h2⟩
          · cases h
            exact ⟨_, r, σ.le_more r, h1, R.fresh_den r, h2⟩
        · cases h
    · cases h
def findOp (op : BinOp) (k : IntKind) (x y : Num) : List Fx → Option Num
  | [] => none
  | .op op' k' x' y' r :: l => bif decide (op' = op) && decide (k' = k) && decide (x' = x) && decide (y' = y) then some r else findOp op k x y l
  | _ :: l => findOp op k x y l
theorem findOp_mem {op : BinOp} {k : IntKind} {x y r : Num} : ∀ {l : List Fx}, findOp op k x y l = some r → Fx.op op k x y r ∈ l
  | [], h => by simp [findOp] at h
  | f :: l, h => by
    cases f <;> simp only [findOp] at h <;> first | exact List.mem_cons_of_mem _ (findOp_mem h) | skip
    simp only [cond_eq_ite, Bool.and_eq_true, decide_eq_true_eq] at h
    split at h
    · rename_i hc; obtain ⟨⟨⟨rfl, rfl⟩, rfl⟩, rfl⟩ := hc; cases h; exact List.mem_cons_self ..
    · exact List.mem_cons_of_mem _ (findOp_mem h)
theorem or_page {p y : Int} (hp0 : 0 ≤ p) (hp : p ≤ 255) (hy0 : 0 ≤ y) (hy : y ≤ 255) : intOp .or .u16 (p * 256) y = some (p * 256 + y) := by
  obtain ⟨P, rfl⟩ := Int.eq_ofNat_of_zero_le hp0
  obtain ⟨Y, rfl⟩ := Int.eq_ofNat_of_zero_le hy0
  have hY : Y < 2 ^ 8 := by omega
  have e := Nat.two_pow_add_eq_or_of_lt hY P
  have e1 : (BitVec.ofInt 16 ((P : Int) * 256)).toNat = P * 256 := by
    rw [BitVec.toNat_ofInt]; omega
  have e2 : (BitVec.ofInt 16 (Y : Int)).toNat = Y := by
    rw [BitVec.toNat_ofInt]; omega
  have e0 : ((BitVec.ofInt IntKind.u16.bits ((P : Int) * 256) ||| BitVec.ofInt IntKind.u16.bits (Y : Int)).toNat : Int) = ((P * 256 ||| Y : Nat) : Int) := by
    rw [BitVec.toNat_or]
    exact congrArg _ (congr (congrArg _ e1) e2)
  simp only [intOp, Option.some.injEq]
  rw [e0]
  have e3 : P * 256 ||| Y = P * 256 + Y := by
    have : 2 ^ 8 * P = P * 256 := by omega
    rw [this] at e; exact e.symm
  rw [e3, wrap_id .u16 _ (by simp [IntKind.min, IntKind.signed]; omega) (by simp [IntKind.max, IntKind.bits, IntKind.signed]; omega)]
  omega
theorem or_zero {k : IntKind} {x : Int} (h0 : 0 ≤ x) (h : x ≤ k.max) : intOp .or k x 0 = some x := by
  have e1 : ((BitVec.ofInt k.bits x).toNat : Int) = x := toNat_ofInt_of k h0 h
  show some (k.wrap ((BitVec.ofInt k.bits x ||| BitVec.ofInt k.bits 0).toNat : Int)) = some x
  have : (BitVec.ofInt k.bits 0) = 0#k.bits := by simp
  rw [this, BitVec.or_zero, e1]
  rw [wrap_id k x (by have := min_le_zero k; omega) h]
theorem mul_page {p : Int} (hp0 : 0 ≤ p) (hp : p ≤ 255) : intOp .mul .u16 p 256 = some (p * 256) := by
  simp only [intOp, Option.some.injEq]
  exact wrap_id .u16 _ (by simp [IntKind.min, IntKind.signed]; omega) (by simp [IntKind.max, IntKind.bits, IntKind.signed]; omega)
theorem rem_256 {n y : Int} (h0 : 0 ≤ n) (h : n % 256 = y) : intOp .rem .u16 n 256 = some y := by
  simp only [intOp, show ((256 : Int) = 0) = False by simp, decide_false, cond_false, Option.some.injEq]
  rw [Int.tmod_eq_emod_of_nonneg h0]; exact h
/-- Shifting is multiplying; the known number stands second. -/
def normOp (op : BinOp) (k : IntKind) (x y : Num) : BinOp × Num × Num :=
  match op, x.s, y.s with
  | .shl, _, none => bif decide (0 ≤ y.c) && decide (y.c ≤ (k.bits : Int)) then (.mul, x, ⟨none, 2 ^ y.c.toNat⟩) else (op, x, y)
  | .mul, none, some _ => (.mul, y, x)
  | _, _, _ => (op, x, y)
theorem normOp_ok {σ : Env} {op : BinOp} {k : IntKind} {x y : Num} {n m : Int} (hx : x.den σ = some n) (hy : y.den σ = some m) :
    ∃ n' m', (normOp op k x y).2.1.den σ = some n' ∧ (normOp op k x y).2.2.den σ = some m' ∧ intOp (normOp op k x y).1 k n' m' = intOp op k n m := by
  unfold normOp
  split
  · rename_i hs
    have hm : m = y.c := by simp only [Num.den, hs, Option.some.injEq] at hy; exact hy.symm
    subst hm
    rw [cond_eq_ite]
    split
    · rename_i hc
      simp only [Bool.and_eq_true, decide_eq_true_eq] at hc
      refine ⟨n, 2 ^ y.c.toNat, hx, by simp [Num.den], ?_⟩
      have h1 : ¬ y.c < 0 := by omega
      simp only [intOp, h1, decide_false, cond_false]
      rw [Nat.min_eq_left (by omega)]
    · exact ⟨n, y.c, hx, hy, rfl⟩
  · refine ⟨m, n, hy, hx, ?_⟩
    simp only [intOp, Int.mul_comm]
  · exact ⟨n, m, hx, hy, rfl⟩
def findMul (r : Num) : List Fx → Option Num
  | [] => none
  | .op .mul .u16 p y r' :: l => bif decide (y = ⟨none, 256⟩) && decide (r' = r) then some p else findMul r l
  | _ :: l => findMul r l
def findOr (r : Num) : List Fx → Option (Num × Num × Num)
  | [] => none
  | .op .or .u16 x y r' :: l => bif decide (r'.s = r.s) then some (x, y, r') else findOr r l
  | _ :: l => findOr r l
theorem findMul_mem {r p : Num} : ∀ {l : List Fx}, findMul r l = some p → Fx.op .mul .u16 p ⟨none, 256⟩ r ∈ l := by
  intro l
  fun_induction findMul r l with
  | case1 => intro h; cases h
  | case2 p' y r' l hc =>
    intro h
    simp only [Bool.and_eq_true, decide_eq_true_eq] at hc
    obtain ⟨rfl, rfl⟩ := hc
    cases h; exact List.mem_cons_self ..
  | case3 p' y r' l hc ih => intro h; exact List.mem_cons_of_mem _ (ih h)
  | case4 _ _ _ ih => intro h; exact List.mem_cons_of_mem _ (ih h)
theorem findOr_mem {r x y r' : Num} : ∀ {l : List Fx}, findOr r l = some (x, y, r') → Fx.op .or .u16 x y r' ∈ l ∧ r'.s = r.s := by
  intro l
  fun_induction findOr r l with
  | case1 => intro h; cases h
  | case2 x' y' r'' l hc =>
    intro h
    simp only [decide_eq_true_eq] at hc
    cases h; exact ⟨List.mem_cons_self .., hc⟩
  | case3 x' y' r'' l hc ih => intro h; exact ⟨List.mem_cons_of_mem _ (ih h).1, (ih h).2⟩
  | case4 _ _ _ ih => intro h; exact ⟨List.mem_cons_of_mem _ (ih h).1, (ih h).2⟩
def byteN (H : AH) (x : Num) : Bool := match H.range x with
  | some (a, b) => decide (0 ≤ a) && decide (b ≤ 255)
  | none => false
def posN (H : AH) (k : IntKind) (x : Num) : Bool := match H.range x with
  | some (a, b) => decide (0 ≤ a) && decide (b ≤ k.max)
  | none => false
/-- A page and a place within. -/
def special (H : AH) (op : BinOp) (k : IntKind) (x y : Num) : Option Num :=
  match op with
  | .or => bif decide (y = ⟨none, 0⟩) && posN H k x then some x else none
  | .rem => bif decide (k = .u16) && decide (y = ⟨none, 256⟩) && posN H k x then
      (match findMul ⟨x.s, 0⟩ H.fx with
        | some p => bif decide (x.c % 256 = 0) && byteN H p then some ⟨none, 0⟩ else none
        | none => match findOr x H.fx with
          | some (a, b, r) => match findMul a H.fx with
            | some p => bif byteN H p && byteN H b && decide ((x.c - r.c) % 256 = 0) then some b else none
            | none => none
          | none => none)
    else none
  | _ => none
theorem Rel.byteN (R : Rel ro g σ H w) {x : Num} {n : Int} (hx : x.den σ = some n) (h : byteN H x = true) : 0 ≤ n ∧ n ≤ 255 := by
  unfold Sx.byteN at h
  split at h
  · rename_i a b hr
    simp only [Bool.and_eq_true, decide_eq_true_eq] at h
    have := R.range hx hr
    omega
  · cases h
theorem Rel.posN (R : Rel ro g σ H w) {k : IntKind} {x : Num} {n : Int} (hx : x.den σ = some n) (h : posN H k x = true) : 0 ≤ n ∧ n ≤ k.max := by
  unfold Sx.posN at h
  split at h
  · rename_i a b hr
    simp only [Bool.and_eq_true, decide_eq_true_eq] at h
    have := R.range hx hr
    omega
  · cases h
theorem Rel.special (R : Rel ro g σ H w) {op : BinOp} {k : IntKind} {x y r : Num} {n m : Int} (hx : x.den σ = some n) (hy : y.den σ = some m)
    (h : special H op k x y = some r) : ∃ c, r.den σ = some c ∧ intOp op k n m = some c := by
  unfold Sx.special at h
  split at h
  · rw [cond_eq_ite] at h
    split at h
    · rename_i hc
      simp only [Bool.and_eq_true, decide_eq_true_eq] at hc
      cases h
      obtain ⟨rfl, hc⟩ := hc
      simp only [Num.den, Option.some.injEq] at hy
      subst hy
      have := R.posN hx hc
      exact ⟨n, hx, or_zero this.1 this.2⟩
    · cases h
  · rw [cond_eq_ite] at h
    split at h
    · rename_i hc
      simp only [Bool.and_eq_true, decide_eq_true_eq] at hc
      obtain ⟨⟨rfl, rfl⟩, hp⟩ := hc
      have hn := R.posN hx hp
      simp only [Num.den, Option.some.injEq] at hy
      subst hy
      split at h
      · rename_i p hm
        rw [cond_eq_ite] at h
        split at h
        · rename_i hc
          simp only [Bool.and_eq_true, decide_eq_true_eq] at hc
          cases h
          obtain ⟨a, b, c, h1, h2, h3, h4⟩ := R.fx _ (findMul_mem hm)
          have hb := R.byteN h1 hc.2
          simp only [Num.den, Option.some.injEq] at h2
          subst h2
          rw [mul_page hb.1 hb.2] at h4
          cases h4
          refine ⟨0, by simp [Num.den], rem_256 hn.1 ?_⟩
          have : n = a * 256 + x.c := by
            simp only [Num.den] at hx h3
            split at hx
            · rename_i hs; simp only [hs, Option.some.injEq] at h3 hx; omega
            · rename_i i hs
              simp only [hs, Option.map_eq_some_iff] at h3 hx
              obtain ⟨q, q1, q2⟩ := h3
              obtain ⟨q', q3, q4⟩ := hx
              rw [q1] at q3; cases q3; omega
          omega
        · cases h
      · split at h
        · rename_i a' b' r' ho
          split at h
          · rename_i p hm
            rw [cond_eq_ite] at h
            split at h
            · rename_i hc
              simp only [Bool.and_eq_true, decide_eq_true_eq] at hc
              cases h
              obtain ⟨⟨hc1, hc2⟩, hc3⟩ := hc
              obtain ⟨ho1, ho2⟩ := findOr_mem ho
              obtain ⟨a, b, c, h1, h2, h3, h4⟩ := R.fx _ (findMul_mem hm)
              obtain ⟨a2, b2, c2, k1, k2, k3, k4⟩ := R.fx _ ho1
              have hb := R.byteN h1 hc1
              have hb2 := R.byteN k2 hc2
              simp only [Num.den, Option.some.injEq] at h2
              subst h2
              rw [mul_page hb.1 hb.2] at h4
              cases h4
              rw [h3] at k1; cases k1
              rw [or_page hb.1 hb.2 hb2.1 hb2.2] at k4
              cases k4
              refine ⟨b2, k2, rem_256 hn.1 ?_⟩
              have : n - x.c = a * 256 + b2 - r'.c := by
                simp only [Num.den, ho2] at hx k3
                split at hx
                · rename_i hs; simp only [hs, Option.some.injEq] at k3 hx; omega
                · rename_i i hs
                  simp only [hs, Option.map_eq_some_iff] at k3 hx
                  obtain ⟨q, q1, q2⟩ := k3
                  obtain ⟨q', q3, q4⟩ := hx
                  rw [q1] at q3; cases q3; omega
              omega
            · cases h
          · cases h
        · cases h
    · cases h
  · cases h
/-- A sum, a product ..; the same where it was asked before. -/
def AH.arithX (H : AH) (op : BinOp) (k : IntKind) (x y : Num) : Option (AH × Num) :=
  bif H.fm then
    match special H op k x y with
    | some r => some (H, r)
    | none => match findOp (normOp op k x y).1 k (normOp op k x y).2.1 (normOp op k x y).2.2 H.fx with
      | some r => some (H, r)
      | none => match H.arith (normOp op k x y).1 k (normOp op k x y).2.1 (normOp op k x y).2.2 with
        | some p => some (bif Nat.beq p.1.nn H.nn then p.1 else p.1.addFx (.op (normOp op k x y).1 k (normOp op k x y).2.1 (normOp op k x y).2.2 p.2), p.2)
        | none => none
  else H.arith op k x y
theorem Rel.arithX (R : Rel ro g σ H w) {op : BinOp} {k : IntKind} {x y : Num} {n m : Int} (hx : x.den σ = some n) (hy : y.den σ = some m)
    {p : AH × Num} (h : H.arithX op k x y = some p) : ∃ σ' r, σ.le σ' ∧ Rel ro g σ' p.1 w ∧ p.2.den σ' = some r ∧ intOp op k n m = some r := by
  unfold AH.arithX at h
  rw [cond_eq_ite] at h
  split at h
  · obtain ⟨n', m', hx', hy', heq⟩ := normOp_ok (op := op) (k := k) hx hy
    rw [← heq]
    split at h
    · rename_i r hr
      cases h
      obtain ⟨c, h1, h2⟩ := R.special hx hy hr
      exact ⟨σ, c, .refl σ, R, h1, heq.trans h2⟩
    · split at h
      · rename_i r hr
        cases h
        obtain ⟨a, b, c, h1, h2, h3, h4⟩ := R.fx _ (findOp_mem hr)
        rw [hx'] at h1; rw [hy'] at h2; cases h1; cases h2
        exact ⟨σ, c, .refl σ, R, h3, h4⟩
      · split at h
        · rename_i q hq
          cases h
          obtain ⟨σ', r, h1, h2, h3, h4⟩ := R.arith hx' hy' hq
          refine ⟨σ', r, h1, ?_, h3, h4⟩
          dsimp only
          rw [cond_eq_ite]
          split
          · exact h2
          · exact h2.addFx ⟨n', m', r, Num.den_mono h1 hx', Num.den_mono h1 hy', h3, h4⟩
        · cases h
  · exact R.arith hx hy h
def findConv (k : IntKind) (x : Num) : List Fx → Option Num
  | [] => none
  | .conv k' x' r :: l => bif decide (k' = k) && decide (x' = x) then some r else findConv k x l
  | _ :: l => findConv k x l
theorem findConv_mem {k : IntKind} {x r : Num} : ∀ {l : List Fx}, findConv k x l = some r → Fx.conv k x r ∈ l
  | [], h => by simp [findConv] at h
  | f :: l, h => by
    cases f <;> simp only [findConv] at h <;> first | exact List.mem_cons_of_mem _ (findConv_mem h) | skip
    simp only [cond_eq_ite, Bool.and_eq_true, decide_eq_true_eq] at h
    split at h
    · rename_i hc; obtain ⟨rfl, rfl⟩ := hc; cases h; exact List.mem_cons_self ..
    · exact List.mem_cons_of_mem _ (findConv_mem h)
/-- A number taken into another kind. -/
def AH.convX (H : AH) (k : IntKind) (x : Num) : AH × Num :=
  bif H.fm then
    match findConv k x H.fx with
    | some r => (H, r)
    | none => ((H.fresh k.min k.max).addFx (.conv k x ⟨some H.nn, 0⟩), ⟨some H.nn, 0⟩)
  else (H.fresh k.min k.max, ⟨some H.nn, 0⟩)
theorem Rel.convX (R : Rel ro g σ H w) {k : IntKind} {x : Num} {n : Int} (hx : x.den σ = some n) : ∃ σ', σ.le σ' ∧ Rel ro g σ' (H.convX k x).1 w ∧ (H.convX k x).2.den σ' = some (k.wrap n) := by
  have R1 : Rel ro g (σ.more (k.wrap n)) (H.fresh k.min k.max) w := R.fresh (wrap_range k n).1 (wrap_range k n).2
  have hl := σ.le_more (k.wrap n)
  have hd := R.fresh_den (k.wrap n)
  unfold AH.convX
  rw [cond_eq_ite]
  split
  · split
    · rename_i r hr
      obtain ⟨a, h1, h2⟩ := R.fx _ (findConv_mem hr)
      rw [hx] at h1; cases h1
      exact ⟨σ, .refl σ, R, h2⟩
    · exact ⟨_, hl, R1.addFx ⟨n, Num.den_mono hl hx, hd⟩, hd⟩
  · exact ⟨_, hl, R1, hd⟩
end
end
end Go.Proofs.YtgkoghgiclkbhaaGreatDoor.Sx
namespace Go.Proofs.YtgkoghgiclkbhaaGreatDoor.Sx
open Go
noncomputable section
set_option linter.unusedVariables false
set_option linter.unusedSimpArgs false

def tAgg (P : Program) (t : TypeId) : Option Bool :=
  match P.underlying t with
  | some (.struct _) => some true
  | some (.array _ _) => some true
  | some _ => some false
  | none => none
def tSize (P : Program) (t : TypeId) : Option Nat :=
  match P.info? t with
  | some i => some i.size
  | none => none
def tZero (P : Program) (t : TypeId) : Option Value :=
  match P.info? t with
  | some i => i.zero
  | none => none
theorem run_isAgg' {P : Program} {t : TypeId} {b : Bool} (h : tAgg P t = some b) (w : World) : (isAgg t).run P w = .ok b w := by
  unfold tAgg at h
  cases hd : P.underlying t with
  | none => simp [hd] at h
  | some d =>
    rw [hd] at h
    unfold isAgg
    simp only [Sem.run_bind, run_underlying hd, Result.andThen_ok]
    cases d <;> simp at h <;> subst h <;> rfl
theorem run_sizeOf' {P : Program} {t : TypeId} {n : Nat} (h : tSize P t = some n) (w : World) : (sizeOf t).run P w = .ok n w := by
  unfold tSize at h
  cases hd : P.info? t with
  | none => simp [hd] at h
  | some i => simp [hd] at h; subst h; simp [sizeOf, typeInfo, hd]
theorem run_zeroValue' {P : Program} {t : TypeId} {v : Value} (h : tZero P t = some v) (w : World) : (zeroValue t).run P w = .ok v w := by
  unfold tZero at h
  cases hd : P.info? t with
  | none => simp [hd] at h
  | some i => simp [hd] at h; simp [zeroValue, typeInfo, hd, h]
def apart (P : Program) (t : TypeId) (l : List AV) (off : Nat) : Option AV :=
  match tAgg P t with
  | some true => match tSize P t with
    | some n => some (.agg ((l.drop off).take n))
    | none => none
  | some false => l[off]?
  | none => none
theorem run_part' {P : Program} {t : TypeId} {l : List AV} {off : Nat} {av : AV} {σ : Env} {vs : List Value} (h : apart P t l off = some av) (hs : SatL σ l vs) :
    ∃ V, Sat σ av V ∧ ∀ w, (part t ⟨vs⟩ off).run P w = .ok V w := by
  unfold apart at h
  split at h
  · rename_i ha
    split at h
    · rename_i n hn
      cases h
      refine ⟨.agg ⟨(vs.drop off).take n⟩, ?_, fun w => ?_⟩
      · simp only [Sat]; exact ⟨_, rfl, (hs.drop off).take n⟩
      · simp only [part, Sem.run_bind, run_isAgg' ha, Result.andThen_ok, if_true, run_sizeOf' hn, Sem.run_pure]
        congr 2
        apply Array.ext'
        simp [List.extract_eq_take_drop]
    · cases h
  · rename_i ha
    obtain ⟨v, h1, h2⟩ := hs.get h
    refine ⟨v, h2, fun w => ?_⟩
    simp only [part, Sem.run_bind, run_isAgg' ha, Result.andThen_ok, Bool.false_eq_true, if_false]
    have : (⟨vs⟩ : Array Value)[off]? = some v := by simpa using h1
    simp only [this, Sem.run_pure]
  · cases h

/-! both outcomes -/
def plainB : BE → Bool
  | .c _ => true
  | .s _ _ => true
  | .lt a b _ => a.s.isNone || b.s.isNone
  | _ => false
def findBE (e : BE) : List Fx → Option Bool
  | [] => none
  | .be e' :: l => bif decide (e' = e) then some true else bif decide (e' = e.not) then some false else findBE e l
  | _ :: l => findBE e l
theorem findBE_ok {σ : Env} {w : World} {e : BE} {b c : Bool} (hd : e.den σ = some b) : ∀ {l : List Fx}, (∀ f ∈ l, FxOk σ w f) → findBE e l = some c → b = c
  | [], _, h => by simp [findBE] at h
  | f :: l, hl, h => by
    have hr : ∀ f ∈ l, FxOk σ w f := fun f hf => hl f (List.mem_cons_of_mem _ hf)
    cases f <;> simp only [findBE] at h <;> first | exact findBE_ok hd hr h | skip
    have h0 := hl _ (List.mem_cons_self ..)
    simp only [FxOk] at h0
    simp only [cond_eq_ite, decide_eq_true_eq] at h
    split at h
    · rename_i hc; subst hc; cases h; rw [hd] at h0; cases h0; rfl
    · split at h
      · rename_i hc; subst hc; cases h
        rw [BE.den_not hd] at h0; cases b <;> simp_all
      · exact findBE_ok hd hr h
def forkB (H : AH) (e : BE) : List (AH × Bool) :=
  bif H.fm && !plainB e then
    match findBE e H.fx with
    | some b => [(H, b)]
    | none => (match H.assume e true with | some H' => [(H'.addFx (.be e), true)] | none => []) ++ (match H.assume e false with | some H' => [(H'.addFx (.be e.not), false)] | none => [])
  else (match H.assume e true with | some H' => [(H', true)] | none => []) ++ (match H.assume e false with | some H' => [(H', false)] | none => [])
section
variable {ro : Nat → Bool} {g : Gh} {σ : Env} {H : AH} {w : World} {P : Program}
theorem Rel.forkB (R : Rel ro g σ H w) {e : BE} {b : Bool} (hd : e.den σ = some b) : ∃ H', (H', b) ∈ forkB H e ∧ H.same H' ∧ Rel ro g σ H' w := by
  obtain ⟨H', h1, h2, h3⟩ := R.assume hd
  unfold Sx.forkB
  rw [cond_eq_ite]
  split
  · split
    · rename_i c hc
      have := findBE_ok hd R.fx hc
      subst this
      exact ⟨H, List.mem_singleton.2 rfl, .refl H, R⟩
    · cases b with
      | true => exact ⟨H'.addFx (.be e), by simp [h1], ⟨h2.nn, h2.hp, h2.nb⟩, h3.addFx hd⟩
      | false => exact ⟨H'.addFx (.be e.not), by simp [h1], ⟨h2.nn, h2.hp, h2.nb⟩, h3.addFx (BE.den_not hd)⟩
  · exact ⟨H', by cases b <;> simp [h1], h2, h3⟩
/-- An unknown truth. -/
theorem Rel.someBool (R : Rel ro g σ H w) (b : Bool) : ∃ σ', σ.le σ' ∧ Rel ro g σ' (H.fresh 0 1) w ∧ Sat σ' (.bool (.s H.nn true)) (.bool b) := by
  refine ⟨σ.more (if b then 1 else 0), σ.le_more _, R.fresh (by cases b <;> simp) (by cases b <;> simp), ?_⟩
  simp only [Sat, BE.den]
  refine ⟨b, ?_, rfl⟩
  cases b <;> simp [Env.more, ← R.nlen]
theorem sat_bool {e : BE} {b : Bool} (h : e.den σ = some b) : Sat σ (.bool e) (.bool b) := by simp only [Sat]; exact ⟨b, h, rfl⟩
theorem sat_int {k : IntKind} {x : Num} {n : Int} (h : x.den σ = some n) : Sat σ (.int k x) (.int k n) := by simp only [Sat]; exact ⟨n, h, rfl⟩
end

/-! '==' and '!=' where no number is compared: some true | some false: decided; none: not known -/
def isNilPtr : AV → Bool
  | .lit (.pointer none) => true
  | _ => false
def isNilSl : AV → Bool
  | .lit (.slice none _ _) => true
  | _ => false
def isNilIf : AV → Bool
  | .lit .nilIface => true
  | _ => false
def isNilFn : AV → Bool
  | .lit .nilFunc => true
  | _ => false
def isPtr : AV → Bool
  | .ptr .. | .eptr .. | .oaddr _ => true
  | _ => false
def isOper : Operand → Bool
  | .const _ => true
  | _ => false
/-- Are the two equal? Known, not known, or no such question. -/
def nilEq (P : Program) (t : TypeId) (x y : Operand) (a b : AV) : Option (Option Bool) :=
  match P.underlying t with
  | some (.pointer _) => bif isNilPtr b then (bif isNilPtr a then some (some true) else bif isPtr a then some (some false) else none)
      else bif isNilPtr a then (bif isPtr b then some (some false) else none) else none
  | some (.slice _) => bif isNilSl b then (match a with | .sl .. => some (some false) | .osl _ _ => some none | a => bif isNilSl a then some (some true) else none) else none
  | some (.interface _) => bif isNilIf b then (match a with | .ifc _ _ => some (some false) | a => bif isNilIf a && isOper y then some (some true) else none) else none
  | some (.func _ _ _) => bif isNilFn b then (match a with | .fn _ _ => some (some false) | a => bif isNilFn a then some (some true) else none) else none
  | some .string => match a, b with
    | .str l, .str l' => bif l.all (fun n => Nat.blt n 256) && l'.all (fun n => Nat.blt n 256) then some (some (decide (l = l'))) else none
    | _, _ => none
  | _ => none
theorem map_ofNat_inj : ∀ {l l' : List Nat}, (∀ n ∈ l, n < 256) → (∀ n ∈ l', n < 256) → l.map UInt8.ofNat = l'.map UInt8.ofNat → l = l'
  | [], [], _, _, _ => rfl
  | [], b :: l', _, _, h => by simp at h
  | a :: l, [], _, _, h => by simp at h
  | a :: l, b :: l', h1, h2, h => by
    simp only [List.map_cons, List.cons.injEq] at h
    have := congrArg UInt8.toNat h.1
    rw [UInt8.toNat_ofNat_of_lt' (h1 a (by simp)), UInt8.toNat_ofNat_of_lt' (h2 b (by simp))] at this
    rw [this, map_ofNat_inj (fun n hn => h1 n (by simp [hn])) (fun n hn => h2 n (by simp [hn])) h.2]
theorem ba_toList (s : ByteArray) : s.toList = s.data.toList := by
  have hloop : ∀ (i : Nat) (r : List UInt8), ByteArray.toList.loop s i r = r.reverse ++ s.data.toList.drop i := by
    intro i r
    induction hn : s.size - i generalizing i r with
    | zero =>
      unfold ByteArray.toList.loop
      have : ¬ i < s.size := by omega
      simp only [this, if_false]
      rw [List.drop_eq_nil_of_le]; simp
      have e : s.data.toList.length = s.size := by rw [Array.length_toList]; rfl
      rw [e]; omega
    | succ n ih =>
      unfold ByteArray.toList.loop
      have hlt : i < s.size := by omega
      simp only [hlt, if_true]
      rw [ih (i + 1) _ (by omega)]
      have hlt' : i < s.data.toList.length := by simpa using hlt
      rw [List.drop_eq_getElem_cons hlt']
      have hd : i < s.data.size := hlt
      simp [ByteArray.get!, Array.getElem!_eq_getD, Array.getD, hd]
      exact dif_pos hlt
  unfold ByteArray.toList
  rw [hloop 0 []]; simp
theorem isNilPtr_eq {a : AV} (h : isNilPtr a = true) : a = .lit (.pointer none) := by
  unfold isNilPtr at h; split at h <;> first | rfl | cases h
theorem isNilSl_eq {a : AV} (h : isNilSl a = true) : ∃ n c, a = .lit (.slice none n c) := by
  unfold isNilSl at h; split at h <;> first | exact ⟨_, _, rfl⟩ | cases h
theorem isNilIf_eq {a : AV} (h : isNilIf a = true) : a = .lit .nilIface := by
  unfold isNilIf at h; split at h <;> first | rfl | cases h
theorem isNilFn_eq {a : AV} (h : isNilFn a = true) : a = .lit .nilFunc := by
  unfold isNilFn at h; split at h <;> first | rfl | cases h
theorem isPtr_some {σ : Env} {a : AV} {v : Value} (h : isPtr a = true) (hs : Sat σ a v) : ∃ ad, v = .pointer (some ad) := by
  unfold isPtr at h
  split at h
  · simp only [Sat] at hs; obtain ⟨n, sz, _, rfl⟩ := hs; exact ⟨_, rfl⟩
  · simp only [Sat] at hs; obtain ⟨n, sz, k, _, _, _, rfl⟩ := hs; exact ⟨_, rfl⟩
  · simp only [Sat] at hs; obtain ⟨b, off, c, e, fr, rfl, _⟩ := hs; exact ⟨_, rfl⟩
  · cases h
theorem equal_run {P : Program} {t : TypeId} {d : TypeDesc} {x y : Value} {b : Bool} (hd : P.underlying t = some d)
    (h : ∀ n w, (Op.equalIn (n + 1) t x y).run P w = .ok b w) (w : World) : (Op.equal t x y).run P w = .ok b w := h 9999 w
theorem nilEq_sound {P : Program} {t : TypeId} {x y : Operand} {a b : AV} {σ : Env} {u v : Value} {r : Option Bool} (h : nilEq P t x y a b = some r) (hu : Sat σ a u) (hv : Sat σ b v) :
    ∃ q : Bool, (∀ q', r = some q' → q = q') ∧ (∀ op w, (eqGuard op t x y u v).run P w = .ok () w) ∧
      (∀ w, (binOp .eql t u v).run P w = .ok (.bool q) w) ∧ (∀ w, (binOp .neq t u v).run P w = .ok (.bool (!q)) w) := by
  have fin : ∀ q : Bool, (∀ q', r = some q' → q = q') → (∀ w, (Op.equal t u v).run P w = .ok q w) → (∀ op w, (eqGuard op t x y u v).run P w = .ok () w) →
      (binOp .eql t u v = do pure (.bool (← Op.equal t u v))) → (binOp .neq t u v = do pure (.bool (!(← Op.equal t u v)))) →
      ∃ q : Bool, (∀ q', r = some q' → q = q') ∧ (∀ op w, (eqGuard op t x y u v).run P w = .ok () w) ∧
      (∀ w, (binOp .eql t u v).run P w = .ok (.bool q) w) ∧ (∀ w, (binOp .neq t u v).run P w = .ok (.bool (!q)) w) := by
    intro q h1 h2 h3 h4 h5
    refine ⟨q, h1, h3, fun w => ?_, fun w => ?_⟩
    · rw [h4]; simp [h2]
    · rw [h5]; simp [h2]
  unfold nilEq at h
  split at h
  · rename_i e hd
    have key : ∀ u v : Value, ∀ q, (u = .pointer none ∧ v = .pointer none ∧ q = true) ∨ ((∃ ad, u = .pointer (some ad)) ∧ v = .pointer none ∧ q = false) ∨ (u = .pointer none ∧ (∃ ad, v = .pointer (some ad)) ∧ q = false) →
        (∀ w, (Op.equal t u v).run P w = .ok q w) ∧ (∀ op w, (eqGuard op t x y u v).run P w = .ok () w) ∧ (binOp .eql t u v = do pure (.bool (← Op.equal t u v))) ∧ (binOp .neq t u v = do pure (.bool (!(← Op.equal t u v)))) := by
      rintro u v q (⟨rfl, rfl, rfl⟩ | ⟨⟨ad, rfl⟩, rfl, rfl⟩ | ⟨rfl, ⟨ad, rfl⟩, rfl⟩)
      all_goals
        refine ⟨fun w => equal_run hd (fun n w => by simp [Op.equalIn, run_underlying hd]) w, fun op w => by cases op <;> simp [eqGuard], by simp [binOp], by simp [binOp]⟩
    simp only [cond_eq_ite] at h
    split at h
    · rename_i hb
      have := isNilPtr_eq hb; subst this
      simp only [Sat] at hv; subst hv
      split at h
      · rename_i ha
        have := isNilPtr_eq ha; subst this
        simp only [Sat] at hu; subst hu
        cases h
        obtain ⟨k1, k2, k3, k4⟩ := key _ _ true (.inl ⟨rfl, rfl, rfl⟩)
        exact fin true (fun q' h => by cases h; rfl) k1 k2 k3 k4
      · split at h
        · rename_i ha
          cases h
          obtain ⟨k1, k2, k3, k4⟩ := key u _ false (.inr (.inl ⟨isPtr_some ha hu, rfl, rfl⟩))
          exact fin false (fun q' h => by cases h; rfl) k1 k2 k3 k4
        · cases h
    · split at h
      · rename_i ha
        have := isNilPtr_eq ha; subst this
        simp only [Sat] at hu; subst hu
        split at h
        · rename_i hb
          cases h
          obtain ⟨k1, k2, k3, k4⟩ := key _ v false (.inr (.inr ⟨rfl, isPtr_some hb hv, rfl⟩))
          exact fin false (fun q' h => by cases h; rfl) k1 k2 k3 k4
        · cases h
      · cases h
  · rename_i e hd
    have key : ∀ base n c, ∀ n' c', (∀ w, (Op.equal t (.slice base n c) (.slice none n' c')).run P w = .ok base.isNone w) ∧ (∀ op w, (eqGuard op t x y (.slice base n c) (.slice none n' c')).run P w = .ok () w) ∧ (binOp .eql t (.slice base n c) (.slice none n' c') = do pure (.bool (← Op.equal t (.slice base n c) (.slice none n' c')))) ∧ (binOp .neq t (.slice base n c) (.slice none n' c') = do pure (.bool (!(← Op.equal t (.slice base n c) (.slice none n' c'))))) := by
      intro base n c n' c'
      refine ⟨fun w => equal_run hd (fun n w => by cases base <;> simp [Op.equalIn, run_underlying hd]) w, fun op w => by cases op <;> simp [eqGuard], by simp [binOp], by simp [binOp]⟩
    simp only [cond_eq_ite] at h
    split at h
    · rename_i hb
      obtain ⟨n', c', rfl⟩ := isNilSl_eq hb
      simp only [Sat] at hv; subst hv
      split at h
      · cases h
        simp only [Sat] at hu
        obtain ⟨n, sz, l, c, _, _, _, _, _, rfl⟩ := hu
        obtain ⟨k1, k2, k3, k4⟩ := key (some ⟨n, _, none⟩) l c n' c'
        exact fin false (fun q' h => by cases h; rfl) k1 k2 k3 k4
      · cases h
        simp only [Sat] at hu
        obtain ⟨base, l, cap, rfl, _⟩ := hu
        obtain ⟨k1, k2, k3, k4⟩ := key base l cap n' c'
        exact fin base.isNone (fun q' h => by cases h) k1 k2 k3 k4
      · split at h
        · rename_i ha
          obtain ⟨n, c, rfl⟩ := isNilSl_eq ha
          simp only [Sat] at hu; subst hu
          cases h
          obtain ⟨k1, k2, k3, k4⟩ := key none n c n' c'
          exact fin true (fun q' h => by cases h; rfl) k1 k2 k3 k4
        · cases h
    · cases h
  · rename_i ms hd
    simp only [cond_eq_ite] at h
    split at h
    · rename_i hb
      have := isNilIf_eq hb; subst this
      simp only [Sat] at hv; subst hv
      split at h
      · cases h
        simp only [Sat] at hu
        obtain ⟨z, rfl, _⟩ := hu
        exact fin false (fun q' h => by cases h; rfl) (fun w => equal_run hd (fun n w => by simp [Op.equalIn, run_underlying hd]) w) (fun op w => by cases op <;> simp [eqGuard]) (by simp [binOp]) (by simp [binOp])
      · split at h
        · rename_i ha
          simp only [Bool.and_eq_true] at ha
          have := isNilIf_eq ha.1; subst this
          simp only [Sat] at hu; subst hu
          cases h
          have hy : ∃ c, y = .const c := by
            have := ha.2; unfold isOper at this; split at this <;> first | exact ⟨_, rfl⟩ | cases this
          obtain ⟨c, rfl⟩ := hy
          exact fin true (fun q' h => by cases h; rfl) (fun w => equal_run hd (fun n w => by simp [Op.equalIn, run_underlying hd]) w) (fun op w => by cases op <;> simp [eqGuard]) (by simp [binOp]) (by simp [binOp])
        · cases h
    · cases h
  · rename_i hd
    simp only [cond_eq_ite] at h
    split at h
    · rename_i hb
      have := isNilFn_eq hb; subst this
      simp only [Sat] at hv; subst hv
      split at h
      · cases h
        simp only [Sat] at hu
        obtain ⟨z, rfl, _⟩ := hu
        exact fin false (fun q' h => by cases h; rfl) (fun w => equal_run hd (fun n w => by simp [Op.equalIn, run_underlying hd]) w) (fun op w => by cases op <;> simp [eqGuard]) (by simp [binOp]) (by simp [binOp])
      · split at h
        · rename_i ha
          have := isNilFn_eq ha; subst this
          simp only [Sat] at hu; subst hu
          cases h
          exact fin true (fun q' h => by cases h; rfl) (fun w => equal_run hd (fun n w => by simp [Op.equalIn, run_underlying hd]) w) (fun op w => by cases op <;> simp [eqGuard]) (by simp [binOp]) (by simp [binOp])
        · cases h
    · cases h
  · rename_i hd
    split at h
    · rename_i l l'
      rw [cond_eq_ite] at h
      split at h
      · rename_i hc
        simp only [Bool.and_eq_true, List.all_eq_true, Nat.blt_eq] at hc
        cases h
        simp only [Sat] at hu hv
        subst hu; subst hv
        have e2 : ((strOf l).toList == (strOf l').toList) = decide (l = l') := by
          rw [ba_toList, ba_toList]
          by_cases hll : l = l'
          · subst hll; simp
          · have : (strOf l).data.toList ≠ (strOf l').data.toList := by
              intro he
              apply hll
              simp only [strOf] at he
              exact map_ofNat_inj hc.1 hc.2 he
            rw [decide_eq_false hll]; exact beq_eq_false_iff_ne.2 this
        refine ⟨decide (l = l'), fun q' h => by cases h; rfl, fun op w => by cases op <;> simp [eqGuard], fun w => ?_, fun w => ?_⟩
        · simp [binOp, Op.stringOp, e2]
        · simp [binOp, Op.stringOp, e2]
      · cases h
    · cases h
  · cases h
end
end Go.Proofs.YtgkoghgiclkbhaaGreatDoor.Sx
namespace Go.Proofs.YtgkoghgiclkbhaaGreatDoor.Sx
open Go
noncomputable section
set_option linter.unusedVariables false
set_option linter.unusedSimpArgs false

def AH.ltB (H : AH) (x y : Num) : Bool := match H.mkLt x y with | .c true => true | _ => false
def AH.leB (H : AH) (x y : Num) : Bool := match H.mkLt y x with | .c false => true | _ => false
def Num.addc (x : Num) (c : Int) : Num := ⟨x.s, x.c + c⟩
def cNum (n : Int) : Num := ⟨none, n⟩
/-- What an operation leaves: the value is the same in whatever world. -/
def Yld (ro : Nat → Bool) (g : Gh) (σ : Env) (w : World) (P : Program) (s : Sem Value) (outs : List (AH × AV)) : Prop :=
  ∃ p ∈ outs, ∃ σ' V, σ.le σ' ∧ Rel ro g σ' p.1 w ∧ Sat σ' p.2 V ∧ ∀ w', s.run P w' = .ok V w'
section
variable {ro : Nat → Bool} {g : Gh} {σ : Env} {H : AH} {w : World} {P : Program}
theorem Rel.ltB (R : Rel ro g σ H w) {x y : Num} {n m : Int} (hx : x.den σ = some n) (hy : y.den σ = some m) (h : H.ltB x y = true) : n < m := by
  have := R.mkLt hx hy
  unfold AH.ltB at h
  split at h
  · rename_i e; rw [e] at this; simp only [BE.den, Option.some.injEq] at this; simpa using this.symm
  · cases h
theorem Rel.leB (R : Rel ro g σ H w) {x y : Num} {n m : Int} (hx : x.den σ = some n) (hy : y.den σ = some m) (h : H.leB x y = true) : n ≤ m := by
  have := R.mkLt hy hx
  unfold AH.leB at h
  split at h
  · rename_i e
    rw [e] at this; simp only [BE.den, Option.some.injEq] at this
    have : ¬ m < n := by simpa using this.symm
    omega
  · cases h
theorem Num.den_addc {x : Num} {n : Int} (hx : x.den σ = some n) (c : Int) : (x.addc c).den σ = some (n + c) := by
  unfold Num.den Num.addc at *
  cases hs : x.s with
  | none => simp only [hs, Option.some.injEq] at hx ⊢; omega
  | some i =>
    simp only [hs, Option.map_eq_some_iff] at hx ⊢
    obtain ⟨m, hm, rfl⟩ := hx
    exact ⟨m, hm, by omega⟩
theorem den_cNum (n : Int) : (cNum n).den σ = some n := rfl

/-! numbers, truths, strings -/
def vBool (P : Program) (t : TypeId) (H : AH) (e f : BE) : Option (List (AH × BE)) :=
  match P.underlying t with
  | some .bool => match e, f with
    | .c a, .c b => some [(H, .c (a == b))]
    | .c true, f => some [(H, f)]
    | .c false, f => some [(H, f.not)]
    | e, .c true => some [(H, e)]
    | e, .c false => some [(H, e.not)]
    | _, _ => some [(H.fresh 0 1, .s H.nn true)]
  | _ => none
theorem vBool_sound (R : Rel ro g σ H w) {t : TypeId} {e f : BE} {a b : Bool} (he : e.den σ = some a) (hf : f.den σ = some b) {outs : List (AH × BE)} (h : vBool P t H e f = some outs) :
    (∃ p ∈ outs, ∃ σ', σ.le σ' ∧ Rel ro g σ' p.1 w ∧ p.2.den σ' = some (a == b)) ∧
      (∀ w, (binOp .eql t (.bool a) (.bool b)).run P w = .ok (.bool (a == b)) w) ∧ (∀ w, (binOp .neq t (.bool a) (.bool b)).run P w = .ok (.bool (!(a == b))) w) := by
  unfold vBool at h
  split at h
  · rename_i hd
    refine ⟨?_, fun w => ?_, fun w => ?_⟩
    · split at h
      · cases h
        simp only [BE.den, Option.some.injEq] at he hf
        subst he; subst hf
        exact ⟨_, List.mem_singleton.2 rfl, σ, .refl σ, R, rfl⟩
      · cases h
        simp only [BE.den, Option.some.injEq] at he
        subst he
        exact ⟨_, List.mem_singleton.2 rfl, σ, .refl σ, R, by simpa using hf⟩
      · cases h
        simp only [BE.den, Option.some.injEq] at he
        subst he
        exact ⟨_, List.mem_singleton.2 rfl, σ, .refl σ, R, by rw [BE.den_not hf]; cases b <;> rfl⟩
      · cases h
        simp only [BE.den, Option.some.injEq] at hf
        subst hf
        exact ⟨_, List.mem_singleton.2 rfl, σ, .refl σ, R, by simpa using he⟩
      · cases h
        simp only [BE.den, Option.some.injEq] at hf
        subst hf
        exact ⟨_, List.mem_singleton.2 rfl, σ, .refl σ, R, by rw [BE.den_not he]; cases a <;> rfl⟩
      · cases h
        obtain ⟨σ', h1, h2, h3⟩ := R.someBool (a == b)
        simp only [Sat] at h3
        obtain ⟨b', h3, h4⟩ := h3
        cases h4
        exact ⟨_, List.mem_singleton.2 rfl, σ', h1, h2, h3⟩
    · have : (Op.equal t (.bool a) (.bool b)).run P w = .ok (a == b) w := equal_run hd (fun n w => by simp [Op.equalIn, run_underlying hd]) w
      simp [binOp, this]
    · have : (Op.equal t (.bool a) (.bool b)).run P w = .ok (a == b) w := equal_run hd (fun n w => by simp [Op.equalIn, run_underlying hd]) w
      simp [binOp, this]
  · cases h
def vInt (H : AH) (op : BinOp) (k k' : IntKind) (p q : Num) : Option (List (AH × AV)) :=
  bif decide (k = k') then
    match op with
    | .eql => some [(H, .bool (H.mkEq p q))]
    | .neq => some [(H, .bool (H.mkEq p q).not)]
    | .lss => some [(H, .bool (H.mkLt p q))]
    | .gtr => some [(H, .bool (H.mkLt q p))]
    | .leq => some [(H, .bool (H.mkLt q p).not)]
    | .geq => some [(H, .bool (H.mkLt p q).not)]
    | op => match H.arithX op k p q with
      | some r => some [(r.1, .int k r.2)]
      | none => none
  else bif BinOp.isShift op then match H.arithX op k p q with
      | some r => some [(r.1, .int k r.2)]
      | none => none
  else none
theorem beq_any (i j : DecidableEq Int) (n m : Int) : @BEq.beq Int (@instBEqOfDecidableEq Int i) n m = @BEq.beq Int (@instBEqOfDecidableEq Int j) n m := by
  have : i = j := Subsingleton.elim i j
  subst this; rfl
theorem dec_le (n m : Int) : decide (n ≤ m) = !decide (m < n) := by by_cases h : m < n <;> simp [h] <;> omega
theorem vInt_sound (R : Rel ro g σ H w) {op : BinOp} {k k' : IntKind} {p q : Num} {n m : Int} (hp : p.den σ = some n) (hq : q.den σ = some m) {t : TypeId}
    {outs : List (AH × AV)} (h : vInt H op k k' p q = some outs) : Yld ro g σ w P (binOp op t (.int k n) (.int k' m)) outs := by
  have key : ∀ outs, (k = k' ∨ BinOp.isShift op = true) → (match H.arithX op k p q with | some r => some [(r.1, AV.int k r.2)] | none => none) = some outs → Yld ro g σ w P (binOp op t (.int k n) (.int k' m)) outs := by
    intro outs hk h
    split at h
    · rename_i r hr
      cases h
      obtain ⟨σ', z, h1, h2, h3, h4⟩ := R.arithX hp hq hr
      exact ⟨_, List.mem_singleton.2 rfl, σ', .int k z, h1, h2, sat_int h3, run_intOp hk h4⟩
    · cases h
  have cmp : ∀ (e : BE) (b : Bool), e.den σ = some b → (∀ w, (binOp op t (.int k n) (.int k' m)).run P w = .ok (.bool b) w) → Yld ro g σ w P (binOp op t (.int k n) (.int k' m)) [(H, .bool e)] :=
    fun e b he hr => ⟨_, List.mem_singleton.2 rfl, σ, .bool b, .refl σ, R, sat_bool he, hr⟩
  unfold vInt at h
  rw [cond_eq_ite] at h
  split at h
  · rename_i hk
    simp only [decide_eq_true_eq] at hk
    subst hk
    split at h
    · cases h; exact cmp _ _ (R.mkEq hp hq) (fun w => by by_cases h : n = m <;> simp [binOp, Op.intCmp, h])
    · cases h; exact cmp _ _ (BE.den_not (R.mkEq hp hq)) (fun w => by by_cases h : n = m <;> simp [binOp, Op.intCmp, bne, h])
    · cases h; exact cmp _ _ (R.mkLt hp hq) (fun w => by simp [binOp, Op.intCmp])
    · cases h; exact cmp _ _ (R.mkLt hq hp) (fun w => by simp [binOp, Op.intCmp])
    · cases h; exact cmp _ _ (BE.den_not (R.mkLt hq hp)) (fun w => by by_cases h : m < n <;> simp [binOp, Op.intCmp, h] <;> omega)
    · cases h; exact cmp _ _ (BE.den_not (R.mkLt hp hq)) (fun w => by by_cases h : n < m <;> simp [binOp, Op.intCmp, h] <;> omega)
    · exact key _ (.inl rfl) h
  · rw [cond_eq_ite] at h
    split at h
    · rename_i hs; exact key _ (.inr hs) h
    · cases h
/-- Two structs of numbers and truths: equal, not equal, or not known. -/
def vEqF (P : Program) (xs ys : List AV) : List Field → Option (Option Bool)
  | [] => some (some true)
  | f :: fs => bif f.name == "_" then none else
    match tAgg P f.type, P.underlying f.type, xs[f.offset]?, ys[f.offset]? with
    | some false, some (.int _), some (.int k x), some (.int k' y) => bif decide (k = k') then match vEqF P xs ys fs with
        | some r => some (match x.s, y.s with
          | none, none => bif decide (x.c = y.c) then r else some false
          | _, _ => none)
        | none => none
      else none
    | some false, some .bool, some (.bool e), some (.bool e') => match vEqF P xs ys fs with
        | some r => some (match e, e' with
          | .c a, .c b => bif a == b then r else some false
          | _, _ => none)
        | none => none
    | _, _, _, _ => none
theorem vEqF_sound {σ : Env} {xs ys : List AV} {vs us : List Value} (hx : SatL σ xs vs) (hy : SatL σ ys us) : ∀ (fs : List Field) (r : Option Bool), vEqF P xs ys fs = some r →
    ∃ b : Bool, (∀ q, r = some q → b = q) ∧ ∀ w, (Op.eqFields 9999 ⟨vs⟩ ⟨us⟩ fs).run P w = .ok b w
  | [], r, h => by
    simp only [vEqF, Option.some.injEq] at h; subst h
    exact ⟨true, fun q h => by cases h; rfl, fun w => rfl⟩
  | f :: fs, r, h => by
    simp only [vEqF] at h
    rw [cond_eq_ite] at h
    split at h
    · cases h
    · rename_i hn
      have hn : f.name ≠ "_" := by simpa using hn
      have hpart : ∀ {l : List AV} {ws : List Value} {a : AV}, SatL σ l ws → tAgg P f.type = some false → l[f.offset]? = some a → ∃ v, Sat σ a v ∧ ∀ w, (part f.type ⟨ws⟩ f.offset).run P w = .ok v w := by
        intro l ws a hl ht ha
        exact run_part' (by unfold apart; rw [ht]; exact ha) hl
      split at h
      · rename_i k0 k x k' y ht hu e1 e2
        rw [cond_eq_ite] at h
        split at h
        · rename_i hk
          simp only [decide_eq_true_eq] at hk
          subst hk
          split at h
          · rename_i r' hr
            cases h
            obtain ⟨b, h1, h2⟩ := vEqF_sound hx hy fs r' hr
            obtain ⟨v, s1, p1⟩ := hpart hx ht e1
            obtain ⟨u, s2, p2⟩ := hpart hy ht e2
            simp only [Sat] at s1 s2
            obtain ⟨n, hn1, rfl⟩ := s1
            obtain ⟨m, hm1, rfl⟩ := s2
            have heq : ∀ w, (Op.equalIn 9999 f.type (.int k n) (.int k m)).run P w = .ok (n == m) w := fun w => by
              rw [run_equalIn_int w 9998 f.type k _ n m hu, beq_any Int.instDecidableEq fastEq]
            refine ⟨if n = m then b else false, ?_, fun w => ?_⟩
            · intro q hq
              split at hq
              · rename_i hs1 hs2
                simp only [Num.den, hs1, hs2, Option.some.injEq] at hn1 hm1
                subst hn1; subst hm1
                rw [cond_eq_ite] at hq
                by_cases he : x.c = y.c
                · simp only [he, decide_true, if_true] at hq ⊢; exact h1 q hq
                · simp only [he, decide_false, Bool.false_eq_true, if_false] at hq ⊢; cases hq; rfl
              · cases hq
            · simp only [Op.eqFields, ne_eq, hn, not_false_eq_true, if_true, Sem.run_bind, p1, p2, Result.andThen_ok, heq]
              by_cases he : n = m
              · simp [he, h2]
              · have : (n == m) = false := by simpa using he
                simp [this, he]
          · cases h
        · cases h
      · rename_i e e' ht hu e1 e2
        split at h
        · rename_i r' hr
          cases h
          obtain ⟨b, h1, h2⟩ := vEqF_sound hx hy fs r' hr
          obtain ⟨v, s1, p1⟩ := hpart hx ht e1
          obtain ⟨u, s2, p2⟩ := hpart hy ht e2
          simp only [Sat] at s1 s2
          obtain ⟨n, hn1, rfl⟩ := s1
          obtain ⟨m, hm1, rfl⟩ := s2
          have heq : ∀ w, (Op.equalIn 9999 f.type (.bool n) (.bool m)).run P w = .ok (n == m) w := fun w => run_equalIn_bool' w 9998 f.type n m hu
          refine ⟨if n = m then b else false, ?_, fun w => ?_⟩
          · intro q hq
            split at hq
            · simp only [BE.den, Option.some.injEq] at hn1 hm1
              subst hn1; subst hm1
              rename_i a b'
              rw [cond_eq_ite] at hq
              by_cases he : a = b'
              · simp only [he, beq_self_eq_true, if_true] at hq ⊢; exact h1 q hq
              · have : (a == b') = false := by simpa using he
                simp only [this, Bool.false_eq_true, if_false, he] at hq ⊢; cases hq; rfl
            · cases hq
          · simp only [Op.eqFields, ne_eq, hn, not_false_eq_true, if_true, Sem.run_bind, p1, p2, Result.andThen_ok, heq]
            by_cases he : n = m
            · simp [he, h2]
            · have : (n == m) = false := by simpa using he
              simp [this, he]
        · cases h
      · cases h
def vStruct (P : Program) (H : AH) (t : TypeId) (xs ys : List AV) : Option (AH × BE) :=
  match P.underlying t with
  | some (.struct fs) => bif !P.stoodInHeld t && !P.eqGuardType P.depth t then match vEqF P xs ys fs.toList with
      | some (some b) => some (H, .c b)
      | some none => some (H.fresh 0 1, .s H.nn true)
      | none => none
    else none
  | _ => none
theorem vStruct_sound (R : Rel ro g σ H w) {t : TypeId} {x y : Operand} {xs ys : List AV} {vs us : List Value} (hx : SatL σ xs vs) (hy : SatL σ ys us) {p : AH × BE} (h : vStruct P H t xs ys = some p) :
    ∃ b σ', σ.le σ' ∧ Rel ro g σ' p.1 w ∧ p.2.den σ' = some b ∧ (∀ op w, (eqGuard op t x y (.agg ⟨vs⟩) (.agg ⟨us⟩)).run P w = .ok () w) ∧
      (∀ w, (binOp .eql t (.agg ⟨vs⟩) (.agg ⟨us⟩)).run P w = .ok (.bool b) w) ∧ (∀ w, (binOp .neq t (.agg ⟨vs⟩) (.agg ⟨us⟩)).run P w = .ok (.bool (!b)) w) := by
  unfold vStruct at h
  split at h
  · rename_i fs hd
    simp only [cond_eq_ite, Bool.and_eq_true, Bool.not_eq_true'] at h
    split at h
    · rename_i hc
      have hfs : P.fieldsOf t = fs := by simp [Program.fieldsOf, hd]
      have hd' : P.underlying t = some (.struct (P.fieldsOf t)) := by rw [hfs]; exact hd
      have key : ∀ b, (∀ w, (Op.eqFields 9999 ⟨vs⟩ ⟨us⟩ fs.toList).run P w = .ok b w) → (∀ op w, (eqGuard op t x y (.agg ⟨vs⟩) (.agg ⟨us⟩)).run P w = .ok () w) ∧
          (∀ w, (binOp .eql t (.agg ⟨vs⟩) (.agg ⟨us⟩)).run P w = .ok (.bool b) w) ∧ (∀ w, (binOp .neq t (.agg ⟨vs⟩) (.agg ⟨us⟩)).run P w = .ok (.bool (!b)) w) := by
        intro b hb
        have he : ∀ w, (Op.equalIn 10000 t (.agg ⟨vs⟩) (.agg ⟨us⟩)).run P w = .ok b w := fun w => by
          rw [run_equalIn_struct w 9999 t _ _ hd' hc.1, hfs]; exact hb w
        refine ⟨fun op w => run_eqGuard_agg w op t x y _ _ hc.2, fun w => ?_, fun w => ?_⟩
        · rw [run_eql_struct, he]; rfl
        · rw [run_neq_struct, he]; rfl
      split at h
      · rename_i b hb
        cases h
        obtain ⟨b', h1, h2⟩ := vEqF_sound hx hy _ _ hb
        have := h1 b rfl; subst this
        exact ⟨b', σ, .refl σ, R, rfl, key b' h2⟩
      · rename_i hb
        cases h
        obtain ⟨b', h1, h2⟩ := vEqF_sound hx hy _ _ hb
        obtain ⟨σ', l1, R1, s1⟩ := R.someBool b'
        simp only [Sat] at s1
        obtain ⟨b2, s2, s3⟩ := s1
        cases s3
        exact ⟨_, σ', l1, R1, s2, key b' h2⟩
      · cases h
    · cases h
  · cases h
def vBin (P : Program) (H : AH) (op : BinOp) (t : TypeId) (x y : Operand) (a b : AV) : Option (List (AH × AV)) :=
  match a, b with
  | .int k p, .int k' q => vInt H op k k' (H.norm p) (H.norm q)
  | .bool e, .bool f => match op with
    | .eql => (vBool P t H e f).map (·.map fun p => (p.1, .bool p.2))
    | .neq => (vBool P t H e f).map (·.map fun p => (p.1, .bool p.2.not))
    | _ => none
  | .agg xs, .agg ys => match op with
    | .eql => (vStruct P H t xs ys).map fun p => [(p.1, .bool p.2)]
    | .neq => (vStruct P H t xs ys).map fun p => [(p.1, .bool p.2.not)]
    | _ => none
  | a, b => match op with
    | .eql => match nilEq P t x y a b with
      | some (some q) => some [(H, .bool (.c q))]
      | some none => some [(H.fresh 0 1, .bool (.s H.nn true))]
      | none => none
    | .neq => match nilEq P t x y a b with
      | some (some q) => some [(H, .bool (.c (!q)))]
      | some none => some [(H.fresh 0 1, .bool (.s H.nn true))]
      | none => none
    | .add => match a, b with
      | .str l, .str l' => bif Nat.blt (l.length + l'.length) 4611686018427387904 then some [(H, .str (l ++ l'))] else none
      | _, _ => none
    | _ => none
theorem strOf_append (l l' : List Nat) : strOf l ++ strOf l' = strOf (l ++ l') := by
  apply ByteArray.ext
  simp only [strOf, ByteArray.data_append]
  apply Array.ext'
  simp
theorem vBin_sound (R : Rel ro g σ H w) {op : BinOp} {t : TypeId} {x y : Operand} {a b : AV} {u v : Value} (hu : Sat σ a u) (hv : Sat σ b v)
    {outs : List (AH × AV)} (h : vBin P H op t x y a b = some outs) :
    Yld ro g σ w P (do eqGuard op t x y u v; binOp op t u v) outs := by
  have join : ∀ {outs}, (∀ w, (eqGuard op t x y u v).run P w = .ok () w) → Yld ro g σ w P (binOp op t u v) outs → Yld ro g σ w P (do eqGuard op t x y u v; binOp op t u v) outs := by
    rintro outs hg ⟨p, hp, σ', V, h1, h2, h3, h4⟩
    exact ⟨p, hp, σ', V, h1, h2, h3, fun w' => by simp only [Sem.run_bind, hg, Result.andThen_ok, h4]⟩
  unfold vBin at h
  split at h
  · simp only [Sat] at hu hv
    obtain ⟨n, hn, rfl⟩ := hu
    obtain ⟨m, hm, rfl⟩ := hv
    exact join (fun w => by cases op <;> simp [eqGuard]) (vInt_sound R (R.norm hn) (R.norm hm) h)
  · simp only [Sat] at hu hv
    obtain ⟨a, ha, rfl⟩ := hu
    obtain ⟨b, hb, rfl⟩ := hv
    refine join (fun w => by cases op <;> simp [eqGuard]) ?_
    split at h
    · simp only [Option.map_eq_some_iff] at h
      obtain ⟨o, ho, rfl⟩ := h
      obtain ⟨⟨p, hp, σ', h1, h2, h3⟩, h4, h5⟩ := vBool_sound R ha hb ho
      exact ⟨_, List.mem_map.2 ⟨p, hp, rfl⟩, σ', _, h1, h2, sat_bool h3, h4⟩
    · simp only [Option.map_eq_some_iff] at h
      obtain ⟨o, ho, rfl⟩ := h
      obtain ⟨⟨p, hp, σ', h1, h2, h3⟩, h4, h5⟩ := vBool_sound R ha hb ho
      exact ⟨_, List.mem_map.2 ⟨p, hp, rfl⟩, σ', _, h1, h2, sat_bool (BE.den_not h3), h5⟩
    · cases h
  · simp only [Sat] at hu hv
    obtain ⟨vs, rfl, hx⟩ := hu
    obtain ⟨us, rfl, hy⟩ := hv
    split at h
    · simp only [Option.map_eq_some_iff] at h
      obtain ⟨p, hp, rfl⟩ := h
      obtain ⟨b, σ', h1, h2, h3, h4, h5, h6⟩ := vStruct_sound (x := x) (y := y) R hx hy hp
      exact join (h4 _) ⟨_, List.mem_singleton.2 rfl, σ', _, h1, h2, sat_bool h3, h5⟩
    · simp only [Option.map_eq_some_iff] at h
      obtain ⟨p, hp, rfl⟩ := h
      obtain ⟨b, σ', h1, h2, h3, h4, h5, h6⟩ := vStruct_sound (x := x) (y := y) R hx hy hp
      exact join (h4 _) ⟨_, List.mem_singleton.2 rfl, σ', _, h1, h2, sat_bool (BE.den_not h3), h6⟩
    · cases h
  · rename_i hni hnb hna
    split at h
    · split at h
      · rename_i q hq
        cases h
        obtain ⟨q', e1, e2, e3, e4⟩ := nilEq_sound hq hu hv
        have := e1 q rfl; subst this
        exact join (e2 _) ⟨_, List.mem_singleton.2 rfl, σ, _, .refl σ, R, sat_bool rfl, e3⟩
      · rename_i hq
        cases h
        obtain ⟨q', e1, e2, e3, e4⟩ := nilEq_sound hq hu hv
        obtain ⟨σ', h1, h2, h3⟩ := R.someBool q'
        exact join (e2 _) ⟨_, List.mem_singleton.2 rfl, σ', _, h1, h2, h3, e3⟩
      · cases h
    · split at h
      · rename_i q hq
        cases h
        obtain ⟨q', e1, e2, e3, e4⟩ := nilEq_sound hq hu hv
        have := e1 q rfl; subst this
        exact join (e2 _) ⟨_, List.mem_singleton.2 rfl, σ, _, .refl σ, R, sat_bool rfl, e4⟩
      · rename_i hq
        cases h
        obtain ⟨q', e1, e2, e3, e4⟩ := nilEq_sound hq hu hv
        obtain ⟨σ', h1, h2, h3⟩ := R.someBool (!q')
        exact join (e2 _) ⟨_, List.mem_singleton.2 rfl, σ', _, h1, h2, h3, e4⟩
      · cases h
    · split at h
      · rename_i l l' 
        rw [cond_eq_ite] at h
        split at h
        · rename_i hlt
          simp only [Nat.blt_eq] at hlt
          cases h
          simp only [Sat] at hu hv
          subst hu; subst hv
          refine join (fun w => by simp [eqGuard]) ⟨_, List.mem_singleton.2 rfl, σ, .string (strOf (l ++ l')), .refl σ, R, by simp [Sat], fun w' => ?_⟩
          have hsz : ∀ q : List Nat, (strOf q).size = q.length := by intro q; simp [strOf, ByteArray.size]
          have : (l.length : Int) + l'.length ≤ 9223372036854775807 := by omega
          simp [binOp, Op.stringOp, hsz, strOf_append, this]
        · cases h
      · cases h
    · cases h
def vUn (H : AH) (op : UnOp) (a : AV) : Option (List (AH × AV)) :=
  match op, a with
  | .not, .bool e => some [(H, .bool e.not)]
  | .neg, .int k x => match H.arithX .sub k (cNum 0) (H.norm x) with
    | some r => some [(r.1, .int k r.2)]
    | none => none
  | .xor, .int k x => match H.arithX .xor k (cNum (if k.signed then -1 else k.max)) (H.norm x) with
    | some r => some [(r.1, .int k r.2)]
    | none => none
  | _, _ => none
theorem vUn_sound (R : Rel ro g σ H w) {op : UnOp} {a : AV} {u : Value} (hu : Sat σ a u) {outs : List (AH × AV)} (h : vUn H op a = some outs) :
    Yld ro g σ w P (Op.unary op u) outs := by
  unfold vUn at h
  split at h
  · cases h
    simp only [Sat] at hu
    obtain ⟨b, hb, rfl⟩ := hu
    exact ⟨_, List.mem_singleton.2 rfl, σ, _, .refl σ, R, sat_bool (BE.den_not hb), fun w => by simp [Op.unary]⟩
  · split at h
    · rename_i r hr
      cases h
      simp only [Sat] at hu
      obtain ⟨n, hn, rfl⟩ := hu
      obtain ⟨σ', z, h1, h2, h3, h4⟩ := R.arithX (den_cNum 0) (R.norm hn) hr
      exact ⟨_, List.mem_singleton.2 rfl, σ', .int _ z, h1, h2, sat_int h3, fun w => by
        have := run_intOp (P := P) (t := 0) (k' := _) (.inl rfl) h4 w
        simpa [binOp, Op.unary] using this⟩
    · cases h
  · split at h
    · rename_i r hr
      cases h
      simp only [Sat] at hu
      obtain ⟨n, hn, rfl⟩ := hu
      obtain ⟨σ', z, h1, h2, h3, h4⟩ := R.arithX (den_cNum _) (R.norm hn) hr
      exact ⟨_, List.mem_singleton.2 rfl, σ', .int _ z, h1, h2, sat_int h3, fun w => by
        have := run_intOp (P := P) (t := 0) (k' := _) (.inl rfl) h4 w
        simpa [binOp, Op.unary] using this⟩
    · cases h
  · cases h
def vConv (P : Program) (H : AH) (src dst : TypeId) (a : AV) : Option (List (AH × AV)) :=
  match P.underlying src, P.underlying dst, a with
  | some _, some (.int k), .int _ x =>
    match H.range (H.norm x) with
    | some (lo, hi) => bif decide (k.min ≤ lo) && decide (hi ≤ k.max) then some [(H, .int k (H.norm x))] else
      match (H.norm x).s with
      | none => some [(H, .int k ⟨none, k.wrap (H.norm x).c⟩)]
      | some _ => some [((H.convX k (H.norm x)).1, .int k (H.convX k (H.norm x)).2)]
    | none => some [((H.convX k (H.norm x)).1, .int k (H.convX k (H.norm x)).2)]
  | some _, some .string, .str l => some [(H, .str l)]
  | _, _, _ => none
theorem vConv_sound (R : Rel ro g σ H w) {src dst : TypeId} {a : AV} {u : Value} (hu : Sat σ a u) {outs : List (AH × AV)} (h : vConv P H src dst a = some outs) :
    Yld ro g σ w P (convert src dst u) outs := by
  unfold vConv at h
  split at h
  · rename_i ds k k' x hs hd
    simp only [Sat] at hu
    obtain ⟨n, hn, rfl⟩ := hu
    have hrun : ∀ w, (convert src dst (.int k' n)).run P w = .ok (.int k (k.wrap n)) w := fun w => by
      simp [convert, run_underlying hs, run_underlying hd, Conv.intToInt]
    have fr : Yld ro g σ w P (convert src dst (.int k' n)) [((H.convX k (H.norm x)).1, .int k (H.convX k (H.norm x)).2)] := by
      obtain ⟨σ', h1, h2, h3⟩ := R.convX (k := k) (R.norm hn)
      exact ⟨_, List.mem_singleton.2 rfl, σ', _, h1, h2, sat_int h3, hrun⟩
    split at h
    · rename_i lo hi hr
      simp only [cond_eq_ite, Bool.and_eq_true, decide_eq_true_eq] at h
      split at h
      · cases h
        have := R.range (R.norm hn) hr
        refine ⟨_, List.mem_singleton.2 rfl, σ, .int k n, .refl σ, R, sat_int (R.norm hn), fun w => ?_⟩
        rw [hrun, wrap_id k n (by omega) (by omega)]
      · split at h
        · rename_i hs0
          cases h
          have hn' := R.norm hn
          simp only [Num.den, hs0, Option.some.injEq] at hn'
          subst hn'
          exact ⟨_, List.mem_singleton.2 rfl, σ, _, .refl σ, R, sat_int rfl, hrun⟩
        · cases h; exact fr
    · cases h; exact fr
  · rename_i ds l hs hd
    cases h
    simp only [Sat] at hu
    subst hu
    exact ⟨_, List.mem_singleton.2 rfl, σ, .string (strOf l), .refl σ, R, by simp [Sat], fun w => by simp [convert, run_underlying hs, run_underlying hd]⟩
  · cases h
end
end
end Go.Proofs.YtgkoghgiclkbhaaGreatDoor.Sx
namespace Go.Proofs.YtgkoghgiclkbhaaGreatDoor.Sx
open Go
noncomputable section
set_option linter.unusedVariables false
set_option linter.unusedSimpArgs false

/-! the cells of a value -/
def shCell : Sh → Bool
  | .int .. | .bool | .str | .slice .. | .ptr _ => true
  | _ => false
def isCell : AV → Bool
  | .int .. | .bool _ | .str _ | .ptr .. | .eptr .. | .sl .. | .fn .. | .ifc .. | .osl .. | .oaddr _ => true
  | .lit (.agg _) | .lit (.tuple _) => false
  | .lit _ => true
  | .any s => shCell s
  | _ => false
def acells : AV → Option (List AV)
  | .agg l => some l
  | .any (.agg l) => some (openShL l)
  | a => bif isCell a then some [a] else none
def Value.flat : Value → Bool
  | .agg _ | .tuple _ => false
  | _ => true
theorem shCell_flat {imm : Imm} {s : Sh} {v : Value} (h : shCell s = true) (hs : SatSh imm s v) : Value.flat v = true := by
  cases s <;> simp [shCell] at h <;> simp only [SatSh] at hs
  · obtain ⟨n, rfl, _⟩ := hs; rfl
  · obtain ⟨b, rfl⟩ := hs; rfl
  · obtain ⟨b, rfl⟩ := hs; rfl
  · obtain ⟨_, _, _, rfl, _⟩ := hs; rfl
  · rcases hs with rfl | ⟨_, _, _, _, _, rfl, _⟩ <;> rfl
theorem isCell_flat {σ : Env} {a : AV} {v : Value} (h : isCell a = true) (hs : Sat σ a v) : Value.flat v = true := by
  unfold isCell at h
  split at h <;> first | (cases h; done) | skip
  all_goals simp only [Sat] at hs
  · obtain ⟨_, _, rfl⟩ := hs; rfl
  · obtain ⟨_, _, rfl⟩ := hs; rfl
  · subst hs; rfl
  · obtain ⟨_, _, _, rfl⟩ := hs; rfl
  · obtain ⟨_, _, _, _, _, _, rfl⟩ := hs; rfl
  · obtain ⟨_, _, _, _, _, _, _, _, _, rfl⟩ := hs; rfl
  · obtain ⟨_, rfl, _⟩ := hs; rfl
  · obtain ⟨_, rfl, _⟩ := hs; rfl
  · obtain ⟨_, _, _, rfl, _⟩ := hs; rfl
  · obtain ⟨_, _, _, _, _, rfl, _⟩ := hs; rfl
  · rename_i v' h1 h2
    subst hs
    cases v <;> first | rfl | (exact absurd rfl (h1 _)) | (exact absurd rfl (h2 _))
  · exact shCell_flat h hs
theorem flat_cells {v : Value} (h : Value.flat v = true) : v.cells = #[v] := by cases v <;> first | rfl | (simp [Value.flat] at h)
theorem acells_sound {σ : Env} {a : AV} {v : Value} {l : List AV} (h : acells a = some l) (hs : Sat σ a v) : SatL σ l v.cells.toList := by
  unfold acells at h
  split at h
  · cases h
    simp only [Sat] at hs
    obtain ⟨vs, rfl, hl⟩ := hs
    exact hl
  · cases h
    simp only [Sat, SatSh] at hs
    obtain ⟨vs, rfl, hl⟩ := hs
    exact satL_openSh _ _ hl
  · rw [cond_eq_ite] at h
    split at h
    · rename_i hc
      cases h
      rw [flat_cells (isCell_flat hc hs)]
      simp only [SatL]
      exact ⟨v, [], rfl, hs, rfl⟩
    · cases h
/-! filling -/
def splice {α : Type} (l : List α) (off : Nat) (x : List α) : List α := l.take off ++ (x ++ l.drop (off + x.length))
theorem splice_length {α : Type} {l : List α} {off : Nat} {x : List α} (h : off + x.length ≤ l.length) : (splice l off x).length = l.length := by simp [splice]; omega
theorem splice_nil {α : Type} (l : List α) (off : Nat) : splice l off [] = l := by simp [splice]
theorem splice_cons {α : Type} (l : List α) (off : Nat) (a : α) (x : List α) (h : off + (x.length + 1) ≤ l.length) : splice l off (a :: x) = splice (l.set off a) (off + 1) x := by
  unfold splice
  have h1 : (l.set off a).take (off + 1) = l.take off ++ [a] := by
    rw [List.take_set, List.set_eq_take_append_cons_drop]
    simp
    have : min (off + 1) l.length = off + 1 := by omega
    simp [List.take_take, List.drop_take, this]
  have h2 : (l.set off a).drop (off + 1 + x.length) = l.drop (off + (a :: x).length) := by
    rw [List.drop_set_of_lt (by omega)]
    simp; congr 1; omega
  rw [h1, h2]; simp
theorem foldl_set {α : Type} (off : Nat) : ∀ (x : List α) (k : Nat) (cs : Array α), off + k + x.length ≤ cs.size →
    ((x.zipIdx k).foldl (fun (cs : Array α) (p : α × Nat) => cs.setIfInBounds (off + p.2) p.1) cs).toList = splice cs.toList (off + k) x
  | [], k, cs, _ => by simp [splice_nil]
  | a :: x, k, cs, h => by
    simp only [List.zipIdx_cons, List.foldl_cons]
    rw [foldl_set off x (k + 1) _ (by simp at h ⊢; omega)]
    rw [splice_cons cs.toList (off + k) a x (by simp at h ⊢; omega)]
    simp [Nat.add_assoc]
def afill (place : Nat → Option (Nat × Nat)) (cells : List AV) : List (Nat × AV) → Option (List AV)
  | [] => some cells
  | (i, a) :: rest =>
    match place i, acells a with
    | some (off, n), some l => bif decide (l.length = n) && decide (off + n ≤ cells.length) then afill place (splice cells off l) rest else none
    | _, _ => none
theorem SatL.splice {σ : Env} {l : List AV} {vs : List Value} {x : List AV} {xs : List Value} (off : Nat) (h : SatL σ l vs) (hx : SatL σ x xs) : SatL σ (splice l off x) (splice vs off xs) := by
  unfold Sx.splice
  rw [hx.length]
  exact (h.take off).append (hx.append (h.drop _))
theorem afill_sound {σ : Env} (place : Nat → Option (Nat × Nat)) : ∀ (parts : List (Nat × AV)) (vparts : List (Nat × Value)) (cells : List AV) (cs : Array Value) (out : List AV),
    parts.length = vparts.length → (∀ (j : Nat) (p : Nat × AV) (q : Nat × Value), parts[j]? = some p → vparts[j]? = some q → p.1 = q.1 ∧ Sat σ p.2 q.2) → SatL σ cells cs.toList → afill place cells parts = some out →
    ∃ cs', Instr.fill place cs vparts = some cs' ∧ SatL σ out cs'.toList
  | [], vparts, cells, cs, out, hl, hp, hc, h => by
    have : vparts = [] := List.eq_nil_of_length_eq_zero hl.symm
    subst this
    simp only [afill, Option.some.injEq] at h
    subst h
    exact ⟨cs, rfl, hc⟩
  | (i, a) :: rest, [], cells, cs, out, hl, hp, hc, h => by simp at hl
  | (i, a) :: rest, (i', v) :: vrest, cells, cs, out, hl, hp, hc, h => by
    have h0 := hp 0 _ _ rfl rfl
    obtain ⟨rfl, hs⟩ := h0
    simp only [afill] at h
    split at h
    · rename_i off n l hpl hac
      simp only [cond_eq_ite, Bool.and_eq_true, decide_eq_true_eq] at h
      split at h
      · rename_i hle
        have hsv := acells_sound hac hs
        have hlen := hsv.length
        have hcl := hc.length
        simp only [Array.length_toList] at hlen hcl
        have hfold : (v.cells.zipIdx.foldl (fun (cs : Array Value) (x : Value × Nat) => cs.setIfInBounds (off + x.2) x.1) cs).toList = Sx.splice cs.toList off v.cells.toList := by
          have := foldl_set off v.cells.toList 0 cs (by simp; omega)
          rw [← Array.foldl_toList, Array.toList_zipIdx]
          simpa using this
        obtain ⟨cs', e1, e2⟩ := afill_sound place rest vrest (Sx.splice cells off l) (v.cells.zipIdx.foldl (fun (cs : Array Value) (x : Value × Nat) => cs.setIfInBounds (off + x.2) x.1) cs) out (by simpa using hl)
          (fun j p q hj hq => hp (j + 1) p q (by simpa using hj) (by simpa using hq)) (by rw [hfold]; exact hc.splice off hsv) h
        refine ⟨cs', ?_, e2⟩
        simp only [Instr.fill, hpl]
        have c1 : ¬ (v.cells.size ≠ n) := by omega
        have c2 : ¬ (off + v.cells.size > cs.size) := by omega
        simp only [c1, c2, decide_false, Bool.or_self, Bool.false_eq_true, if_false]
        exact e1
      · cases h
    · cases h
def vBuild (P : Program) (t : TypeId) (parts : List (Nat × AV)) : Option AV :=
  match P.info? t, P.underlying t with
  | some it, some (.array _ e) =>
    match it.zero, P.info? e with
    | some z, some ie => (afill (fun i => some (i * ie.size, ie.size)) (z.cells.toList.map ofCell) parts).map .agg
    | _, _ => none
  | some it, some (.struct fields) =>
    match it.zero, fields.toList.mapM (fun f => (P.info? f.type).map fun i => (f.offset, i.size)) with
    | some z, some places => (afill (places.toArray[·]?) (z.cells.toList.map ofCell) parts).map .agg
    | _, _ => none
  | _, _ => none
theorem vBuild_sound {σ : Env} {P : Program} {t : TypeId} {parts : List (Nat × AV)} {vparts : Array (Nat × Value)} {a : AV} (h : vBuild P t parts = some a)
    (hl : parts.length = vparts.size) (hp : ∀ (j : Nat) (p : Nat × AV) (q : Nat × Value), parts[j]? = some p → vparts.toList[j]? = some q → p.1 = q.1 ∧ Sat σ p.2 q.2) :
    ∃ V, Sat σ a V ∧ ∀ w, (Instr.build t vparts).run P w = .ok V w := by
  unfold vBuild at h
  split at h
  · rename_i it n e hi hu
    split at h
    · rename_i z ie hz hie
      simp only [Option.map_eq_some_iff] at h
      obtain ⟨l, hf, rfl⟩ := h
      obtain ⟨cs', e1, e2⟩ := afill_sound (σ := σ) _ parts vparts.toList _ z.cells l (by simpa using hl) hp (satL_ofCells σ _) hf
      refine ⟨.agg cs', ?_, fun w => run_build w t vparts cs' ?_⟩
      · simp only [Sat]; exact ⟨cs'.toList, rfl, e2⟩
      · unfold Program.built; simp only [hi, hu, hz, hie]; exact e1
    · cases h
  · rename_i it fields hi hu
    split at h
    · rename_i z places hz hpl
      simp only [Option.map_eq_some_iff] at h
      obtain ⟨l, hf, rfl⟩ := h
      obtain ⟨cs', e1, e2⟩ := afill_sound (σ := σ) _ parts vparts.toList _ z.cells l (by simpa using hl) hp (satL_ofCells σ _) hf
      refine ⟨.agg cs', ?_, fun w => run_build w t vparts cs' ?_⟩
      · simp only [Sat]; exact ⟨cs'.toList, rfl, e2⟩
      · unfold Program.built; simp only [hi, hu, hz, hpl]; exact e1
    · cases h
  · cases h
end
end Go.Proofs.YtgkoghgiclkbhaaGreatDoor.Sx
namespace Go.Proofs.YtgkoghgiclkbhaaGreatDoor.Sx
open Go
noncomputable section
set_option linter.unusedVariables false
set_option linter.unusedSimpArgs false

section
variable {ro : Nat → Bool} {g : Gh} {σ : Env} {H : AH} {w : World} {P : Program}
theorem add_addr (b o n : Nat) : (⟨b, o, none⟩ : Addr).add n = ⟨b, o + n, none⟩ := by unfold Addr.add; split <;> simp_all
theorem Yld.one {s : Sem Value} {H' : AH} {a : AV} {σ' : Env} {V : Value} (h1 : σ.le σ') (h2 : Rel ro g σ' H' w) (h3 : Sat σ' a V) (h4 : ∀ w', s.run P w' = .ok V w') : Yld ro g σ w P s [(H', a)] :=
  ⟨_, List.mem_singleton.2 rfl, σ', V, h1, h2, h3, h4⟩
def vNilCheck (a : AV) : Bool := match a with
  | .ptr .. | .eptr .. | .oaddr _ | .fn .. | .ifc .. => true
  | _ => false
def vFieldAddr (P : Program) (s : TypeId) (a : AV) (f : Nat) : Option AV :=
  match P.underlying s with
  | some (.struct fields) => match fields[f]? with
    | some fd => match tSize P fd.type with
      | some (_ + 1) => match a with
        | .ptr b off => some (.ptr b (off + fd.offset))
        | .eptr b off esz i sub lim => bif Nat.ble fd.offset lim then some (.eptr b off esz i (sub + fd.offset) (lim - fd.offset)) else none
        | .oaddr cs => bif Nat.ble fd.offset cs.length then some (.oaddr (cs.drop fd.offset)) else none
        | _ => none
      | _ => none
    | none => none
  | _ => none
theorem SatShAt.drop {imm : Imm} : ∀ (n : Nat) (l : List Sh) (q : Nat) (v : Value), SatShAt imm (l.drop n) q v ↔ SatShAt imm l (n + q) v
  | 0, l, q, v => by simp
  | n + 1, [], q, v => by simp [SatShAt]
  | n + 1, s :: l, q, v => by
    rw [List.drop_succ_cons, SatShAt.drop n l q v]
    have : n + 1 + q = (n + q) + 1 := by omega
    rw [this]; simp [SatShAt]
theorem vFieldAddr_sound {s : TypeId} {a b : AV} {f : Nat} {u : Value} (hu : Sat σ a u) (h : vFieldAddr P s a f = some b) :
    ∃ V, Sat σ b V ∧ ∀ w, (Instr.fieldAt s u f).run P w = .ok V w := by
  unfold vFieldAddr at h
  split at h
  · rename_i fields hd
    split at h
    · rename_i fd hf
      split at h
      · rename_i m hsz
        have hrun : ∀ bl off, ∀ w, (Instr.fieldAt s (.pointer (some ⟨bl, off, none⟩)) f).run P w = .ok (.pointer (some ⟨bl, off + fd.offset, none⟩)) w := by
          intro bl off w
          simp [Instr.fieldAt, run_underlying hd, hf, Instr.sureAddr, fieldPlace, run_sizeOf' hsz, add_addr]
        split at h
        · cases h
          simp only [Sat] at hu
          obtain ⟨n, sz, hb, rfl⟩ := hu
          exact ⟨_, by simp only [Sat]; exact ⟨n, sz, hb, rfl⟩, hrun _ _⟩
        · rw [cond_eq_ite] at h
          split at h
          · rename_i hle
            rw [Nat.ble_eq] at hle
            cases h
            simp only [Sat] at hu
            obtain ⟨n, sz, k, hb, hi, hlim, rfl⟩ := hu
            exact ⟨_, by simp only [Sat]; exact ⟨n, sz, k, hb, hi, by omega, by simp only [Nat.add_assoc]⟩, hrun _ _⟩
          · cases h
        · rw [cond_eq_ite] at h
          split at h
          · rename_i cs hle
            rw [Nat.ble_eq] at hle
            cases h
            simp only [Sat] at hu
            obtain ⟨bl, off, c, e, fr, rfl, him, hc, hall⟩ := hu
            refine ⟨_, ?_, hrun _ _⟩
            simp only [Sat]
            refine ⟨bl, off + fd.offset, c, e, fr, rfl, him, by simp; omega, fun j x hj hx => ?_⟩
            rw [SatShAt.drop]
            simp only [List.length_drop] at hj
            exact hall (fd.offset + j) x (by omega) (by rw [← Nat.add_assoc]; exact hx)
          · cases h
        · cases h
      · cases h
    · cases h
  · cases h
def vField (P : Program) (s : TypeId) (a : AV) (f : Nat) : Option AV :=
  match P.underlying s with
  | some (.struct fields) => match fields[f]? with
    | some fd => match a with
      | .agg l => apart P fd.type l fd.offset
      | _ => none
    | none => none
  | _ => none
theorem vField_sound {s : TypeId} {a b : AV} {f : Nat} {u : Value} (hu : Sat σ a u) (h : vField P s a f = some b) :
    ∃ V, Sat σ b V ∧ ∀ w, (Instr.field s u f).run P w = .ok V w := by
  unfold vField at h
  split at h
  · rename_i fields hd
    split at h
    · rename_i fd hf
      split at h
      · simp only [Sat] at hu
        obtain ⟨vs, rfl, hl⟩ := hu
        obtain ⟨V, h1, h2⟩ := run_part' h hl
        exact ⟨V, h1, fun w => by simp [Instr.field, run_underlying hd, hf, asAgg, h2]⟩
      · cases h
    · cases h
  · cases h
def vExtract (a : AV) (i : Nat) : Option AV := match a with
  | .tup l => l[i]?
  | _ => none
theorem vExtract_sound {a b : AV} {i : Nat} {u : Value} (hu : Sat σ a u) (h : vExtract a i = some b) :
    ∃ V, Sat σ b V ∧ ∀ w, (Instr.extract u i).run P w = .ok V w := by
  unfold vExtract at h
  split at h
  · simp only [Sat] at hu
    obtain ⟨vs, rfl, hl⟩ := hu
    obtain ⟨v, h1, h2⟩ := hl.get h
    exact ⟨v, h2, fun w => by
      have : (⟨vs⟩ : Array Value)[i]? = some v := by simpa using h1
      simp [Instr.extract, this]⟩
  · cases h
/-! each of some numbers -/
def forkI (H : AH) (x : Num) : Int → Nat → List (AH × Int)
  | _, 0 => []
  | v, c + 1 => (match H.tight x v v with | some H' => [(H', v)] | none => []) ++ forkI H x (v + 1) c
theorem Rel.forkI (R : Rel ro g σ H w) {x : Num} {n : Int} (hx : x.den σ = some n) : ∀ (c : Nat) (v : Int), v ≤ n → n < v + c →
    ∃ H', (H', n) ∈ forkI H x v c ∧ Rel ro g σ H' w
  | 0, v, h1, h2 => by omega
  | c + 1, v, h1, h2 => by
    by_cases hv : n = v
    · subst hv
      obtain ⟨H', e, _, R'⟩ := R.tight hx (Int.le_refl n) (Int.le_refl n)
      exact ⟨H', by simp [Sx.forkI, e], R'⟩
    · obtain ⟨H', e, R'⟩ := Rel.forkI R hx c (v + 1) (by omega) (by push_cast at h2; omega)
      exact ⟨H', by simp [Sx.forkI, e], R'⟩
def optAll {α β : Type} (f : α → Option β) : List α → Option (List β)
  | [] => some []
  | a :: l => match f a with
    | some b => match optAll f l with
      | some r => some (b :: r)
      | none => none
    | none => none
theorem optAll_mem {α β : Type} {f : α → Option β} : ∀ {l : List α} {r : List β}, optAll f l = some r → ∀ a ∈ l, ∃ b ∈ r, f a = some b
  | [], r, h, a, ha => by cases ha
  | x :: l, r, h, a, ha => by
    simp only [optAll] at h
    split at h
    · rename_i b hb
      split at h
      · rename_i r' hr
        cases h
        rcases List.mem_cons.1 ha with rfl | ha
        · exact ⟨b, List.mem_cons_self .., hb⟩
        · obtain ⟨b', h1, h2⟩ := optAll_mem hr a ha
          exact ⟨b', List.mem_cons_of_mem _ h1, h2⟩
      · cases h
    · cases h
/-- All the parts are of one shape. -/
def sameAny : List AV → Option Sh
  | .any s :: l => bif l.all (fun a => match a with | .any s' => Sh.beq s' s | _ => false) then some s else none
  | _ => none
theorem sameAny_get {l : List AV} {s : Sh} (h : sameAny l = some s) {i : Nat} {a : AV} (hi : l[i]? = some a) : a = .any s := by
  unfold sameAny at h
  split at h
  · rename_i s0 l
    simp only [cond_eq_ite, List.all_eq_true] at h
    split at h
    · rename_i hc
      cases h
      cases i with
      | zero => simp at hi; exact hi.symm
      | succ i =>
        simp at hi
        have := hc a (List.mem_of_getElem? hi)
        split at this
        · rw [Sh.beq_eq _ _ this]
        · cases this
    · cases h
  · cases h
def vIdxU (P : Program) (e : TypeId) (l : List AV) (sz : Nat) (hi : Int) : Option Sh :=
  match tAgg P e with
  | some false => bif Nat.ble 16 l.length && Nat.blt (hi.toNat * sz) l.length then sameAny l else none
  | _ => none
theorem vIdxU_ok {P : Program} {e : TypeId} {l : List AV} {sz : Nat} {hi n : Int} {s : Sh} (h : vIdxU P e l sz hi = some s) (hn : n ≤ hi) : apart P e l (n.toNat * sz) = some (.any s) := by
  unfold vIdxU at h
  split at h
  · rename_i hA
    simp only [cond_eq_ite, Bool.and_eq_true, Nat.blt_eq] at h
    split at h
    · rename_i hc
      have hle : n.toNat * sz ≤ hi.toNat * sz := Nat.mul_le_mul_right _ (by omega)
      have hlt : n.toNat * sz < l.length := by omega
      have := sameAny_get h (List.getElem?_eq_getElem hlt)
      simp only [apart, hA]
      rw [List.getElem?_eq_getElem hlt, this]
    · cases h
  · cases h
def vIndex (P : Program) (H : AH) (t : TypeId) (a i : AV) : Option (List (AH × AV)) :=
  match i with
  | .int _ x =>
    match P.underlying t, a with
    | some (.array len e), .agg l =>
      match tSize P e, H.range (H.norm x) with
      | some sz, some (lo, hi) => bif decide (0 ≤ lo) && decide (hi < len) && decide (hi - lo < 256) then
          (match vIdxU P e l sz hi with
            | some s => some [(H, .any s)]
            | none => optAll (fun p : AH × Int => (apart P e l (p.2.toNat * sz)).map fun b => (p.1, b)) (forkI H (H.norm x) lo (hi - lo + 1).toNat))
        else none
      | _, _ => none
    | some .string, .str l => match (H.norm x).s with
      | none => match l[(H.norm x).c.toNat]? with
        | some n => bif decide (0 ≤ (H.norm x).c) && Nat.blt n 256 then some [(H, .int .u8 ⟨none, n⟩)] else none
        | none => none
      | some _ => none
    | _, _ => none
  | _ => none
theorem vIndex_sound (R : Rel ro g σ H w) {t : TypeId} {a i : AV} {u v : Value} (hu : Sat σ a u) (hv : Sat σ i v) {outs : List (AH × AV)} (h : vIndex P H t a i = some outs) :
    Yld ro g σ w P (Instr.index t u v) outs := by
  unfold vIndex at h
  split at h
  · rename_i k x
    simp only [Sat] at hv
    obtain ⟨n, hn, rfl⟩ := hv
    have hn := R.norm hn
    split at h
    · rename_i len e l hd
      split at h
      · rename_i sz lo hi hsz hr
        simp only [cond_eq_ite, Bool.and_eq_true, decide_eq_true_eq] at h
        split at h
        · rename_i hc
          have hb := R.range hn hr
          simp only [Sat] at hu
          obtain ⟨vs, rfl, hl⟩ := hu
          have c1 : 0 ≤ n ∧ n < (len : Int) := by omega
          split at h
          · rename_i s hs
            cases h
            obtain ⟨V, h1, h2⟩ := run_part' (vIdxU_ok hs hb.2) hl
            refine ⟨_, List.mem_singleton.2 rfl, σ, V, .refl σ, R, h1, fun w' => ?_⟩
            simp [Instr.index, asIntOf, run_underlying hd, c1, run_sizeOf' hsz, h2]
          · obtain ⟨H', hm, R'⟩ := R.forkI hn (hi - lo + 1).toNat lo hb.1 (by omega)
            obtain ⟨p, hp, he⟩ := optAll_mem h _ hm
            simp only [Option.map_eq_some_iff] at he
            obtain ⟨b, hb', rfl⟩ := he
            obtain ⟨V, h1, h2⟩ := run_part' hb' hl
            refine ⟨_, hp, σ, V, .refl σ, R', h1, fun w' => ?_⟩
            simp [Instr.index, asIntOf, run_underlying hd, c1, run_sizeOf' hsz, h2]
        · cases h
      · cases h
    · rename_i l hd
      split at h
      · rename_i hs
        split at h
        · rename_i m hm
          simp only [cond_eq_ite, Bool.and_eq_true, decide_eq_true_eq, Nat.blt_eq] at h
          split at h
          · rename_i hc
            cases h
            simp only [Num.den, hs, Option.some.injEq] at hn
            subst hn
            simp only [Sat] at hu
            subst hu
            refine .one (.refl σ) R (sat_int (n := m) rfl) fun w' => ?_
            have hg : (strOf l)[(H.norm x).c.toNat]? = some (UInt8.ofNat m) := by
              have : (strOf l).data[(H.norm x).c.toNat]? = some (UInt8.ofNat m) := by simp [strOf, hm]
              exact this
            have : (UInt8.ofNat m).toNat = m := UInt8.toNat_ofNat_of_lt' hc.2
            simp [Instr.index, asIntOf, run_underlying hd, hc.1, hg, this]
          · cases h
        · cases h
      · cases h
    · cases h
  · cases h
/-- The place of an element. -/
def vIndexAddr (P : Program) (H : AH) (t : TypeId) (a i : AV) : Option AV :=
  match i with
  | .int _ x =>
    match P.underlying t, a with
    | some (.array len e), .ptr b off =>
      match tSize P e, H.range (H.norm x), H.hp.get b with
      | some sz, some (lo, hi), some ab => bif decide (0 ≤ lo) && decide (hi < len) && Nat.ble (off + len * sz) ab.n then
          match (H.norm x).s with
          | none => some (.ptr b (off + (H.norm x).c.toNat * sz))
          | some _ => some (.eptr b off sz (H.norm x) 0 sz)
        else none
      | _, _, _ => none
    | some (.slice e), .sl b off esz len cap =>
      match tSize P e, H.range (H.norm x) with
      | some sz, some (lo, hi) => bif decide (0 ≤ lo) && decide (sz = esz) && H.ltB (H.norm x) (H.norm len) then
          match (H.norm x).s, H.hp.get b with
          | none, some ab => bif Nat.ble (off + ((H.norm x).c.toNat + 1) * sz) ab.n then some (.ptr b (off + (H.norm x).c.toNat * sz)) else some (.eptr b off sz (H.norm x) 0 sz)
          | _, _ => some (.eptr b off sz (H.norm x) 0 sz)
        else none
      | _, _ => none
    | some (.slice e), .osl cs len =>
      match tSize P e, H.range (H.norm x) with
      | some sz, some (lo, hi) => bif decide (0 ≤ lo) && decide (sz = cs.length) && H.ltB (H.norm x) (H.norm len) then some (.oaddr cs) else none
      | _, _ => none
    | _, _ => none
  | _ => none
theorem vIndexAddr_sound (R : Rel ro g σ H w) {t : TypeId} {a i b : AV} {u v : Value} (hu : Sat σ a u) (hv : Sat σ i v) (h : vIndexAddr P H t a i = some b) :
    ∃ V, Sat σ b V ∧ ∀ w, (Instr.indexAt t u v).run P w = .ok V w := by
  unfold vIndexAddr at h
  split at h
  · rename_i k x
    simp only [Sat] at hv
    obtain ⟨n, hn, rfl⟩ := hv
    have hn := R.norm hn
    split at h
    · rename_i len e bl off hd
      split at h
      · rename_i sz lo hi ab hsz hr hab
        simp only [cond_eq_ite, Bool.and_eq_true, decide_eq_true_eq, Nat.ble_eq] at h
        split at h
        · rename_i hc
          have hb := R.range hn hr
          simp only [Sat] at hu
          obtain ⟨m, msz, hm, rfl⟩ := hu
          obtain ⟨m', msz', hm', c, hcc, hcs, hle, _⟩ := R.blk _ _ hab
          rw [hm] at hm'; cases hm'
          have c1 : 0 ≤ n ∧ n < (len : Int) := by omega
          have hrun : ∀ w, (Instr.indexAt t (.pointer (some ⟨m, off, none⟩)) (.int k n)).run P w = .ok (.pointer (some ⟨m, off + n.toNat * sz, none⟩)) w := by
            intro w
            simp [Instr.indexAt, asIntOf, run_underlying hd, Instr.sureAddr, c1, run_sizeOf' hsz, add_addr]
          split at h
          · rename_i hs
            cases h
            simp only [Num.den, hs, Option.some.injEq] at hn
            subst hn
            exact ⟨_, by simp only [Sat]; exact ⟨m, msz, hm, rfl⟩, hrun⟩
          · cases h
            refine ⟨_, ?_, hrun⟩
            simp only [Sat]
            refine ⟨m, msz, n.toNat, hm, by rw [hn]; congr 1; omega, ?_, rfl⟩
            have h1 : (n.toNat + 1) * sz ≤ len * sz := Nat.mul_le_mul_right _ (by omega)
            rw [Nat.add_mul] at h1
            omega
        · cases h
      · cases h
    · rename_i e bl off esz len cap hd
      split at h
      · rename_i sz lo hi hsz hr
        simp only [cond_eq_ite, Bool.and_eq_true, decide_eq_true_eq] at h
        split at h
        · rename_i hc
          obtain ⟨⟨hc0, rfl⟩, hc2⟩ := hc
          have hb := R.range hn hr
          simp only [Sat] at hu
          obtain ⟨m, msz, l, c, hm, hl, hcap, hlc, hsz', rfl⟩ := hu
          have hlt := R.ltB hn (R.norm hl) hc2
          have c1 : 0 ≤ n ∧ n < (l : Int) := by omega
          have hrun : ∀ w, (Instr.indexAt t (.slice (some ⟨m, off, none⟩) l c) (.int k n)).run P w = .ok (.pointer (some ⟨m, off + n.toNat * sz, none⟩)) w := by
            intro w
            simp [Instr.indexAt, asIntOf, run_underlying hd, c1, run_sizeOf' hsz, add_addr]
          have eps : ∃ V, Sat σ (.eptr bl off sz (H.norm x) 0 sz) V ∧ ∀ w, (Instr.indexAt t (.slice (some ⟨m, off, none⟩) l c) (.int k n)).run P w = .ok V w := by
            refine ⟨_, ?_, hrun⟩
            simp only [Sat]
            refine ⟨m, msz, n.toNat, hm, by rw [hn]; congr 1; omega, ?_, rfl⟩
            have h1 : (n.toNat + 1) * sz ≤ c * sz := Nat.mul_le_mul_right _ (by omega)
            rw [Nat.add_mul] at h1
            omega
          split at h
          · rename_i ab hs hab
            split at h
            · cases h
              simp only [Num.den, hs, Option.some.injEq] at hn
              subst hn
              exact ⟨_, by simp only [Sat]; exact ⟨m, msz, hm, rfl⟩, hrun⟩
            · cases h; exact eps
          · cases h; exact eps
        · cases h
      · cases h
    · rename_i e cs len hd
      split at h
      · rename_i sz lo hi hsz hr
        simp only [cond_eq_ite, Bool.and_eq_true, decide_eq_true_eq] at h
        split at h
        · rename_i hc
          obtain ⟨⟨hc0, rfl⟩, hc2⟩ := hc
          cases h
          have hb := R.range hn hr
          simp only [Sat] at hu
          obtain ⟨base, l, cap, rfl, hl, hlc, hbase⟩ := hu
          have hlt := R.ltB hn (R.norm hl) hc2
          have c1 : 0 ≤ n ∧ n < (l : Int) := by omega
          rcases hbase with ⟨rfl, rfl⟩ | ⟨bl, off, c, e', fr, rfl, him, hsz', hall⟩
          · omega
          · refine ⟨.pointer (some ⟨bl, off + n.toNat * cs.length, none⟩), ?_, fun w => ?_⟩
            · simp only [Sat]
              have h1 : (n.toNat + 1) * cs.length ≤ l * cs.length := Nat.mul_le_mul_right _ (by omega)
              rw [Nat.add_mul] at h1
              refine ⟨bl, _, c, e', fr, rfl, him, by omega, fun j y hj hy => ?_⟩
              have := hall (n.toNat * cs.length + j) y (by omega) (by rw [← Nat.add_assoc]; exact hy)
              have e : (n.toNat * cs.length + j) % cs.length = j := by rw [Nat.mul_comm, Nat.mul_add_mod, Nat.mod_eq_of_lt hj]
              rw [e] at this
              exact this
            · simp [Instr.indexAt, asIntOf, run_underlying hd, c1, run_sizeOf' hsz, add_addr]
        · cases h
      · cases h
    · cases h
  · cases h
end
end
end Go.Proofs.YtgkoghgiclkbhaaGreatDoor.Sx
namespace Go.Proofs.YtgkoghgiclkbhaaGreatDoor.Sx
open Go
noncomputable section
set_option linter.unusedVariables false
set_option linter.unusedSimpArgs false

section
variable {ro : Nat → Bool} {g : Gh} {σ : Env} {H : AH} {w : World} {P : Program}
/-! slices -/
/-- A bound that is given, or the one that holds else. -/
def bnd (H : AH) (d : Num) : Option AV → Option Num
  | none => some d
  | some (.int _ x) => some (H.norm x)
  | some _ => none
def bndV (σ : Env) (d : Num) (x : Option AV) (v : Option Value) : Prop :=
  match x, v with
  | none, none => True
  | some a, some u => Sat σ a u
  | _, _ => False
/-- From where, how far, what it holds: low (known), high, most. -/
def bnds (H : AH) (len cap : Num) (lo hi mx : Option AV) : Option (Nat × Num × Num) :=
  match bnd H (cNum 0) lo, bnd H len hi, bnd H cap mx with
  | some l, some h, some m =>
    match l.s with
    | none => bif decide (0 ≤ l.c) && H.leB l h && H.leB h m && H.leB m cap && (hi.isSome || mx.isNone) then
        bif decide (l.c = 0) || H.ltB l m then some (l.c.toNat, h, m) else none
      else none
    | some _ => none
  | _, _, _ => none
theorem bnds_sound (R : Rel ro g σ H w) {len cap : Num} {ln cp : Nat} (hl : len.den σ = some (ln : Int)) (hcp : cap.den σ = some (cp : Int)) {lo hi mx : Option AV} {vlo vhi vmx : Option Value}
    (b1 : bndV σ (cNum 0) lo vlo) (b2 : bndV σ len hi vhi) (b3 : bndV σ cap mx vmx) {q : Nat × Num × Num} (h : bnds H len cap lo hi mx = some q) (is : Bool) :
    ∃ h' m' : Nat, q.2.1.den σ = some (h' : Int) ∧ q.2.2.den σ = some (m' : Int) ∧ q.1 ≤ h' ∧ h' ≤ m' ∧ m' ≤ cp ∧ (q.1 = 0 ∨ q.1 < m') ∧
      ∀ w, (Instr.sliceBounds is ln cp vlo vhi vmx).run P w = .ok (q.1, h', m') w := by
  have get : ∀ (d : Num) (dn : Int) (x : Option AV) (v : Option Value) (y : Num), d.den σ = some dn → bndV σ d x v → bnd H d x = some y →
      ∃ n : Int, y.den σ = some n ∧ ((x = none ∧ v = none ∧ n = dn) ∨ ∃ k, v = some (.int k n)) := by
    intro d dn x v y hd hb hy
    cases x with
    | none =>
      cases v with
      | none => simp only [bnd, Option.some.injEq] at hy; subst hy; exact ⟨dn, hd, .inl ⟨rfl, rfl, rfl⟩⟩
      | some u => exact hb.elim
    | some a =>
      cases v with
      | none => exact hb.elim
      | some u =>
        simp only [bndV] at hb
        cases a <;> simp only [bnd] at hy <;> first | (cases hy; done) | skip
        simp only [Sat] at hb
        obtain ⟨n, hn, rfl⟩ := hb
        cases hy
        exact ⟨n, R.norm hn, .inr ⟨_, rfl⟩⟩
  unfold bnds at h
  split at h
  · rename_i l hh m el eh em
    obtain ⟨l', dl, cl⟩ := get _ 0 _ _ _ rfl b1 el
    obtain ⟨h', dh, ch⟩ := get _ _ _ _ _ hl b2 eh
    obtain ⟨m', dm, cm⟩ := get _ _ _ _ _ hcp b3 em
    split at h
    · rename_i hs
      simp only [cond_eq_ite, Bool.and_eq_true, decide_eq_true_eq, Bool.or_eq_true] at h
      split at h
      · rename_i hc
        obtain ⟨⟨⟨⟨c0, c1⟩, c2⟩, c3⟩, c4⟩ := hc
        have hl' : l' = l.c := by simpa [Num.den, hs] using dl.symm
        subst hl'
        have e1 := R.leB dl dh c1
        have e2 := R.leB dh dm c2
        have e3 := R.leB dm hcp c3
        split at h
        · rename_i hlm
          cases h
          obtain ⟨hN, rfl⟩ := Int.eq_ofNat_of_zero_le (show 0 ≤ h' by omega)
          obtain ⟨mN, rfl⟩ := Int.eq_ofNat_of_zero_le (show 0 ≤ m' by omega)
          obtain ⟨lN, hlN⟩ := Int.eq_ofNat_of_zero_le (show 0 ≤ l.c by omega)
          have elN : l.c.toNat = lN := by omega
          have dlm : lN = 0 ∨ lN < mN := by
            rcases hlm with h0 | h0
            · left; omega
            · right
              have := R.ltB dl dm h0
              omega
          have q1 : lN ≤ hN := by omega
          have q2 : hN ≤ mN := by omega
          have q3 : mN ≤ cp := by omega
          refine ⟨hN, mN, dh, dm, by dsimp only; omega, q2, q3, by dsimp only; rw [elN]; exact dlm, fun w => ?_⟩
          rw [elN]
          rw [hlN] at cl
          have z : ((lN : Nat) : Int) = 0 → lN = 0 := by omega
          rcases cm with ⟨rfl, rfl, hm0⟩ | ⟨km, rfl⟩ <;> rcases ch with ⟨rfl, rfl, hh0⟩ | ⟨kh, rfl⟩ <;> rcases cl with ⟨rfl, rfl, hz⟩ | ⟨kl, rfl⟩
          · have := z hz; subst this
            have e1 : hN = ln := by omega
            have e2 : mN = cp := by omega
            subst e1; subst e2
            simp [Instr.sliceBounds]
          · have e1 : hN = ln := by omega
            have e2 : mN = cp := by omega
            subst e1; subst e2
            simp [Instr.sliceBounds, Instr.sliceBound, asIntOf, q1]
          · have := z hz; subst this
            have e2 : mN = cp := by omega
            subst e2
            simp [Instr.sliceBounds, Instr.sliceBound, asIntOf, q1, q2]
          · have e2 : mN = cp := by omega
            subst e2
            simp [Instr.sliceBounds, Instr.sliceBound, asIntOf, q1, q2]
          · simp at c4; subst c4; exact b3.elim
          · simp at c4; subst c4; exact b3.elim
          · have := z hz; subst this
            simp [Instr.sliceBounds, Instr.sliceBound, asIntOf, q1, q2, q3]
          · simp [Instr.sliceBounds, Instr.sliceBound, asIntOf, q1, q2, q3]
        · cases h
      · cases h
    · cases h
  · cases h
/-- The same where what it holds is not known. -/
def bnds0 (H : AH) (len : Num) (lo hi : Option AV) : Option (Nat × Num) :=
  match bnd H (cNum 0) lo, bnd H len hi with
  | some l, some h =>
    match l.s with
    | none => bif decide (0 ≤ l.c) && H.leB l h && H.leB h len then some (l.c.toNat, h) else none
    | some _ => none
  | _, _ => none
theorem bnd_get (R : Rel ro g σ H w) {d : Num} {dn : Int} {x : Option AV} {v : Option Value} {y : Num} (hd : d.den σ = some dn) (hb : bndV σ d x v) (hy : bnd H d x = some y) :
    ∃ n : Int, y.den σ = some n ∧ ((x = none ∧ v = none ∧ n = dn) ∨ ∃ k, v = some (.int k n)) := by
  cases x with
  | none =>
    cases v with
    | none => simp only [bnd, Option.some.injEq] at hy; subst hy; exact ⟨dn, hd, .inl ⟨rfl, rfl, rfl⟩⟩
    | some u => exact hb.elim
  | some a =>
    cases v with
    | none => exact hb.elim
    | some u =>
      simp only [bndV] at hb
      cases a <;> simp only [bnd] at hy <;> first | (cases hy; done) | skip
      simp only [Sat] at hb
      obtain ⟨n, hn, rfl⟩ := hb
      cases hy
      exact ⟨n, R.norm hn, .inr ⟨_, rfl⟩⟩
theorem bnds0_sound (R : Rel ro g σ H w) {len : Num} {ln : Nat} (hl : len.den σ = some (ln : Int)) {lo hi : Option AV} {vlo vhi : Option Value}
    (b1 : bndV σ (cNum 0) lo vlo) (b2 : bndV σ len hi vhi) {q : Nat × Num} (h : bnds0 H len lo hi = some q) :
    ∃ h' : Nat, q.2.den σ = some (h' : Int) ∧ q.1 ≤ h' ∧ h' ≤ ln ∧
      ∀ is cp, ln ≤ cp → ∀ w, (Instr.sliceBounds is ln cp vlo vhi none).run P w = .ok (q.1, h', cp) w := by
  unfold bnds0 at h
  split at h
  · rename_i l hh el eh
    obtain ⟨l', dl, cl⟩ := bnd_get R (den_cNum 0) b1 el
    obtain ⟨h', dh, ch⟩ := bnd_get R hl b2 eh
    split at h
    · rename_i hs
      simp only [cond_eq_ite, Bool.and_eq_true, decide_eq_true_eq] at h
      split at h
      · rename_i hc
        obtain ⟨⟨c0, c1⟩, c2⟩ := hc
        have hl' : l' = l.c := by simpa [Num.den, hs] using dl.symm
        subst hl'
        have e1 := R.leB dl dh c1
        have e2 := R.leB dh hl c2
        cases h
        obtain ⟨hN, rfl⟩ := Int.eq_ofNat_of_zero_le (show 0 ≤ h' by omega)
        obtain ⟨lN, hlN⟩ := Int.eq_ofNat_of_zero_le (show 0 ≤ l.c by omega)
        have elN : l.c.toNat = lN := by omega
        have q1 : lN ≤ hN := by omega
        have q2 : hN ≤ ln := by omega
        refine ⟨hN, dh, by dsimp only; omega, q2, fun is cp hcp w => ?_⟩
        rw [elN]
        rw [hlN] at cl
        have z : ((lN : Nat) : Int) = 0 → lN = 0 := by omega
        have q3 : hN ≤ cp := by omega
        rcases ch with ⟨rfl, rfl, hh0⟩ | ⟨kh, rfl⟩ <;> rcases cl with ⟨rfl, rfl, hz⟩ | ⟨kl, rfl⟩
        · have := z hz; subst this
          have e1 : hN = ln := by omega
          subst e1
          simp [Instr.sliceBounds]
        · have e1 : hN = ln := by omega
          subst e1
          simp [Instr.sliceBounds, Instr.sliceBound, asIntOf, q1]
        · have := z hz; subst this
          simp [Instr.sliceBounds, Instr.sliceBound, asIntOf, q1, q3]
        · simp [Instr.sliceBounds, Instr.sliceBound, asIntOf, q1, q3]
      · cases h
    · cases h
  · cases h
end
end
end Go.Proofs.YtgkoghgiclkbhaaGreatDoor.Sx
namespace Go.Proofs.YtgkoghgiclkbhaaGreatDoor.Sx
open Go
noncomputable section
set_option linter.unusedVariables false
set_option linter.unusedSimpArgs false

section
variable {ro : Nat → Bool} {g : Gh} {σ : Env} {H : AH} {w : World} {P : Program}
def subN (x : Num) (n : Nat) : Num := x.addc (-(n : Int))
theorem den_subN {x : Num} {a n : Nat} (h : x.den σ = some (a : Int)) (hle : n ≤ a) : (subN x n).den σ = some ((a - n : Nat) : Int) := by
  unfold subN; rw [Num.den_addc h]; congr 1; omega
def vSlice (P : Program) (H : AH) (t : TypeId) (a : AV) (lo hi mx : Option AV) : Option AV :=
  match P.underlying t, a with
  | some (.array n e), .ptr b off => match tSize P e, H.hp.get b with
    | some sz, some ab => match bnds H (cNum n) (cNum n) lo hi mx with
      | some (l, h, m) => bif Nat.ble (off + n * sz) ab.n then some (.sl b (off + l * sz) sz (subN h l) (subN m l)) else none
      | none => none
    | _, _ => none
  | some (.slice e), .sl b off esz len cap => match tSize P e with
    | some sz => bif decide (sz = esz) then match bnds H (H.norm len) (H.norm cap) lo hi mx with
      | some (l, h, m) => some (.sl b (off + l * sz) sz (subN h l) (subN m l))
      | none => none
      else none
    | none => none
  | some (.slice e), .osl cs len => match tSize P e with
    | some sz => bif decide (sz = cs.length) && mx.isNone then match bnds0 H (H.norm len) lo hi with
      | some (l, h) => some (.osl cs (subN h l))
      | none => none
      else none
    | none => none
  | some .string, .str l => bif mx.isNone && Nat.blt l.length 4611686018427387904 then match bnds0 H (cNum l.length) lo hi with
    | some (k, h) => match h.s with
      | none => some (.str ((l.take h.c.toNat).drop k))
      | some _ => none
    | none => none
    else none
  | _, _ => none
theorem strOf_size (l : List Nat) : (strOf l).size = l.length := by simp [strOf, ByteArray.size]
theorem strOf_extract (l : List Nat) (a b : Nat) : (strOf l).extract a b = strOf ((l.take b).drop a) := by
  apply ByteArray.ext
  simp only [ByteArray.data_extract, strOf]
  apply Array.ext'
  simp [List.extract_eq_take_drop, List.map_drop, List.map_take, List.drop_take]
theorem vSlice_sound (R : Rel ro g σ H w) {t : TypeId} {a b : AV} {u : Value} {lo hi mx : Option AV} {vlo vhi vmx : Option Value} (hu : Sat σ a u)
    (b1 : ∀ d, bndV σ d lo vlo) (b2 : ∀ d, bndV σ d hi vhi) (b3 : ∀ d, bndV σ d mx vmx) (h : vSlice P H t a lo hi mx = some b) :
    ∃ V, Sat σ b V ∧ ∀ w, (Instr.sliceAt t u vlo vhi vmx).run P w = .ok V w := by
  unfold vSlice at h
  split at h
  · rename_i n e bl off hd
    split at h
    · rename_i sz ab hsz hab
      split at h
      · rename_i l hh m hq
        rw [cond_eq_ite] at h
        split at h
        · rename_i hle
          rw [Nat.ble_eq] at hle
          cases h
          obtain ⟨h', m', d1, d2, e1, e2, e3, e4, hrun⟩ := bnds_sound (P := P) R (ln := n) (cp := n) (den_cNum _) (den_cNum _) (b1 _) (b2 _) (b3 _) hq false
          dsimp only at d1 d2 e1 e4 hrun
          simp only [Sat] at hu
          obtain ⟨k, ksz, hk, rfl⟩ := hu
          obtain ⟨k', ksz', hk', c, hcc, hcs, hle', _⟩ := R.blk _ _ hab
          rw [hk] at hk'; cases hk'
          refine ⟨.slice (some ⟨k, off + l * sz, none⟩) (h' - l) (m' - l), ?_, fun w => ?_⟩
          · simp only [Sat]
            refine ⟨k, ksz, h' - l, m' - l, hk, den_subN d1 e1, den_subN d2 (by omega), by omega, ?_, rfl⟩
            have h1 : m' * sz ≤ n * sz := Nat.mul_le_mul_right _ e3
            have h2 : (m' - l) * sz = m' * sz - l * sz := Nat.sub_mul ..
            have h3 : l * sz ≤ m' * sz := Nat.mul_le_mul_right _ (by omega)
            omega
          · have : (if m' = l then (⟨k, off, none⟩ : Addr) else (⟨k, off, none⟩ : Addr).add (l * sz)) = ⟨k, off + l * sz, none⟩ := by
              split
              · rename_i hml
                have : l = 0 := by omega
                subst this; simp
              · exact add_addr ..
            simp [Instr.sliceAt, run_underlying hd, Instr.sureAddr, hrun, run_sizeOf' hsz, this]
        · cases h
      · cases h
    · cases h
  · rename_i e bl off esz len cap hd
    split at h
    · rename_i sz hsz
      rw [cond_eq_ite] at h
      split at h
      · rename_i hes
        simp only [decide_eq_true_eq] at hes
        subst hes
        split at h
        · rename_i l hh m hq
          cases h
          simp only [Sat] at hu
          obtain ⟨k, ksz, ln, cp, hk, dl, dc, hlc, hsz', rfl⟩ := hu
          obtain ⟨h', m', d1, d2, e1, e2, e3, e4, hrun⟩ := bnds_sound (P := P) R (R.norm dl) (R.norm dc) (b1 _) (b2 _) (b3 _) hq true
          dsimp only at d1 d2 e1 e4 hrun
          refine ⟨.slice (some ⟨k, off + l * sz, none⟩) (h' - l) (m' - l), ?_, fun w => ?_⟩
          · simp only [Sat]
            refine ⟨k, ksz, h' - l, m' - l, hk, den_subN d1 e1, den_subN d2 (by omega), by omega, ?_, rfl⟩
            have h1 : m' * sz ≤ cp * sz := Nat.mul_le_mul_right _ e3
            have h2 : (m' - l) * sz = m' * sz - l * sz := Nat.sub_mul ..
            have h3 : l * sz ≤ m' * sz := Nat.mul_le_mul_right _ (by omega)
            omega
          · have : (if m' = l then some (⟨k, off, none⟩ : Addr) else (some (⟨k, off, none⟩ : Addr)).map (·.add (l * sz))) = some ⟨k, off + l * sz, none⟩ := by
              split
              · rename_i hml
                have : l = 0 := by omega
                subst this; simp
              · simp [add_addr]
            simp only [Instr.sliceAt, Sem.run_bind, run_underlying hd, Result.andThen_ok, Instr.slice, hrun, run_sizeOf' hsz, this, Sem.run_pure]
        · cases h
      · cases h
    · cases h
  · rename_i e cs len hd
    split at h
    · rename_i sz hsz
      simp only [cond_eq_ite, Bool.and_eq_true, decide_eq_true_eq] at h
      split at h
      · rename_i hes
        obtain ⟨rfl, hmx⟩ := hes
        have hvmx : vmx = none := by
          cases mx with
          | some x => simp at hmx
          | none => cases vmx with
            | none => rfl
            | some x => exact (b3 len).elim
        subst hvmx
        split at h
        · rename_i l hh hq
          cases h
          simp only [Sat] at hu
          obtain ⟨base, ln, cap, rfl, dl, hlc, hbase⟩ := hu
          obtain ⟨h', d1, e1, e2, hrun⟩ := bnds0_sound (P := P) R (R.norm dl) (b1 _) (b2 _) hq
          dsimp only at d1 e1 hrun
          have hrun' := hrun true cap hlc
          refine ⟨.slice (if cap = l then base else base.map (·.add (l * cs.length))) (h' - l) (cap - l), ?_, fun w => ?_⟩
          · simp only [Sat]
            refine ⟨_, h' - l, cap - l, rfl, den_subN d1 e1, by omega, ?_⟩
            rcases hbase with ⟨rfl, h0⟩ | ⟨bl, off, c, e', fr, rfl, him, hcs, hall⟩
            · left; refine ⟨by split <;> simp, by omega⟩
            · right
              have h1 : h' * cs.length ≤ ln * cs.length := Nat.mul_le_mul_right _ (by omega)
              have h2 : (h' - l) * cs.length = h' * cs.length - l * cs.length := Nat.sub_mul ..
              have h3 : l * cs.length ≤ h' * cs.length := Nat.mul_le_mul_right _ (by omega)
              by_cases hcl : cap = l
              · refine ⟨bl, off, c, e', fr, by simp [hcl], him, ?_, fun j x hj hx => ?_⟩
                · have : h' - l = 0 := by omega
                  rw [this]; omega
                · have : h' - l = 0 := by omega
                  rw [this] at hj; omega
              · refine ⟨bl, off + l * cs.length, c, e', fr, by simp [hcl, add_addr], him, by omega, fun j x hj hx => ?_⟩
                have := hall (l * cs.length + j) x (by omega) (by rw [← Nat.add_assoc]; exact hx)
                rw [Nat.mul_comm l, Nat.mul_add_mod] at this
                exact this
          · simp only [Instr.sliceAt, Sem.run_bind, run_underlying hd, Result.andThen_ok, Instr.slice, hrun', run_sizeOf' hsz, Sem.run_pure]
        · cases h
      · cases h
    · cases h
  · rename_i l' hd
    simp only [cond_eq_ite, Bool.and_eq_true, Nat.blt_eq] at h
    split at h
    · rename_i hc
      have hvmx : vmx = none := by
        cases mx with
        | some x => simp at hc
        | none => cases vmx with
          | none => rfl
          | some x => exact (b3 (cNum 0)).elim
      subst hvmx
      split at h
      · rename_i l hh hq
        split at h
        · rename_i hs
          cases h
          simp only [Sat] at hu
          subst hu
          obtain ⟨h', d1, e1, e2, hrun⟩ := bnds0_sound (P := P) R (ln := l'.length) (den_cNum _) (b1 _) (b2 _) hq
          dsimp only at d1 e1 hrun
          have hh' : hh.c.toNat = h' := by
            simp only [Num.den, hs, Option.some.injEq] at d1
            omega
          refine ⟨.string (strOf ((l'.take h').drop l)), by rw [hh']; simp only [Sat], fun w => ?_⟩
          simp only [Instr.sliceAt, Sem.run_bind, run_underlying hd, Result.andThen_ok, Instr.slice, strOf_size, Option.isSome_none, Bool.false_eq_true, if_false, hrun false _ (Nat.le_refl _), strOf_extract, Sem.run_pure]
        · cases h
      · cases h
    · cases h
  · cases h
end
end
end Go.Proofs.YtgkoghgiclkbhaaGreatDoor.Sx
namespace Go.Proofs.YtgkoghgiclkbhaaGreatDoor.Sx
open Go
noncomputable section
set_option linter.unusedVariables false
set_option linter.unusedSimpArgs false

section
variable {ro : Nat → Bool} {g : Gh} {σ : Env} {H : AH} {w : World} {P : Program}
def vLen (P : Program) (H : AH) (t : TypeId) (a : AV) : Option Num :=
  match P.underlying t, a with
  | some .string, .str l => some (cNum l.length)
  | some (.array n _), _ => some (cNum n)
  | some (.slice _), .sl _ _ _ len _ => some (H.norm len)
  | some (.slice _), .osl _ len => some (H.norm len)
  | some (.slice _), .lit (.slice none n _) => some (cNum n)
  | _, _ => none
theorem vLen_sound (R : Rel ro g σ H w) {t ty : TypeId} {a : AV} {u : Value} (hu : Sat σ a u) {x : Num} (h : vLen P H t a = some x) :
    ∃ n : Int, x.den σ = some n ∧ ∀ w, (Builtin.len_ #[t] ty #[u]).run P w = .ok (.int .i64 n) w := by
  unfold vLen at h
  split at h
  · rename_i hd
    cases h
    simp only [Sat] at hu; subst hu
    exact ⟨_, den_cNum _, fun w => by simp [Builtin.len_, run_underlying hd, goInt, strOf_size]⟩
  · rename_i hd
    cases h
    exact ⟨_, den_cNum _, fun w => by simp [Builtin.len_, run_underlying hd, goInt]⟩
  · rename_i hd
    cases h
    simp only [Sat] at hu
    obtain ⟨n, sz, l, c, _, hl, _, _, _, rfl⟩ := hu
    exact ⟨_, R.norm hl, fun w => by simp [Builtin.len_, run_underlying hd, goInt]⟩
  · rename_i hd
    cases h
    simp only [Sat] at hu
    obtain ⟨base, l, c, rfl, hl, _⟩ := hu
    exact ⟨_, R.norm hl, fun w => by simp [Builtin.len_, run_underlying hd, goInt]⟩
  · rename_i hd
    cases h
    simp only [Sat] at hu; subst hu
    exact ⟨_, den_cNum _, fun w => by simp [Builtin.len_, run_underlying hd, goInt]⟩
  · cases h
def vCap (P : Program) (H : AH) (t : TypeId) (a : AV) : Option Num :=
  match P.underlying t, a with
  | some (.slice _), .sl _ _ _ _ cap => some (H.norm cap)
  | some (.slice _), .lit (.slice none _ c) => some (cNum c)
  | _, _ => none
theorem vCap_sound (R : Rel ro g σ H w) {t ty : TypeId} {a : AV} {u : Value} (hu : Sat σ a u) {x : Num} (h : vCap P H t a = some x) :
    ∃ n : Int, x.den σ = some n ∧ ∀ w, (Builtin.cap_ #[t] ty #[u]).run P w = .ok (.int .i64 n) w := by
  unfold vCap at h
  split at h
  · rename_i hd
    cases h
    simp only [Sat] at hu
    obtain ⟨n, sz, l, c, _, _, hc, _, _, rfl⟩ := hu
    exact ⟨_, R.norm hc, fun w => by simp [Builtin.cap_, run_underlying hd, goInt]⟩
  · rename_i hd
    cases h
    simp only [Sat] at hu; subst hu
    exact ⟨_, den_cNum _, fun w => by simp [Builtin.cap_, run_underlying hd, goInt]⟩
  · cases h
/-- The less of two, or the greater. -/
def vPick2 (H : AH) (mn : Bool) (x y : Num) : Option (AH × Num) :=
  match H.range x, H.range y with
  | some (a, b), some (c, d) =>
    bif decide (b ≤ c) then some (H, bif mn then x else y)
    else bif decide (d ≤ a) then some (H, bif mn then y else x)
    else some (H.fresh (bif mn then min a c else max a c) (bif mn then min b d else max b d), ⟨some H.nn, 0⟩)
  | _, _ => none
theorem vPick2_sound (R : Rel ro g σ H w) {mn : Bool} {x y : Num} {n m : Int} (hx : x.den σ = some n) (hy : y.den σ = some m) {p : AH × Num} (h : vPick2 H mn x y = some p) :
    ∃ σ', σ.le σ' ∧ Rel ro g σ' p.1 w ∧ p.2.den σ' = some (bif mn then min n m else max n m) := by
  unfold vPick2 at h
  split at h
  · rename_i a b c d h1 h2
    have q1 := R.range hx h1
    have q2 := R.range hy h2
    by_cases hc : b ≤ c
    · simp only [hc, decide_true, cond_true, Option.some.injEq] at h
      subst h
      refine ⟨σ, .refl σ, R, ?_⟩
      cases mn
      · simp only [cond_false]; rw [hy]; congr 1; omega
      · simp only [cond_true]; rw [hx]; congr 1; omega
    by_cases hc2 : d ≤ a
    · simp only [hc, hc2, decide_true, decide_false, cond_true, cond_false, Option.some.injEq] at h
      subst h
      refine ⟨σ, .refl σ, R, ?_⟩
      cases mn
      · simp only [cond_false]; rw [hx]; congr 1; omega
      · simp only [cond_true]; rw [hy]; congr 1; omega
    simp only [hc, hc2, decide_false, cond_false] at h
    · cases h
      refine ⟨σ.more (bif mn then min n m else max n m), σ.le_more _, R.fresh ?_ ?_, R.fresh_den _⟩
      · cases mn <;> simp <;> omega
      · cases mn <;> simp <;> omega
  · cases h
def findMm (mn : Bool) (x y : Num) : List Fx → Option Num
  | [] => none
  | .mm mn' x' y' r :: l => bif decide (mn' = mn) && decide (x' = x) && decide (y' = y) then some r else findMm mn x y l
  | _ :: l => findMm mn x y l
theorem findMm_mem {mn : Bool} {x y r : Num} : ∀ {l : List Fx}, findMm mn x y l = some r → Fx.mm mn x y r ∈ l
  | [], h => by simp [findMm] at h
  | f :: l, h => by
    cases f <;> simp only [findMm] at h <;> first | exact List.mem_cons_of_mem _ (findMm_mem h) | skip
    simp only [cond_eq_ite, Bool.and_eq_true, decide_eq_true_eq] at h
    split at h
    · rename_i hc; obtain ⟨⟨rfl, rfl⟩, rfl⟩ := hc; cases h; exact List.mem_cons_self ..
    · exact List.mem_cons_of_mem _ (findMm_mem h)
def vPickX (H : AH) (mn : Bool) (x y : Num) : Option (AH × Num) :=
  bif H.fm then
    match findMm mn x y H.fx with
    | some r => some (H, r)
    | none => match vPick2 H mn x y with
      | some p => some (p.1.addFx (.mm mn x y p.2), p.2)
      | none => none
  else vPick2 H mn x y
theorem vPickX_sound (R : Rel ro g σ H w) {mn : Bool} {x y : Num} {n m : Int} (hx : x.den σ = some n) (hy : y.den σ = some m) {p : AH × Num} (h : vPickX H mn x y = some p) :
    ∃ σ', σ.le σ' ∧ Rel ro g σ' p.1 w ∧ p.2.den σ' = some (bif mn then min n m else max n m) := by
  unfold vPickX at h
  rw [cond_eq_ite] at h
  split at h
  · split at h
    · rename_i r hr
      cases h
      obtain ⟨a, b, h1, h2, h3⟩ := R.fx _ (findMm_mem hr)
      rw [hx] at h1; rw [hy] at h2; cases h1; cases h2
      exact ⟨σ, .refl σ, R, h3⟩
    · split at h
      · rename_i q hq
        cases h
        obtain ⟨σ', h1, h2, h3⟩ := vPick2_sound R hx hy hq
        exact ⟨σ', h1, h2.addFx ⟨n, m, Num.den_mono h1 hx, Num.den_mono h1 hy, h3⟩, h3⟩
      · cases h
  · exact vPick2_sound R hx hy h
def vBuiltin (P : Program) (H : AH) (b : Builtin) (tys : List TypeId) (args : List AV) : Option (List (AH × AV)) :=
  match b, tys, args with
  | .len, [t], [a] => match vLen P H t a with
    | some x => some [(H, .int .i64 x)]
    | none => none
  | .cap, [t], [a] => match vCap P H t a with
    | some x => some [(H, .int .i64 x)]
    | none => none
  | .min, _, [.int k x, .int _ y] => match vPickX H true (H.norm x) (H.norm y) with
    | some p => some [(p.1, .int k p.2)]
    | none => none
  | .max, _, [.int k x, .int _ y] => match vPickX H false (H.norm x) (H.norm y) with
    | some p => some [(p.1, .int k p.2)]
    | none => none
  | _, _, _ => none
theorem arr_eq {α : Type} {a : Array α} {l : List α} (h : a.toList = l) : a = ⟨l⟩ := by cases a; simp_all
theorem vBuiltin_sound (R : Rel ro g σ H w) {b : Builtin} {tys : Array TypeId} {ty : TypeId} {args : List AV} {vs : Array Value} (hs : SatL σ args vs.toList)
    {outs : List (AH × AV)} (h : vBuiltin P H b tys.toList args = some outs) :
    ∃ p ∈ outs, ∃ σ' V, σ.le σ' ∧ Rel ro g σ' p.1 w ∧ Sat σ' p.2 V ∧ ∀ cs w', (builtin b tys ty cs vs).run P w' = .ok (.value V) w' := by
  have one : ∀ {l : List AV} {a : AV}, SatL σ [a] vs.toList → ∃ v, vs = #[v] ∧ Sat σ a v := by
    intro l a h
    simp only [SatL] at h
    obtain ⟨v, vs', e, h1, rfl⟩ := h
    exact ⟨v, arr_eq e, h1⟩
  have two : ∀ {a b : AV}, SatL σ [a, b] vs.toList → ∃ u v, vs = #[u, v] ∧ Sat σ a u ∧ Sat σ b v := by
    intro a b h
    simp only [SatL] at h
    obtain ⟨v, vs', e, h1, u, vs'', rfl, h2, rfl⟩ := h
    exact ⟨v, u, arr_eq e, h1, h2⟩
  unfold vBuiltin at h
  split at h
  · rename_i t a ht
    split at h
    · rename_i x hx
      cases h
      obtain ⟨v, rfl, hv⟩ := one (l := []) hs
      obtain ⟨n, h1, h2⟩ := vLen_sound (ty := ty) R hv hx
      exact ⟨_, List.mem_singleton.2 rfl, σ, _, .refl σ, R, sat_int h1, fun cs w' => by rw [arr_eq ht]; simp [builtin, h2]⟩
    · cases h
  · rename_i t a ht
    split at h
    · rename_i x hx
      cases h
      obtain ⟨v, rfl, hv⟩ := one (l := []) hs
      obtain ⟨n, h1, h2⟩ := vCap_sound (ty := ty) R hv hx
      exact ⟨_, List.mem_singleton.2 rfl, σ, _, .refl σ, R, sat_int h1, fun cs w' => by rw [arr_eq ht]; simp [builtin, h2]⟩
    · cases h
  · split at h
    · rename_i p hp
      cases h
      obtain ⟨u, v, rfl, h1, h2⟩ := two hs
      simp only [Sat] at h1 h2
      obtain ⟨n, hn, rfl⟩ := h1
      obtain ⟨m, hm, rfl⟩ := h2
      obtain ⟨σ', e1, e2, e3⟩ := vPickX_sound R (R.norm hn) (R.norm hm) hp
      refine ⟨_, List.mem_singleton.2 rfl, σ', _, e1, e2, sat_int e3, fun cs w' => ?_⟩
      have : (if m < n then m else n) = min n m := by split <;> omega
      simp [builtin, Builtin.min_, Builtin.min2]; split <;> omega
    · cases h
  · split at h
    · rename_i p hp
      cases h
      obtain ⟨u, v, rfl, h1, h2⟩ := two hs
      simp only [Sat] at h1 h2
      obtain ⟨n, hn, rfl⟩ := h1
      obtain ⟨m, hm, rfl⟩ := h2
      obtain ⟨σ', e1, e2, e3⟩ := vPickX_sound R (R.norm hn) (R.norm hm) hp
      refine ⟨_, List.mem_singleton.2 rfl, σ', _, e1, e2, sat_int e3, fun cs w' => ?_⟩
      have : (if n < m then m else n) = max n m := by split <;> omega
      simp [builtin, Builtin.max_, Builtin.max2]; split <;> omega
    · cases h
  · cases h
/-! a function for which the model stands in: where a byte stands first in a string -/
theorem find_ibs (fn : Func) (h : fn.name = "internal/bytealg.IndexByteString") : Extern.find fn = some Extern.BytealgIndexByte.indexByte := by
  unfold Extern.find
  simp only [h]
  have : Extern.allRows.lookup "internal/bytealg.IndexByteString" = some Extern.BytealgIndexByte.indexByte := by kernel_rfl
  have h2 : (Extern.allGenericRows.lookup "internal/bytealg.IndexByteString").isNone = true := by kernel_rfl
  have h3 : (Extern.allTypedRows.lookup "internal/bytealg.IndexByteString").isNone = true := by kernel_rfl
  rw [Option.isNone_iff_eq_none] at h2 h3
  simp [this, h2, h3]
theorem findNext_ibs (fn : Func) (h : fn.name = "internal/bytealg.IndexByteString") (ho : fn.origin = "") : Extern.findNext fn = none := by
  unfold Extern.findNext
  simp only [h, ho]
  have h2 : (Extern.allNextRows.lookup "internal/bytealg.IndexByteString").isNone = true := by kernel_rfl
  have h3 : (Extern.allNextRows.lookup "").isNone = true := by kernel_rfl
  rw [Option.isNone_iff_eq_none] at h2 h3
  simp [h2, h3]
/-- Where it stands first, behind i others. -/
def firstN (c : Nat) : List Nat → Nat → Int
  | [], _ => -1
  | a :: l, i => bif Nat.beq (a % 256) c then (i : Int) else firstN c l (i + 1)
theorem firstN_find (c : Nat) (hc : c < 256) : ∀ (l : List Nat) (i : Nat) (pre : List Nat), pre.length = i →
    (match (List.range' i l.length).find? (fun j => (strOf (pre ++ l))[j]! == UInt8.ofNat c) with | some j => (j : Int) | none => -1) = firstN c l i
  | [], i, pre, hp => by simp [firstN]
  | a :: l, i, pre, hp => by
    have hget : (strOf (pre ++ a :: l))[i]! = UInt8.ofNat a := by
      have hlt : i < (strOf (pre ++ a :: l)).size := by
        show i < (List.map UInt8.ofNat (pre ++ a :: l)).length
        simp; omega
      rw [getElem!_pos (strOf (pre ++ a :: l)) i hlt]
      show ((List.map UInt8.ofNat (pre ++ a :: l)).toArray)[i]'(by simp; omega) = _
      simp [hp]
    have hb : (UInt8.ofNat a == UInt8.ofNat c) = Nat.beq (a % 256) c := by
      rw [Bool.eq_iff_iff, beq_iff_eq, Nat.beq_eq]
      constructor
      · intro h
        have := congrArg UInt8.toNat h
        simp [UInt8.toNat_ofNat'] at this
        omega
      · intro h
        apply UInt8.toNat_inj.1
        simp [UInt8.toNat_ofNat']
        omega
    simp only [List.length_cons, List.range'_succ, List.find?_cons, hget, hb, firstN]
    cases Nat.beq (a % 256) c with
    | true => rfl
    | false =>
      simp only [cond_false]
      have := firstN_find c hc l (i + 1) (pre ++ [a]) (by simp [hp])
      rwa [List.append_assoc] at this
theorem firstIdx_str (l : List Nat) (c : Nat) (hc : c < 256) : firstIdx (strOf l) (UInt8.ofNat c) = firstN c l 0 := by
  have := firstN_find c hc l 0 [] rfl
  unfold firstIdx
  rw [← this, List.range_eq_range']
  have : (strOf l).size = l.length := strOf_size l
  rw [this]
  rfl
def vExt (P : Program) (H : AH) (f : AV) (args : List AV) : Option (List (AH × AV)) :=
  match f with
  | .fn k [] => (match P.funcs[k]? with
    | some fn => (match fn.body with
      | some _ => none
      | none => (match args with
        | [.str l, .int .u8 ⟨none, .ofNat c⟩] => bif fn.name == "internal/bytealg.IndexByteString" && fn.origin == "" && Nat.blt c 256 then some [(H, .int .i64 ⟨none, firstN c l 0⟩)] else none
        | _ => none))
    | none => none)
  | _ => none
theorem vExt_sound (R : Rel ro g σ H w) {f : AV} {fv : Value} (hf : Sat σ f fv) {args : List AV} {vs : Array Value} (hs : SatL σ args vs.toList) {outs : List (AH × AV)} (h : vExt P H f args = some outs) :
    ∃ p ∈ outs, ∃ σ' V k, σ.le σ' ∧ Rel ro g σ' p.1 w ∧ Sat σ' p.2 V ∧ fv = .func (.func k) #[] #[] ∧ ∀ w', (callFunc k vs).run P w' = .ok (.value V) w' := by
  unfold vExt at h
  split at h
  · rename_i k
    split at h
    · rename_i fn hfn
      split at h
      · cases h
      · rename_i hb
        split at h
        · rename_i l c
          simp only [cond_eq_ite, Bool.and_eq_true, beq_iff_eq, Nat.blt_eq] at h
          split at h
          · rename_i hc
            obtain ⟨⟨hn, ho⟩, hc⟩ := hc
            cases h
            simp only [SatL, Sat] at hs hf
            obtain ⟨v1, r1, e1, rfl, v2, r2, rfl, ⟨n, hn2, rfl⟩, rfl⟩ := hs
            obtain ⟨us, rfl, rfl⟩ := hf
            simp only [Num.den, Option.some.injEq] at hn2
            subst hn2
            refine ⟨_, List.mem_singleton.2 rfl, σ, .int .i64 (firstN c l 0), k, .refl σ, R, by simp only [Sat]; exact ⟨_, rfl, rfl⟩, rfl, fun w' => ?_⟩
            rw [arr_eq e1]
            rw [run_callFunc_extern hfn (by rw [hn]; rfl) (by simp [hb]) (findNext_ibs fn hn ho) (find_ibs fn hn)]
            have := run_indexByte_string (P := P) (strOf l) (c : Int) w'
            have e2 : ((c : Int).toNat.toUInt8) = UInt8.ofNat c := rfl
            rw [e2, firstIdx_str l c hc] at this
            have this : (Extern.BytealgIndexByte.indexByte #[.string (strOf l), .int .u8 (Int.ofNat c)]).run P w' = .ok (.int .i64 (firstN c l 0)) w' := this
            rw [this]; rfl
          · cases h
        · cases h
    · cases h
  · cases h
def optV (F : Tr AV) : Option Operand → Option AV
  | none => none
  | some x => some (aeval F x)
/-- What an operation that looks at no memory leaves; none: it is none of those, or the walk knows too little. -/
def pureV (P : Program) (H : AH) (F : Tr AV) : Op → Option (List (AH × AV))
  | .move x => some [(H, aeval F x)]
  | .assign x => some [(H, aeval F x)]
  | .pick c a b => match aeval F c with
    | .bool e => some ((forkB H e).map fun p => (p.1, bif p.2 then aeval F a else aeval F b))
    | _ => none
  | .nilCheck x => bif vNilCheck (aeval F x) then some [(H, aeval F x)] else none
  | .fieldAddr s x f => match vFieldAddr P s (aeval F x) f with
    | some b => some [(H, b)]
    | none => none
  | .field s x f => match vField P s (aeval F x) f with
    | some b => some [(H, b)]
    | none => none
  | .extract x i => match vExtract (aeval F x) i with
    | some b => some [(H, b)]
    | none => none
  | .binOp op t x y _ => vBin P H op t x y (aeval F x) (aeval F y)
  | .unOp op _ x => vUn H op (aeval F x)
  | .convert s d x => vConv P H s d (aeval F x)
  | .makeInterface t x => bif P.concrete t then some [(H, .ifc t (aeval F x))] else none
  | .makeFunc (.func f) first caps => bif first.toList.isEmpty then some [(H, .fn f (caps.toList.map (aeval F)))] else none
  | .build t parts => match vBuild P t (parts.toList.map fun p => (p.1, aeval F p.2)) with
    | some b => some [(H, b)]
    | none => none
  | .index t x i => vIndex P H t (aeval F x) (aeval F i)
  | .indexAddr t x i => match vIndexAddr P H t (aeval F x) (aeval F i) with
    | some b => some [(H, b)]
    | none => none
  | .slice t x lo hi mx => match vSlice P H t (aeval F x) (optV F lo) (optV F hi) (optV F mx) with
    | some b => some [(H, b)]
    | none => none
  | .call c => match c.callee with
    | .builtin b => vBuiltin P H b c.argTypes.toList (c.args.toList.map (aeval F))
    | .value f => vExt P H (aeval F f) (c.args.toList.map (aeval F))
    | _ => none
  | _ => none
theorem satL_map {F : Tr AV} {a : Act} (hf : FrOk σ F a) : ∀ l : List Operand, SatL σ (l.map (aeval F)) (l.map a.eval)
  | [] => by simp [SatL]
  | x :: l => by simp only [List.map_cons, SatL]; exact ⟨_, _, rfl, sat_aeval hf x, satL_map hf l⟩
theorem bndV_opt {F : Tr AV} {a : Act} (hf : FrOk σ F a) (x : Option Operand) (d : Num) : bndV σ d (optV F x) (x.map a.eval) := by
  cases x with
  | none => simp [bndV, optV]
  | some x => simp only [bndV, optV, Option.map_some]; exact sat_aeval hf x
theorem pureV_sound (R : Rel ro g σ H w) {F : Tr AV} {a : Act} (hf : FrOk σ F a) {o : Oper} {outs : List (AH × AV)} (h : pureV P H F o.op = some outs) :
    ∃ p ∈ outs, ∃ σ' V, σ.le σ' ∧ Rel ro g σ' p.1 w ∧ Sat σ' p.2 V ∧ ∀ w', (execOp a.eval o).run P w' = .ok (.value V) w' := by
  have same : ∀ {b : AV} {s : Sem Value}, (∃ V, Sat σ b V ∧ ∀ w, s.run P w = .ok V w) → (∀ w', (execOp a.eval o).run P w' = (s.run P w').andThen fun v w => .ok (.value v) w) →
      ∃ p ∈ [(H, b)], ∃ σ' V, σ.le σ' ∧ Rel ro g σ' p.1 w ∧ Sat σ' p.2 V ∧ ∀ w', (execOp a.eval o).run P w' = .ok (.value V) w' := by
    rintro b s ⟨V, h1, h2⟩ he
    exact ⟨_, List.mem_singleton.2 rfl, σ, V, .refl σ, R, h1, fun w' => by rw [he, h2]; rfl⟩
  have yld : ∀ {outs} {s : Sem Value}, Yld ro g σ w P s outs → (∀ w', (execOp a.eval o).run P w' = (s.run P w').andThen fun v w => .ok (.value v) w) →
      ∃ p ∈ outs, ∃ σ' V, σ.le σ' ∧ Rel ro g σ' p.1 w ∧ Sat σ' p.2 V ∧ ∀ w', (execOp a.eval o).run P w' = .ok (.value V) w' := by
    rintro outs s ⟨p, hp, σ', V, h1, h2, h3, h4⟩ he
    exact ⟨p, hp, σ', V, h1, h2, h3, fun w' => by rw [he, h4]; rfl⟩
  unfold pureV at h
  split at h
  · rename_i x ho
    cases h
    exact ⟨_, List.mem_singleton.2 rfl, σ, _, .refl σ, R, sat_aeval hf x, fun w' => by simp [execOp, ho]⟩
  · rename_i x ho
    cases h
    exact ⟨_, List.mem_singleton.2 rfl, σ, _, .refl σ, R, sat_aeval hf x, fun w' => by simp [execOp, ho]⟩
  · rename_i c x y ho
    split at h
    · rename_i e he
      cases h
      have hc := sat_aeval hf c
      rw [he] at hc
      simp only [Sat] at hc
      obtain ⟨b, hb, hcb⟩ := hc
      obtain ⟨H', hm, _, R'⟩ := R.forkB hb
      refine ⟨_, List.mem_map.2 ⟨_, hm, rfl⟩, σ, (bif b then a.eval x else a.eval y), .refl σ, R', ?_, fun w' => ?_⟩
      · cases b
        · exact sat_aeval hf y
        · exact sat_aeval hf x
      · cases b <;> simp [execOp, ho, hcb, asBool]
    · cases h
  · rename_i x ho
    rw [cond_eq_ite] at h
    split at h
    · rename_i hn
      cases h
      have hx := sat_aeval hf x
      refine ⟨_, List.mem_singleton.2 rfl, σ, _, .refl σ, R, hx, fun w' => ?_⟩
      revert hx hn
      generalize aeval F x = av
      intro hn hx
      unfold vNilCheck at hn
      split at hn <;> first | (cases hn; done) | skip
      all_goals simp only [Sat] at hx
      · obtain ⟨n, sz, _, hv⟩ := hx; simp [execOp, ho, hv]
      · obtain ⟨n, sz, k, _, _, _, hv⟩ := hx; simp [execOp, ho, hv]
      · obtain ⟨_, _, _, _, _, hv, _⟩ := hx; simp [execOp, ho, hv]
      · obtain ⟨_, hv, _⟩ := hx; simp [execOp, ho, hv]
      · obtain ⟨_, hv, _⟩ := hx; simp [execOp, ho, hv]
    · cases h
  · rename_i s x f ho
    split at h
    · rename_i b hb; cases h
      exact same (vFieldAddr_sound (sat_aeval hf x) hb) (fun w' => by simp [execOp, ho])
    · cases h
  · rename_i s x f ho
    split at h
    · rename_i b hb; cases h
      exact same (vField_sound (sat_aeval hf x) hb) (fun w' => by simp [execOp, ho])
    · cases h
  · rename_i x f ho
    split at h
    · rename_i b hb; cases h
      exact same (vExtract_sound (sat_aeval hf x) hb) (fun w' => by simp [execOp, ho])
    · cases h
  · rename_i op t x y yt ho
    exact yld (vBin_sound R (sat_aeval hf x) (sat_aeval hf y) h) (fun w' => by
      simp [execOp, ho]
      generalize (eqGuard op t x y (a.eval x) (a.eval y)).run P w' = r
      cases r <;> simp)
  · rename_i op t x ho
    exact yld (vUn_sound R (sat_aeval hf x) h) (fun w' => by simp [execOp, ho])
  · rename_i s d x ho
    exact yld (vConv_sound R (sat_aeval hf x) h) (fun w' => by simp [execOp, ho])
  · rename_i t x ho
    rw [cond_eq_ite] at h
    split at h
    · rename_i hc
      cases h
      refine same (s := Instr.makeInterface t (a.eval x)) ⟨.iface t (a.eval x), ?_, fun w => run_makeInterface w t _ hc⟩ (fun w' => by simp [execOp, ho])
      simp only [Sat]; exact ⟨_, rfl, sat_aeval hf x⟩
    · cases h
  · rename_i f first caps ho
    rw [cond_eq_ite] at h
    split at h
    · rename_i hc
      cases h
      have hfirst : first = #[] := by
        have : first.toList = [] := by simpa using hc
        exact arr_eq this
      subst hfirst
      refine ⟨_, List.mem_singleton.2 rfl, σ, .func (.func f) #[] (caps.map a.eval), .refl σ, R, ?_, fun w' => by simp [execOp, ho, Instr.makeFunc]⟩
      simp only [Sat]
      exact ⟨(caps.toList.map a.eval), by rw [← Array.toList_map], satL_map hf _⟩
    · cases h
  · rename_i t parts ho
    split at h
    · rename_i b hb; cases h
      refine same (s := Instr.build t (parts.map fun (i, x) => (i, a.eval x))) (vBuild_sound hb (by simp) ?_) (fun w' => by simp [execOp, ho])
      intro j p q hp hq
      simp only [List.getElem?_map, Option.map_eq_some_iff] at hp
      obtain ⟨z, hz, rfl⟩ := hp
      simp only [Array.toList_map, List.getElem?_map, hz, Option.map_some, Option.some.injEq] at hq
      subst hq
      exact ⟨rfl, sat_aeval hf z.2⟩
    · cases h
  · rename_i t x i ho
    exact yld (vIndex_sound R (sat_aeval hf x) (sat_aeval hf i) h) (fun w' => by simp [execOp, ho])
  · rename_i t x i ho
    split at h
    · rename_i b hb; cases h
      exact same (vIndexAddr_sound R (sat_aeval hf x) (sat_aeval hf i) hb) (fun w' => by simp [execOp, ho])
    · cases h
  · rename_i t x lo hi mx ho
    split at h
    · rename_i b hb; cases h
      exact same (vSlice_sound R (sat_aeval hf x) (fun d => bndV_opt hf lo d) (fun d => bndV_opt hf hi d) (fun d => bndV_opt hf mx d) hb) (fun w' => by simp [execOp, ho])
    · cases h
  · rename_i c ho
    split at h
    · rename_i b hb
      have hargs : SatL σ (c.args.toList.map (aeval F)) (c.args.map a.eval).toList := by rw [Array.toList_map]; exact satL_map hf _
      obtain ⟨p, hp, σ', V, h1, h2, h3, h4⟩ := vBuiltin_sound (ty := o.type) R hargs h
      exact ⟨p, hp, σ', V, h1, h2, h3, fun w' => by simp [execOp, ho, resolve, hb, invoke, h4]⟩
    · rename_i fo hfo
      have hargs : SatL σ (c.args.toList.map (aeval F)) (c.args.map a.eval).toList := by rw [Array.toList_map]; exact satL_map hf _
      obtain ⟨p, hp, σ', V, k, h1, h2, h3, h4, h5⟩ := vExt_sound R (sat_aeval hf fo) hargs h
      exact ⟨p, hp, σ', V, h1, h2, h3, fun w' => by simp [execOp, ho, resolve, hfo, h4, Deferred.ofValue, invoke, h5]⟩
    · cases h
  · cases h
end
end
end Go.Proofs.YtgkoghgiclkbhaaGreatDoor.Sx
namespace Go.Proofs.YtgkoghgiclkbhaaGreatDoor.Sx
open Go
noncomputable section
set_option linter.unusedVariables false
set_option linter.unusedSimpArgs false

/-! cells laid in a map -/
def setL {α : Type} (t : Tr α) (off : Nat) : List α → Tr α
  | [] => t
  | a :: l => setL (t.set off (some a)) (off + 1) l
theorem get_setL {α : Type} : ∀ (l : List α) (t : Tr α) (off j : Nat), off + l.length + 2 ≤ 1099511627776 →
    (setL t off l).get j = if off ≤ j ∧ j < off + l.length then l[j - off]? else t.get j
  | [], t, off, j, h => by
    have : ¬ (off ≤ j ∧ j < off + 0) := by omega
    simp [setL]; intro h1 h2; omega
  | a :: l, t, off, j, h => by
    simp only [List.length_cons] at h
    simp only [setL, get_setL l _ (off + 1) j (by omega), Tr.get_set _ _ _ _ (show off + 2 ≤ 1099511627776 by omega), List.length_cons]
    by_cases h1 : off + 1 ≤ j ∧ j < off + 1 + l.length
    · have h2 : off ≤ j ∧ j < off + (l.length + 1) := by omega
      rw [if_pos h1, if_pos h2]
      have : j - off = (j - (off + 1)) + 1 := by omega
      rw [this]; rfl
    · rw [if_neg h1]
      by_cases hj : j = off
      · subst hj
        have h2 : j ≤ j ∧ j < j + (l.length + 1) := by omega
        rw [if_pos h2]; simp
      · have h2 : ¬ (off ≤ j ∧ j < off + (l.length + 1)) := by omega
        rw [if_neg h2, if_neg hj]
def small (n : Nat) : Bool := Nat.ble (n + 2) 1099511627776

section
variable {ro : Nat → Bool} {g : Gh} {σ : Env} {H : AH} {w : World} {P : Program}
theorem Rel.blk_lt (R : Rel ro g σ H w) {b : Nat} {ab : AB} (h : H.hp.get b = some ab) {n sz : Nat} (hb : σ.b[b]? = some (some (n, sz))) : n < w.heap.size := by
  obtain ⟨n', sz', h1, c, h2, _⟩ := R.blk b ab h
  rw [hb] at h1; cases h1
  exact (Array.getElem?_eq_some_iff.1 h2).1
theorem Rel.imm_lt (R : Rel ro g σ H w) {m : Nat} {o : Obj} (h : σ.imm m = some o) : m < w.heap.size :=
  (Array.getElem?_eq_some_iff.1 (R.imm m o h)).1

/-! a block made -/
def AH.alloc (H : AH) (ab : AB) : AH := { H with hp := H.hp.set H.nb (some ab), nb := H.nb + 1 }
def Env.withB (σ : Env) (n sz : Nat) : Env := { σ with b := σ.b ++ [some (n, sz)] }
theorem Env.le_withB (σ : Env) (n sz : Nat) : σ.le (σ.withB n sz) := ⟨List.prefix_refl _, List.prefix_append _ _, fun _ _ h => h⟩
theorem Rel.alloc (R : Rel ro g σ H w) {w' : World} {ab : AB} {c : Array Value} (hw : w'.heap = w.heap.push (.cells c ab.e (0, 0))) (hn : ab.n ≤ c.size)
    (hc : ∀ j v, c[j]? = some v → CellOk (σ.withB w.heap.size c.size) ab j v) (hos : w'.os = w.os := by rfl) (hout : w'.output = w.output := by rfl) :
    Rel ro g (σ.withB w.heap.size c.size) (H.alloc ab) w' ∧ (σ.withB w.heap.size c.size).b[H.nb]? = some (some (w.heap.size, c.size)) := by
  have hle := σ.le_withB w.heap.size c.size
  have hnew : (σ.withB w.heap.size c.size).b[H.nb]? = some (some (w.heap.size, c.size)) := by simp [Env.withB, ← R.blen]
  have hold : ∀ b, b ≠ H.nb → ∀ q, (σ.withB w.heap.size c.size).b[b]? = some q → σ.b[b]? = some q := by
    intro b hb q hq
    simp only [Env.withB] at hq
    by_cases hlt : b < σ.b.length
    · rwa [List.getElem?_append_left hlt] at hq
    · have : b ≠ σ.b.length := by rw [R.blen]; exact hb
      rw [List.getElem?_eq_none (by simp; omega)] at hq; cases hq
  have hkeep : ∀ m, m < w.heap.size → w'.heap[m]? = w.heap[m]? := by
    intro m hm; rw [hw, Array.getElem?_push]; simp; intro h; omega
  have hsz : w'.heap.size = w.heap.size + 1 := by rw [hw]; simp
  refine ⟨⟨R.nlen, R.rng, ?_, by simp [Env.withB, AH.alloc, R.blen], ?_, ?_, ?_, ?_, ?_, ?_, ?_, ?_, R.immo, fun f hf => ((R.fx f hf).mono hle (.inr (.same rfl))).heap hkeep⟩, hnew⟩
  · intro p hp
    obtain ⟨a, b, h3, h4, h5⟩ := R.lts p hp
    exact ⟨a, b, Num.den_mono hle h3, Num.den_mono hle h4, h5⟩
  · intro b ab' hb
    rcases Tr.get_set_some hb with ⟨rfl, h⟩ | ⟨hne, h⟩
    · cases h
      refine ⟨w.heap.size, c.size, hnew, c, ?_, rfl, hn, hc⟩
      rw [hw]; simp
    · obtain ⟨n, sz, h1, h2⟩ := R.blk b ab' h
      refine ⟨n, sz, prefix_get hle.b h1, ?_⟩
      obtain ⟨c', e1, e2⟩ := h2.mono hle
      exact ⟨c', by rw [hkeep n (R.blk_lt h h1)]; exact e1, e2⟩
  · intro b b' a1 a2 n sz sz' h1 h2 h3 h4
    rcases Tr.get_set_some h1 with ⟨rfl, h⟩ | ⟨hne, h⟩ <;> rcases Tr.get_set_some h2 with ⟨rfl, h'⟩ | ⟨hne', h'⟩
    · rfl
    · rw [hnew] at h3; cases h3
      have := R.blk_lt h' (hold _ hne' _ h4); omega
    · rw [hnew] at h4; cases h4
      have := R.blk_lt h (hold _ hne _ h3); omega
    · exact R.inj b b' _ _ n sz sz' h h' (hold _ hne _ h3) (hold _ hne' _ h4)
  · intro m o h
    rw [hkeep m (R.imm_lt h)]; exact R.imm m o h
  · intro b ab' n sz h1 h2
    rcases Tr.get_set_some h1 with ⟨rfl, h⟩ | ⟨hne, h⟩
    · rw [hnew] at h2; cases h2
      cases hi : σ.imm w.heap.size with
      | none => exact hi
      | some o => have := R.imm_lt hi; omega
    · exact R.immd b ab' n sz h (hold _ hne _ h2)
  · intro m hm hp
    rw [hkeep m (by have := R.size; omega)]; exact R.frame m hm hp
  · exact ⟨by rw [hsz]; have := R.size; omega, hos.trans R.sz.os, hout.trans R.sz.out⟩
  · intro b n sz h2 h3
    by_cases hb : b = H.nb
    · subst hb; rw [hnew] at h3; cases h3; exact .inl R.size
    · exact R.own b n sz h2 (hold _ hb _ h3)
  · intro b n sz h3
    by_cases hb : b = H.nb
    · subst hb; rw [hnew] at h3; cases h3; omega
    · have := R.bnd b n sz (hold _ hb _ h3); omega

/-! a block that nobody writes any more -/
def AH.drop (H : AH) (b : Nat) : AH := { H with hp := H.hp.set b none }
def Env.freeze (σ : Env) (n : Nat) (o : Obj) : Env := { σ with imm := fun m => if m = n then some o else σ.imm m }
theorem Rel.drop (R : Rel ro g σ H w) (b : Nat) : Rel ro g σ (H.drop b) w := by
  have old : ∀ b' ab, (H.drop b).hp.get b' = some ab → H.hp.get b' = some ab := by
    intro b' ab h
    rcases Tr.get_set_some h with ⟨_, h⟩ | ⟨_, h⟩
    · cases h
    · exact h
  exact ⟨R.nlen, R.rng, R.lts, R.blen, fun b' ab h => R.blk b' ab (old _ _ h), fun b1 b2 a1 a2 n s s' h h' => R.inj b1 b2 a1 a2 n s s' (old _ _ h) (old _ _ h'), R.imm,
    fun b' ab n s h => R.immd b' ab n s (old _ _ h), R.frame, R.sz, R.own, R.bnd, R.immo, R.fx⟩
theorem Rel.freeze (R : Rel ro g σ H w) {b : Nat} {ab : AB} (hro : ro b = true) (hb : H.hp.get b = some ab) {n sz : Nat} (hn : σ.b[b]? = some (some (n, sz))) {o : Obj} (ho : w.heap[n]? = some o) :
    Rel ro g (σ.freeze n o) (H.drop b) w ∧ σ.le (σ.freeze n o) := by
  have hle : σ.le (σ.freeze n o) := by
    refine ⟨List.prefix_refl _, List.prefix_refl _, fun m q h => ?_⟩
    simp only [Env.freeze]
    split
    · rename_i he; subst he; rw [R.immd b ab _ sz hb hn] at h; cases h
    · exact h
  have old : ∀ b' ab, (H.drop b).hp.get b' = some ab → b' ≠ b ∧ H.hp.get b' = some ab := by
    intro b' ab h
    rcases Tr.get_set_some h with ⟨_, h⟩ | ⟨h0, h⟩
    · cases h
    · exact ⟨h0, h⟩
  refine ⟨⟨R.nlen, R.rng, R.lts, R.blen, ?_, fun b1 b2 a1 a2 n s s' h h' => R.inj b1 b2 a1 a2 n s s' (old _ _ h).2 (old _ _ h').2, ?_, ?_, R.frame, R.sz, R.own, R.bnd, ?_, fun f hf => (R.fx f hf).mono hle (.inr fun m q h => by
    simp only [Env.freeze] at h
    split at h
    · rename_i he
      subst he
      obtain ⟨n', sz', e1, c, e2, _⟩ := R.blk b ab hb
      rw [hn] at e1; cases e1
      exact .inr (.inr ⟨_, _, _, e2⟩)
    · exact .inl h)⟩, hle⟩
  · intro b' ab' h
    obtain ⟨n', sz', h1, h2⟩ := R.blk b' ab' (old _ _ h).2
    exact ⟨n', sz', h1, h2.mono hle⟩
  · intro m q h
    simp only [Env.freeze] at h
    split at h
    · rename_i he; subst he; cases h; exact ho
    · exact R.imm m q h
  · intro b' ab' n' sz' h h'
    simp only [Env.freeze]
    split
    · rename_i he
      subst he
      exact absurd (R.inj b' b ab' ab _ _ _ (old _ _ h).2 hb h' hn) (old _ _ h).1
    · exact R.immd b' ab' n' sz' (old _ _ h).2 h'
  · intro m q h h1 h2
    simp only [Env.freeze] at h
    split at h
    · rename_i he; subst he
      rcases R.own b _ sz hro hn with h3 | h3
      · omega
      · exact absurd h3 h2
    · exact R.immo m q h h1 h2

/-! a block written -/
def keepFx (H : AH) (b : Nat) : Fx → Bool
  | .cell b' _ _ _ => !(Nat.beq b' b) && (H.hp.get b').isSome
  | .rd _ _ _ => !(Nat.ble 1 b && Nat.ble b 6) && (H.hp.get 1).isSome && (H.hp.get 2).isSome && (H.hp.get 3).isSome && (H.hp.get 4).isSome && (H.hp.get 5).isSome && (H.hp.get 6).isSome
  | _ => true
def AH.put (H : AH) (b : Nat) (ab : AB) : AH := { H with hp := H.hp.set b (some ab), fx := H.fx.filter (keepFx H b) }
theorem Rel.write (R : Rel ro g σ H w) {b : Nat} {ab ab' : AB} (hro : ro b = true) (hb : H.hp.get b = some ab) {n sz : Nat} (hn : σ.b[b]? = some (some (n, sz))) {c c' : Array Value} {w' : World}
    (hc : w.heap[n]? = some (.cells c ab.e (0, 0))) (he : ab'.e = ab.e) (hw : w' = w.setRow n c') (hsz : c'.size = c.size) (hn' : ab'.n ≤ c.size)
    (hcell : ∀ j v, c'[j]? = some v → CellOk σ ab' j v) : Rel ro g σ (H.put b ab') w' := by
  subst hw
  obtain ⟨n', sz', q1, cc, q2, q3, q4, q5⟩ := R.blk b ab hb
  rw [hn] at q1; cases q1
  rw [hc] at q2; cases q2
  have same : ∀ m, m ≠ n → (w.setRow n c').heap[m]? = w.heap[m]? := fun m hm => setRow_other w n m c' hm
  have get : ∀ b' ab'', (H.put b ab').hp.get b' = some ab'' → (b' = b ∧ ab'' = ab') ∨ (b' ≠ b ∧ H.hp.get b' = some ab'') := by
    intro b' ab'' h
    rcases Tr.get_set_some h with ⟨h0, h⟩ | ⟨h0, h⟩
    · cases h; exact .inl ⟨h0, rfl⟩
    · exact .inr ⟨h0, h⟩
  have live : ∀ b' ab'', (H.put b ab').hp.get b' = some ab'' → ∃ q, H.hp.get b' = some q := by
    intro b' ab'' h
    rcases get _ _ h with ⟨rfl, _⟩ | ⟨_, h⟩
    · exact ⟨_, hb⟩
    · exact ⟨_, h⟩
  refine ⟨R.nlen, R.rng, R.lts, R.blen, ?_, ?_, ?_, ?_, ?_, ⟨by simp; exact R.size, R.sz.os, R.sz.out⟩, R.own, by simpa using R.bnd, R.immo, ?_⟩
  · intro b' ab'' h
    rcases get _ _ h with ⟨rfl, rfl⟩ | ⟨h0, h⟩
    · exact ⟨n, sz, hn, c', by rw [he]; exact setRow_heap w n c c' ab.e (0, 0) hc, by omega, by omega, hcell⟩
    · obtain ⟨m, msz, h1, c2, h2, h3⟩ := R.blk b' ab'' h
      refine ⟨m, msz, h1, c2, ?_, h3⟩
      have : m ≠ n := by
        intro e; subst e
        exact h0 (R.inj b' b _ _ _ _ _ h hb h1 hn)
      rw [same m this]; exact h2
  · intro b1 b2 a1 a2 m s s' h h' e1 e2
    obtain ⟨x1, k1⟩ := live _ _ h
    obtain ⟨x2, k2⟩ := live _ _ h'
    exact R.inj b1 b2 x1 x2 m s s' k1 k2 e1 e2
  · intro m o h
    have : m ≠ n := by
      intro e; subst e
      rw [R.immd b ab _ sz hb hn] at h; cases h
    rw [same m this]; exact R.imm m o h
  · intro b' ab'' m s h e
    obtain ⟨x1, k1⟩ := live _ _ h
    exact R.immd b' x1 m s k1 e
  · intro m hm hp
    have : m ≠ n := by
      intro e; subst e
      rcases R.own b _ sz hro hn with h | h
      · omega
      · exact hp h
    rw [same m this]; exact R.frame m hm hp
  · intro f hf
    have hf : f ∈ H.fx.filter (keepFx H b) := hf
    rw [List.mem_filter] at hf
    have h0 := R.fx f hf.1
    cases f with
    | cell b' i k v =>
      have hk := hf.2
      simp only [keepFx, Bool.and_eq_true, Bool.not_eq_true', Option.isSome_iff_exists] at hk
      obtain ⟨hne, q, hq⟩ := hk
      have hne : b' ≠ b := by intro e; subst e; simp at hne
      obtain ⟨m, msz, c2, e2, fr, mv, j, k1, k2, k3, k4, k5⟩ := h0
      have : m ≠ n := by
        intro e; subst e
        exact hne (R.inj b' b _ _ _ _ _ hq hb k1 hn)
      exact ⟨m, msz, c2, e2, fr, mv, j, k1, by rw [same m this]; exact k2, k3, k4, k5⟩
    | rd k' x v =>
      have hk := hf.2
      simp only [keepFx, Bool.and_eq_true, Bool.not_eq_true', Option.isSome_iff_exists] at hk
      obtain ⟨⟨⟨⟨⟨⟨hne, g1⟩, g2⟩, g3⟩, g4⟩, g5⟩, g6⟩ := hk
      obtain ⟨a, bv, n0, ns, sz0, k1, k2, k3, k4, k5, k6⟩ := h0
      refine ⟨a, bv, n0, ns, sz0, k1, k2, k3, k4, fun i p hp => ⟨(k5 i p hp).1, ?_⟩, k6⟩
      obtain ⟨⟨psz, q1⟩, q2⟩ := k5 i p hp
      have hi : i < 6 := by have := (List.getElem?_eq_some_iff.1 hp).1; omega
      have hq : ∃ q, H.hp.get (i + 1) = some q := by
        have : i = 0 ∨ i = 1 ∨ i = 2 ∨ i = 3 ∨ i = 4 ∨ i = 5 := by omega
        rcases this with rfl | rfl | rfl | rfl | rfl | rfl <;> assumption
      obtain ⟨q, hq⟩ := hq
      have : p.1 ≠ n := by
        intro e
        have hib : i + 1 = b := R.inj (i + 1) b _ _ _ _ _ hq hb q1 (by rw [e]; exact hn)
        subst hib
        have e1 : Nat.ble 1 (i + 1) = true := by rw [Nat.ble_eq]; omega
        have e2 : Nat.ble (i + 1) 6 = true := by rw [Nat.ble_eq]; omega
        rw [e1, e2] at hne
        cases hne
      rw [same _ this]; exact q2
    | iter b' l k =>
      obtain ⟨m, msz, k1, k2, k3⟩ := h0
      have : m ≠ n := by
        intro e; subst e
        rw [hc] at k2; cases k2
      exact ⟨m, msz, k1, by rw [same m this]; exact k2, k3⟩
    | _ => exact h0
end
end
end Go.Proofs.YtgkoghgiclkbhaaGreatDoor.Sx
namespace Go.Proofs.YtgkoghgiclkbhaaGreatDoor.Sx
open Go
noncomputable section
set_option linter.unusedVariables false
set_option linter.unusedSimpArgs false

def trAll {α : Type} (p : Nat → α → Bool) : Tr α → Nat → Nat → Bool
  | .leaf, _, _ => true
  | .node l v r, base, step => (match v with | some x => p base x | none => true) && trAll p l (base + step) (2 * step) && trAll p r (base + 2 * step) (2 * step)
theorem trAll_get {α : Type} {p : Nat → α → Bool} : ∀ {t : Tr α} {base step : Nat}, trAll p t base step = true → ∀ {k : Nat} {x : α}, t.get k = some x → p (base + step * k) x = true
  | .leaf, base, step, h, k, x, e => by simp [Tr.get] at e
  | .node l v r, base, step, h, k, x, e => by
    simp only [trAll, Bool.and_eq_true] at h
    rw [Tr.get_node] at e
    split at e
    · rename_i hk; subst hk; subst e; simpa using h.1.1
    · rename_i hk
      split at e
      · rename_i h1
        have := trAll_get h.1.2 e
        have e2 : base + step + 2 * step * (k / 2) = base + step * k := by
          have : k = 2 * (k / 2) + 1 := by omega
          conv => rhs; rw [this]
          rw [Nat.mul_add, Nat.mul_one, ← Nat.mul_assoc, Nat.mul_comm step 2]; omega
        rwa [e2] at this
      · rename_i h1
        have := trAll_get h.2 e
        have e2 : base + 2 * step + 2 * step * (k / 2 - 1) = base + step * k := by
          have : k = 2 * (k / 2 - 1) + 2 := by omega
          conv => rhs; rw [this]
          rw [Nat.mul_add, ← Nat.mul_assoc, Nat.mul_comm step 2]; omega
        rwa [e2] at this
/-- No entry from a on, up to b. -/
def noKeys {α : Type} (a b : Nat) (t : Tr α) : Bool := trAll (fun j _ => Nat.blt j a || Nat.ble b j) t 0 1
theorem noKeys_get {α : Type} {a b : Nat} {t : Tr α} (h : noKeys a b t = true) {j : Nat} (h1 : a ≤ j) (h2 : j < b) : t.get j = none := by
  cases hg : t.get j with
  | none => rfl
  | some x =>
    have := trAll_get h hg
    simp only [Nat.zero_add, Nat.one_mul, Bool.or_eq_true, Nat.blt_eq, Nat.ble_eq] at this
    omega
/-- Of what stands behind, no key is known by itself. -/
def freeI (H : AH) (ab : AB) (off esz sub : Nat) (i : Num) (n : Nat) : Bool :=
  (match ab.t with | .leaf => true | _ => false) || (match H.range i with
    | some (lo, hi) => decide (0 ≤ lo) && noKeys (off + lo.toNat * esz + sub) (off + hi.toNat * esz + sub + n) ab.t
    | none => false)
def Tr.isLeaf {α : Type} : Tr α → Bool
  | .leaf => true
  | _ => false
def shNth (d : List Sh) (j : Nat) : AV := match d[j % d.length]? with
  | some s => .any s
  | none => .top
def cellAV (ab : AB) (j : Nat) : AV :=
  match ab.t.get j with
  | some av => av
  | none => shNth ab.d j
def cellsFrom (ab : AB) (off : Nat) : Nat → List AV
  | 0 => []
  | n + 1 => cellAV ab off :: cellsFrom ab (off + 1) n
def perCells (d : List Sh) (p : Nat) : Nat → List AV
  | 0 => []
  | n + 1 => shNth d p :: perCells d (p + 1) n
/-- The shape of what a cell holds, and of what a row of cells holds. -/
def cellSh (H : AH) (ab : AB) (j : Nat) : Option Sh :=
  match cellAV ab j with
  | .int k x => match H.range x with
    | some (a, b) => bif decide (k.min ≤ a) && decide (b ≤ k.max) then some (.int k k.min k.max) else none
    | none => none
  | .bool _ => some .bool
  | .str _ => some .str
  | .any (.int k a b) => bif decide (k.min ≤ a) && decide (b ≤ k.max) then some (.int k k.min k.max) else none
  | .any s => some s
  | _ => none
def colSh (H : AH) (ab : AB) (esz : Nat) : Nat → Nat → Option Sh
  | _, 0 => none
  | p, 1 => cellSh H ab p
  | p, k + 2 => match cellSh H ab p, colSh H ab esz (p + esz) (k + 1) with
    | some s, some s' => bif Sh.beq s s' then some s else none
    | _, _ => none
def colsL (H : AH) (ab : AB) (esz cnt : Nat) : Nat → Nat → Option (List Sh)
  | _, 0 => some []
  | p, n + 1 => match colSh H ab esz p cnt, colsL H ab esz cnt (p + 1) n with
    | some s, some l => some (s :: l)
    | _, _ => none
theorem colSh_get {H : AH} {ab : AB} {esz : Nat} : ∀ {cnt p : Nat} {s : Sh}, colSh H ab esz p cnt = some s → ∀ e, e < cnt → cellSh H ab (p + e * esz) = some s
  | 0, p, s, h, e, he => by omega
  | 1, p, s, h, e, he => by
    have : e = 0 := by omega
    subst this; simpa [colSh] using h
  | k + 2, p, s, h, e, he => by
    simp only [colSh] at h
    split at h
    · rename_i a b h1 h2
      rw [cond_eq_ite] at h
      split at h
      · rename_i hb
        cases h
        have := Sh.beq_eq _ _ hb
        subst this
        cases e with
        | zero => simpa using h1
        | succ e =>
          have := colSh_get h2 e (by omega)
          rwa [show p + esz + e * esz = p + (e + 1) * esz by rw [Nat.add_mul]; omega] at this
      · cases h
    · cases h
theorem colsL_get {H : AH} {ab : AB} {esz cnt : Nat} : ∀ {n p : Nat} {l : List Sh}, colsL H ab esz cnt p n = some l → ∀ (q : Nat) (s : Sh), l[q]? = some s → ∀ e, e < cnt → cellSh H ab (p + q + e * esz) = some s
  | 0, p, l, h, q, s, hq => by simp only [colsL, Option.some.injEq] at h; subst h; simp at hq
  | n + 1, p, l, h, q, s, hq => by
    simp only [colsL] at h
    split at h
    · rename_i a l' h1 h2
      cases h
      cases q with
      | zero => simp at hq; subst hq; simpa using colSh_get h1
      | succ q =>
        simp at hq
        have := colsL_get h2 q s hq
        rwa [show p + 1 + q = p + (q + 1) by omega] at this
    · cases h
theorem colsL_length {H : AH} {ab : AB} {esz cnt : Nat} : ∀ {n p : Nat} {l : List Sh}, colsL H ab esz cnt p n = some l → l.length = n
  | 0, p, l, h => by simp only [colsL, Option.some.injEq] at h; subst h; rfl
  | n + 1, p, l, h => by
    simp only [colsL] at h
    split at h
    · rename_i a l' h1 h2
      cases h
      simp [colsL_length h2]
    · cases h
def cellsAt (H : AH) (a : AV) (n : Nat) : Option (List AV) :=
  match a with
  | .ptr b off => match H.hp.get b with
    | some ab => bif Nat.ble (off + n) ab.n then some (cellsFrom ab off n) else none
    | none => none
  | .eptr b off esz i sub lim => match H.hp.get b with
    | some ab => bif Nat.ble n lim then
        match (H.norm i).s with
        | none => some (cellsFrom ab (off + (H.norm i).c.toNat * esz + sub) n)
        | some _ => bif freeI H ab off esz sub (H.norm i) n && Nat.beq (esz % ab.d.length) 0 then some (perCells ab.d (off + sub) n) else
          match H.range (H.norm i) with
          | some (lo, hi) => bif decide (0 ≤ lo) && decide (hi - lo < 512) then (match colsL H ab esz (hi - lo + 1).toNat (off + lo.toNat * esz + sub) n with
              | some l => some (openShL l)
              | none => none) else none
          | none => none
      else none
    | none => none
  | .oaddr cs => bif Nat.ble n cs.length then some (openShL (cs.take n)) else none
  | _ => none
theorem sat_shNth {σ : Env} {d : List Sh} {j : Nat} {v : Value} (h : SatShAt σ.imm d (j % d.length) v) : Sat σ (shNth d j) v := by
  unfold shNth
  split
  · rename_i s hs
    simp only [Sat]
    exact (SatShAt.of_get d _ v s hs).1 h
  · simp [Sat]
theorem sat_cellAV {σ : Env} {ab : AB} {j : Nat} {v : Value} (h : CellOk σ ab j v) : Sat σ (cellAV ab j) v := by
  unfold CellOk at h
  unfold cellAV
  split
  · rename_i av ha; rw [ha] at h; exact h
  · rename_i ha; rw [ha] at h; exact sat_shNth h
theorem satL_cellsFrom {σ : Env} {ab : AB} {c : Array Value} (hc : ∀ j v, c[j]? = some v → CellOk σ ab j v) : ∀ (n off : Nat), off + n ≤ c.size →
    SatL σ (cellsFrom ab off n) ((c.toList.drop off).take n)
  | 0, off, _ => by simp [cellsFrom, SatL]
  | n + 1, off, h => by
    have hlt : off < c.toList.length := by simp; omega
    rw [List.drop_eq_getElem_cons hlt, List.take_succ_cons]
    simp only [cellsFrom, SatL]
    exact ⟨_, _, rfl, sat_cellAV (hc off _ (by simp at hlt ⊢)), satL_cellsFrom hc n (off + 1) (by omega)⟩
theorem satL_perCells {σ : Env} {d : List Sh} {c : Array Value} (q : Nat) {a b : Nat} (hc : ∀ j v, a ≤ j → j < b → c[j]? = some v → SatShAt σ.imm d (j % d.length) v) : ∀ (n p : Nat), q * d.length + p + n ≤ c.size → a ≤ q * d.length + p → q * d.length + p + n ≤ b →
    SatL σ (perCells d p n) ((c.toList.drop (q * d.length + p)).take n)
  | 0, p, _, _, _ => by simp [perCells, SatL]
  | n + 1, p, h, ha, hb => by
    have hlt : q * d.length + p < c.toList.length := by simp; omega
    rw [List.drop_eq_getElem_cons hlt, List.take_succ_cons]
    simp only [perCells, SatL]
    refine ⟨_, _, rfl, ?_, ?_⟩
    · have := hc (q * d.length + p) (c.toList[q * d.length + p]) ha (by omega) (by simp at hlt ⊢)
      have em : (q * d.length + p) % d.length = p % d.length := by rw [Nat.mul_comm, Nat.mul_add_mod]
      rw [em] at this
      exact sat_shNth this
    · have := satL_perCells q hc n (p + 1) (by omega) (by omega) (by omega)
      rwa [← Nat.add_assoc] at this
section
variable {ro : Nat → Bool} {g : Gh} {σ : Env} {H : AH} {w : World} {P : Program}
theorem cellSh_ok (R : Rel ro g σ H w) {ab : AB} {j : Nat} {s : Sh} {v : Value} (h : cellSh H ab j = some s) (hc : CellOk σ ab j v) : SatSh σ.imm s v := by
  have hs := sat_cellAV hc
  unfold cellSh at h
  split at h
  · rename_i k x e
    rw [e] at hs
    simp only [Sat] at hs
    obtain ⟨n, hn, rfl⟩ := hs
    split at h
    · rename_i a b hr
      rw [cond_eq_ite] at h
      split at h
      · rename_i hc
        simp only [Bool.and_eq_true, decide_eq_true_eq] at hc
        cases h
        have := R.range hn hr
        simp only [SatSh]
        exact ⟨n, rfl, by omega, by omega⟩
      · cases h
    · cases h
  · rename_i e0 e
    rw [e] at hs; cases h
    simp only [Sat, SatSh] at hs ⊢
    obtain ⟨b, _, rfl⟩ := hs
    exact ⟨b, rfl⟩
  · rename_i l e
    rw [e] at hs; cases h
    simp only [Sat, SatSh] at hs ⊢
    exact ⟨_, hs⟩
  · rename_i k a b e
    rw [e] at hs
    rw [cond_eq_ite] at h
    split at h
    · rename_i hc
      simp only [Bool.and_eq_true, decide_eq_true_eq] at hc
      cases h
      simp only [Sat, SatSh] at hs ⊢
      obtain ⟨n, rfl, h1, h2⟩ := hs
      exact ⟨n, rfl, by omega, by omega⟩
    · cases h
  · rename_i s' _ e
    rw [e] at hs; cases h
    simpa only [Sat] using hs
  · cases h
theorem freeI_get (R : Rel ro g σ H w) {ab : AB} {off esz sub n k : Nat} {i : Num} (h : freeI H ab off esz sub i n = true) (hk : i.den σ = some (k : Int)) :
    ∀ j, off + k * esz + sub ≤ j → j < off + k * esz + sub + n → ab.t.get j = none := by
  intro j h1 h2
  unfold freeI at h
  rw [Bool.or_eq_true] at h
  rcases h with h | h
  · split at h
    · rename_i e; rw [e]; rfl
    · cases h
  · split at h
    · rename_i lo hi hr
      simp only [Bool.and_eq_true, decide_eq_true_eq] at h
      have hrange := R.range hk hr
      have m1 : lo.toNat * esz ≤ k * esz := Nat.mul_le_mul_right _ (by omega)
      have m2 : k * esz ≤ hi.toNat * esz := Nat.mul_le_mul_right _ (by omega)
      exact noKeys_get h.2 (by omega) (by omega)
    · cases h
theorem cellsAt_sound (R : Rel ro g σ H w) {a : AV} {u : Value} (hu : Sat σ a u) {n : Nat} {l : List AV} (h : cellsAt H a n = some l) :
    ∃ b off c e fr, u = .pointer (some ⟨b, off, none⟩) ∧ w.heap[b]? = some (.cells c e fr) ∧ off + n ≤ c.size ∧ SatL σ l ((c.toList.drop off).take n) := by
  unfold cellsAt at h
  split at h
  · rename_i b off
    split at h
    · rename_i ab hab
      rw [cond_eq_ite] at h
      split at h
      · rename_i hle
        rw [Nat.ble_eq] at hle
        cases h
        simp only [Sat] at hu
        obtain ⟨m, sz, hm, rfl⟩ := hu
        obtain ⟨m', sz', hm', c, hc1, hc2, hc3, hc4⟩ := R.blk _ _ hab
        rw [hm] at hm'; cases hm'
        exact ⟨m, off, c, _, _, rfl, hc1, by omega, satL_cellsFrom hc4 n off (by omega)⟩
      · cases h
    · cases h
  · rename_i b off esz i sub lim
    split at h
    · rename_i ab hab
      rw [cond_eq_ite] at h
      split at h
      · rename_i hle
        rw [Nat.ble_eq] at hle
        simp only [Sat] at hu
        obtain ⟨m, sz, k, hm, hk, hlim, rfl⟩ := hu
        obtain ⟨m', sz', hm', c, hc1, hc2, hc3, hc4⟩ := R.blk _ _ hab
        rw [hm] at hm'; cases hm'
        have hk := R.norm hk
        split at h
        · rename_i hs
          cases h
          have : (H.norm i).c = k := by simpa [Num.den, hs] using hk
          rw [this]
          simp only [Int.toNat_natCast]
          exact ⟨m, _, c, _, _, rfl, hc1, by omega, satL_cellsFrom hc4 n _ (by omega)⟩
        · simp only [cond_eq_ite, Bool.and_eq_true, Nat.beq_eq] at h
          split at h
          · rename_i hd
            cases h
            have hleaf := freeI_get R hd.1 hk
            have hall : ∀ j v, off + k * esz + sub ≤ j → j < off + k * esz + sub + n → c[j]? = some v → SatShAt σ.imm ab.d (j % ab.d.length) v := by
              intro j v hj1 hj2 hv
              have := hc4 j v hv
              unfold CellOk at this
              rw [hleaf j hj1 hj2] at this
              exact this
            obtain ⟨q, hq⟩ := Nat.dvd_of_mod_eq_zero hd.2
            have e1 : off + k * esz + sub = (k * q) * ab.d.length + (off + sub) := by
              rw [hq, show k * (ab.d.length * q) = k * q * ab.d.length by rw [Nat.mul_assoc, Nat.mul_comm q]]; omega
            have := satL_perCells (k * q) hall n (off + sub) (by omega) (by omega) (by omega)
            rw [← e1] at this
            exact ⟨m, _, c, _, _, rfl, hc1, by omega, this⟩
          · split at h
            · rename_i lo hi hr
              simp only [cond_eq_ite, Bool.and_eq_true, decide_eq_true_eq] at h
              split at h
              · rename_i hcnd
                split at h
                · rename_i l hl
                  cases h
                  have hrange := R.range hk hr
                  refine ⟨m, _, c, _, _, rfl, hc1, by omega, satL_openSh _ _ ?_⟩
                  have hlen := colsL_length hl
                  have base : off + k * esz + sub = (off + lo.toNat * esz + sub) + (k - lo.toNat) * esz := by
                    have : lo.toNat * esz + (k - lo.toNat) * esz = k * esz := by rw [← Nat.add_mul]; congr 1; omega
                    omega
                  have key : ∀ (ss : List Sh) (o : Nat), o + ss.length ≤ c.size → (∀ q s v, ss[q]? = some s → c[o + q]? = some v → SatSh σ.imm s v) → SatShL σ.imm ss ((c.toList.drop o).take ss.length) := by
                    intro ss
                    induction ss with
                    | nil => intro o _ _; simp [SatShL]
                    | cons a ss ih =>
                      intro o ho hq
                      have hlt : o < c.toList.length := by simp at ho ⊢; omega
                      rw [List.length_cons, List.drop_eq_getElem_cons hlt, List.take_succ_cons]
                      simp only [SatShL]
                      refine ⟨_, _, rfl, hq 0 a _ rfl (by simp at hlt ⊢), ih (o + 1) (by simp at ho; omega) fun q s v h1 h2 => hq (q + 1) s v (by simpa using h1) (by rwa [show o + (q + 1) = o + 1 + q by omega])⟩
                  have := key l (off + k * esz + sub) (by omega) fun q s v h1 h2 => by
                    have h3 := colsL_get hl q s h1 (k - lo.toNat) (by omega)
                    refine cellSh_ok R h3 (hc4 _ v ?_)
                    rw [show off + lo.toNat * esz + sub + q + (k - lo.toNat) * esz = off + k * esz + sub + q by omega]
                    exact h2
                  rwa [hlen] at this
                · cases h
              · cases h
            · cases h
      · cases h
    · cases h
  · rename_i cs
    rw [cond_eq_ite] at h
    split at h
    · rename_i hle
      rw [Nat.ble_eq] at hle
      cases h
      simp only [Sat] at hu
      obtain ⟨b, off, c, e, fr, rfl, him, hcs, hall⟩ := hu
      refine ⟨b, off, c, e, fr, rfl, R.imm _ _ him, by omega, ?_⟩
      have key : ∀ (cs : List Sh) (n off : Nat), n ≤ cs.length → off + cs.length ≤ c.size → (∀ j x, j < cs.length → c[off + j]? = some x → SatShAt σ.imm cs j x) →
          SatL σ (openShL (cs.take n)) ((c.toList.drop off).take n) := by
        intro cs
        induction cs with
        | nil => intro n off h1 _ _; have : n = 0 := by simpa using h1
                 subst this; simp [openShL, SatL]
        | cons s cs ih =>
          intro n off h1 h2 h3
          cases n with
          | zero => simp [openShL, SatL]
          | succ n =>
            simp only [List.length_cons] at h1 h2 h3
            have hlt : off < c.toList.length := by simp; omega
            rw [List.drop_eq_getElem_cons hlt, List.take_succ_cons, List.take_succ_cons]
            simp only [openShL, SatL]
            refine ⟨_, _, rfl, ?_, ih n (off + 1) (by omega) (by omega) fun j x hj hx => ?_⟩
            · simp only [Sat]
              have := h3 0 (c.toList[off]) (by omega) (by simp at hlt ⊢)
              simpa only [SatShAt] using this
            · have := h3 (j + 1) x (by omega) (by rw [show off + (j + 1) = off + 1 + j by omega]; exact hx)
              simpa only [SatShAt] using this
      exact key cs n off hle hcs hall
    · cases h
  · cases h
def loadV (P : Program) (H : AH) (t : TypeId) (a : AV) : Option AV :=
  match tAgg P t with
  | some true => match tSize P t with
    | some n => match cellsAt H a n with
      | some l => some (.agg l)
      | none => none
    | none => none
  | some false => match cellsAt H a 1 with
    | some (x :: _) => some x
    | _ => none
  | none => none
theorem loadV_sound (R : Rel ro g σ H w) {t : TypeId} {a b : AV} {u : Value} (hu : Sat σ a u) (h : loadV P H t a = some b) :
    ∃ bl off V, u = .pointer (some ⟨bl, off, none⟩) ∧ bl < w.heap.size ∧ Sat σ b V ∧ ∀ w' : World, w'.heap[bl]? = w.heap[bl]? → (Instr.loadAt t u).run P w' = .ok V w' := by
  unfold loadV at h
  split at h
  · rename_i ha
    split at h
    · rename_i n hn
      split at h
      · rename_i l hl
        cases h
        obtain ⟨bl, off, c, e, fr, rfl, h1, h2, h3⟩ := cellsAt_sound R hu hl
        refine ⟨bl, off, .agg ⟨(c.toList.drop off).take n⟩, rfl, (Array.getElem?_eq_some_iff.1 h1).1, by simp only [Sat]; exact ⟨_, rfl, h3⟩, fun w' hw => ?_⟩
        have hlen : ((c.toList.drop off).take n).length = n := by simp; omega
        have hrun := run_loadCells_list (P := P) w' ⟨bl, off, none⟩ ((c.toList.drop off).take n) (by
          intro j v hv
          rw [add_addr]
          simp only [World.cell?, hw, h1]
          have hj : j < n := by have := (List.getElem?_eq_some_iff.1 hv).1; omega
          rw [List.getElem?_take_of_lt hj, List.getElem?_drop] at hv
          simpa using hv)
        rw [hlen] at hrun
        simp only [Instr.loadAt, Instr.sureAddr, Sem.run_bind, Sem.run_pure, Result.andThen_ok, loadVar, run_isAgg' ha, if_true, run_sizeOf' hn, hrun]
      · cases h
    · cases h
  · rename_i ha
    split at h
    · rename_i x rest hl
      cases h
      obtain ⟨bl, off, c, e, fr, rfl, h1, h2, h3⟩ := cellsAt_sound R hu hl
      have hlt : off < c.toList.length := by simp; omega
      rw [List.drop_eq_getElem_cons hlt, List.take_succ_cons] at h3
      simp only [SatL] at h3
      obtain ⟨v, vs', e1, e2, e3⟩ := h3
      simp only [List.cons.injEq] at e1
      refine ⟨bl, off, v, rfl, (Array.getElem?_eq_some_iff.1 h1).1, e2, fun w' hw => ?_⟩
      have hcell : w'.cell? ⟨bl, off, none⟩ = some v := by
        simp only [World.cell?, hw, h1]
        rw [← e1.1]
        simp at hlt ⊢
      simp only [Instr.loadAt, Instr.sureAddr, Sem.run_bind, Sem.run_pure, Result.andThen_ok, loadVar, run_isAgg' ha, Bool.false_eq_true, if_false, run_load, hcell]
    · cases h
  · cases h
/-- The place of one cell. -/
def symCell (H : AH) : AV → Option (Nat × Num)
  | .eptr b off esz i sub _ => match (H.norm i).s with
    | some s => bif Nat.beq esz 1 then some (b, ⟨some s, (H.norm i).c + (off + sub : Nat)⟩) else none
    | none => some (b, ⟨none, (off : Int) + (H.norm i).c * esz + sub⟩)
  | .ptr b off => some (b, ⟨none, (off : Int)⟩)
  | _ => none
def findCell (H : AH) (b : Nat) (i : Num) : List Fx → Option (IntKind × Num)
  | [] => none
  | .cell b' i' k v :: l => bif Nat.beq b' b && decide (H.norm i' = i) then some (k, v) else findCell H b i l
  | _ :: l => findCell H b i l
theorem findCell_mem {H : AH} {b : Nat} {i : Num} {k : IntKind} {v : Num} : ∀ {l : List Fx}, findCell H b i l = some (k, v) → ∃ i', Fx.cell b i' k v ∈ l ∧ H.norm i' = i
  | [], h => by simp [findCell] at h
  | f :: l, h => by
    cases f <;> simp only [findCell] at h <;> first | exact (findCell_mem h).imp fun _ q => ⟨List.mem_cons_of_mem _ q.1, q.2⟩ | skip
    simp only [cond_eq_ite, Bool.and_eq_true, decide_eq_true_eq, Nat.beq_eq] at h
    split at h
    · rename_i hc; obtain ⟨rfl, hc⟩ := hc; cases h; exact ⟨_, List.mem_cons_self .., hc⟩
    · exact (findCell_mem h).imp fun _ q => ⟨List.mem_cons_of_mem _ q.1, q.2⟩
def isAnyI : AV → Bool
  | .any (.int _ _ _) => true
  | _ => false
def loadX (P : Program) (H : AH) (t : TypeId) (a : AV) : Option (List (AH × AV)) :=
  match loadV P H t a with
  | none => none
  | some b => bif H.fm then
      match tAgg P t, bif isAnyI b then symCell H a else none with
      | some false, some (bk, i) => match findCell H bk i H.fx with
        | some (k, v) => some [(H, .int k v)]
        | none => some ((fin H b).map fun q => (match q.2 with | .int k v => q.1.addFx (.cell bk i k v) | _ => q.1, q.2))
      | _, _ => some (fin H b)
    else some (fin H b)
theorem symCell_den {H : AH} (R : Rel ro g σ H w) {a : AV} {u : Value} (hu : Sat σ a u) {bk : Nat} {i : Num} (h : symCell H a = some (bk, i)) :
    ∃ n sz, ∃ j : Nat, σ.b[bk]? = some (some (n, sz)) ∧ i.den σ = some (j : Int) ∧ u = .pointer (some ⟨n, j, none⟩) := by
  unfold symCell at h
  split at h
  · rename_i b off esz i0 sub lim
    simp only [Sat] at hu
    obtain ⟨n, sz, k, h1, h2, h3, rfl⟩ := hu
    have h2 := R.norm h2
    split at h
    · rename_i s hs
      rw [cond_eq_ite] at h
      split at h
      · rename_i he
        rw [Nat.beq_eq] at he
        subst he
        cases h
        refine ⟨n, sz, off + k * 1 + sub, h1, ?_, rfl⟩
        simp only [Num.den, hs, Option.map_eq_some_iff] at h2 ⊢
        obtain ⟨q, hq, e⟩ := h2
        exact ⟨q, hq, by omega⟩
      · cases h
    · rename_i hs
      cases h
      refine ⟨n, sz, off + k * esz + sub, h1, ?_, rfl⟩
      simp only [Num.den, hs, Option.some.injEq] at h2 ⊢
      rw [h2]; push_cast; rfl
  · rename_i b off
    cases h
    simp only [Sat] at hu
    obtain ⟨n, sz, h1, rfl⟩ := hu
    exact ⟨n, sz, off, h1, rfl, rfl⟩
  · cases h
theorem loadX_sound (R : Rel ro g σ H w) {t : TypeId} {a : AV} {u : Value} (hu : Sat σ a u) {outs : List (AH × AV)} (h : loadX P H t a = some outs) :
    ∃ p ∈ outs, ∃ σ' V, σ.le σ' ∧ Rel ro g σ' p.1 w ∧ Sat σ' p.2 V ∧ (Instr.loadAt t u).run P w = .ok V w := by
  unfold loadX at h
  split at h
  · cases h
  · rename_i b hb
    obtain ⟨bl, off, V, e1, e2, e3, e4⟩ := loadV_sound R hu hb
    have e4 := e4 w rfl
    have plain : ∃ p ∈ fin H b, ∃ σ' V, σ.le σ' ∧ Rel ro g σ' p.1 w ∧ Sat σ' p.2 V ∧ (Instr.loadAt t u).run P w = .ok V w := by
      obtain ⟨p, hp, σ', l1, R1, s1⟩ := R.fin e3
      exact ⟨p, hp, σ', V, l1, R1, s1, e4⟩
    rw [cond_eq_ite] at h
    split at h
    · split at h
      · rename_i bk i hagg hsym
        have hsym : symCell H a = some (bk, i) := by
          rw [cond_eq_ite] at hsym
          split at hsym
          · exact hsym
          · cases hsym
        obtain ⟨n, sz, j, k1, k2, k3⟩ := symCell_den R hu hsym
        rw [e1] at k3
        simp only [Value.pointer.injEq, Option.some.injEq, Addr.mk.injEq, and_true] at k3
        obtain ⟨rfl, rfl⟩ := k3
        subst e1
        obtain ⟨c0, e0, fr0, g1, g2⟩ : ∃ c e fr, w.heap[bl]? = some (.cells c e fr) ∧ c[off]? = some V := by
          have hb' := hb
          unfold loadV at hb'
          rw [hagg] at hb'
          dsimp only at hb'
          split at hb'
          · rename_i x rest hl
            obtain ⟨bl', off', c, e, fr, f0, f1, f2, f3⟩ := cellsAt_sound R hu hl
            cases f0
            have hlt : off < c.size := by omega
            have hcell : w.cell? ⟨bl, off, none⟩ = some c[off] := by simp [World.cell?, f1, hlt]
            simp only [Instr.loadAt, Instr.sureAddr, Sem.run_bind, Sem.run_pure, Result.andThen_ok, loadVar, run_isAgg' hagg, Bool.false_eq_true, if_false, run_load, hcell] at e4
            refine ⟨c, e, fr, f1, ?_⟩
            simp at e4
            simp [hlt, e4]
          · cases hb'
        split at h
        · rename_i k v hf
          cases h
          obtain ⟨i', hmem, hnorm⟩ := findCell_mem hf
          obtain ⟨n', sz', c, e, fr, m, j', q1, q2, q3, q4, q5⟩ := R.fx _ hmem
          rw [k1] at q1; cases q1
          have q3 := R.norm q3
          rw [hnorm, k2] at q3
          have : j' = off := by simp only [Option.some.injEq] at q3; omega
          subst this
          have : V = .int k m := by
            rw [g1] at q2; cases q2
            rw [g2] at q4; cases q4; rfl
          subst this
          exact ⟨_, List.mem_singleton.2 rfl, σ, _, .refl σ, R, by simp only [Sat]; exact ⟨m, q5, rfl⟩, e4⟩
        · cases h
          obtain ⟨p, hp, σ', l1, R1, s1⟩ := R.fin e3
          refine ⟨_, List.mem_map.2 ⟨p, hp, rfl⟩, σ', V, l1, ?_, s1, e4⟩
          dsimp only
          split
          · rename_i k v hpv
            rw [hpv] at s1
            simp only [Sat] at s1
            obtain ⟨m, hm, rfl⟩ := s1
            exact R1.addFx ⟨bl, sz, c0, e0, fr0, m, off, prefix_get l1.b k1, g1, Num.den_mono l1 k2, g2, hm⟩
          · exact R1
      · cases h; exact plain
    · cases h; exact plain
end
end
end Go.Proofs.YtgkoghgiclkbhaaGreatDoor.Sx
