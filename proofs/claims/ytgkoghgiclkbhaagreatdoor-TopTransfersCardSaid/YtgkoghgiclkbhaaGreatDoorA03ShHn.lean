/- The symbolic walk whole, and that it says the truth; contracts; loops by their states. No condition but the hypotheses that stand in each. -/
import Derived.Defers
import Derived.Test.YtgkoghgiclkbhaaGreatDoorA02SoSw
namespace Go.Proofs.YtgkoghgiclkbhaaGreatDoor.Sx
open Go
noncomputable section
set_option linter.unusedVariables false
set_option linter.unusedSimpArgs false

/-- Each entry of the second has its like in the first. -/
def trZip {α β : Type} (p : α → β → Bool) : Tr α → Tr β → Bool
  | _, .leaf => true
  | .leaf, .node l v r => v.isNone && trZip p .leaf l && trZip p .leaf r
  | .node l v r, .node l' v' r' => (match v', v with | none, _ => true | some y, some x => p x y | some _, none => false) && trZip p l l' && trZip p r r'
theorem trZip_get {α β : Type} {p : α → β → Bool} : ∀ {t : Tr β} {s : Tr α}, trZip p s t = true → ∀ {k : Nat} {y : β}, t.get k = some y → ∃ x, s.get k = some x ∧ p x y = true
  | .leaf, s, h, k, y, e => by simp [Tr.get] at e
  | .node l' v' r', .leaf, h, k, y, e => by
    simp only [trZip, Bool.and_eq_true] at h
    rw [Tr.get_node] at e
    split at e
    · subst e; simp at h
    · split at e
      · obtain ⟨x, hx, _⟩ := trZip_get h.1.2 e; simp [Tr.get] at hx
      · obtain ⟨x, hx, _⟩ := trZip_get h.2 e; simp [Tr.get] at hx
  | .node l' v' r', .node l v r, h, k, y, e => by
    simp only [trZip, Bool.and_eq_true] at h
    rw [Tr.get_node] at e
    simp only [Tr.get_node]
    by_cases hk : k = 0
    · simp only [hk, if_true] at e ⊢
      subst e
      have := h.1.1
      cases v with
      | none => cases this
      | some x => exact ⟨x, rfl, this⟩
    · simp only [hk, if_false] at e ⊢
      by_cases h1 : k % 2 = 1
      · simp only [h1, if_true] at e ⊢
        exact trZip_get h.1.2 e
      · simp only [h1, if_false] at e ⊢
        exact trZip_get h.2 e

/-- Each entry of the first has its like in the second, or p holds of it. -/
def trDef {α β : Type} (p : Nat → α → Bool) : Tr α → Tr β → Nat → Nat → Bool
  | .leaf, _, _, _ => true
  | .node l v r, .leaf, base, step => (match v with | some a => p base a | none => true) && trDef p l (.leaf : Tr β) (base + step) (2 * step) && trDef p r (.leaf : Tr β) (base + 2 * step) (2 * step)
  | .node l v r, .node l' v' r', base, step => (match v, v' with | some _, some _ => true | some a, none => p base a | none, _ => true) && trDef p l l' (base + step) (2 * step) && trDef p r r' (base + 2 * step) (2 * step)
theorem trDef_get {α β : Type} {p : Nat → α → Bool} : ∀ {t : Tr α} {s : Tr β} {base step : Nat}, trDef p t s base step = true → ∀ {k : Nat} {x : α}, t.get k = some x → (∃ y, s.get k = some y) ∨ p (base + step * k) x = true
  | .leaf, s, base, step, h, k, x, e => by simp [Tr.get_leaf] at e
  | .node l v r, s, base, step, h, k, x, e => by
    have split1 : k ≠ 0 → k % 2 = 1 → base + step + 2 * step * (k / 2) = base + step * k := by
      intro _ h1
      have : k = 2 * (k / 2) + 1 := by omega
      conv => rhs; rw [this]
      rw [Nat.mul_add, Nat.mul_one, ← Nat.mul_assoc, Nat.mul_comm step 2]; omega
    have split2 : k ≠ 0 → ¬ k % 2 = 1 → base + 2 * step + 2 * step * (k / 2 - 1) = base + step * k := by
      intro _ h1
      have : k = 2 * (k / 2 - 1) + 2 := by omega
      conv => rhs; rw [this]
      rw [Nat.mul_add, ← Nat.mul_assoc, Nat.mul_comm step 2]; omega
    rw [Tr.get_node] at e
    cases s with
    | leaf =>
      simp only [trDef, Bool.and_eq_true] at h
      split at e
      · rename_i hk; subst hk; subst e; exact .inr (by simpa using h.1.1)
      · rename_i hk
        split at e
        · rename_i h1
          rcases trDef_get h.1.2 e with ⟨y, hy⟩ | h'
          · simp [Tr.get_leaf] at hy
          · rw [split1 hk h1] at h'; exact .inr h'
        · rename_i h1
          rcases trDef_get h.2 e with ⟨y, hy⟩ | h'
          · simp [Tr.get_leaf] at hy
          · rw [split2 hk h1] at h'; exact .inr h'
    | node l' v' r' =>
      simp only [trDef, Bool.and_eq_true] at h
      split at e
      · rename_i hk; subst hk; subst e
        cases v' with
        | some y => exact .inl ⟨y, by rw [Tr.get_node]; simp⟩
        | none => exact .inr (by simpa using h.1.1)
      · rename_i hk
        split at e
        · rename_i h1
          rcases trDef_get h.1.2 e with ⟨y, hy⟩ | h'
          · exact .inl ⟨y, by rw [Tr.get_node]; simp [hk, h1, hy]⟩
          · rw [split1 hk h1] at h'; exact .inr h'
        · rename_i h1
          rcases trDef_get h.2 e with ⟨y, hy⟩ | h'
          · exact .inl ⟨y, by rw [Tr.get_node]; simp [hk, h1, hy]⟩
          · rw [split2 hk h1] at h'; exact .inr h'
theorem shNth_at {σ : Env} {d : List Sh} {j : Nat} {v : Value} (h : Sat σ (shNth d j) v) : SatShAt σ.imm d (j % d.length) v := by
  unfold shNth at h
  split at h
  · rename_i s hs
    simp only [Sat] at h
    exact (SatShAt.of_get d _ v s hs).2 h
  · rename_i hs
    cases d with
    | nil => simp [SatShAt]
    | cons a l =>
      rw [List.getElem?_eq_none_iff] at hs
      have := Nat.mod_lt j (show 0 < (a :: l).length by simp)
      omega
inductive MV where
  | num (x : Num)
  | be (e : BE)
def MV.den (σ : Env) : MV → Option Int
  | .num x => x.den σ
  | .be e => (e.den σ).map fun b => if b then 1 else 0
def litEq : Value → Value → Bool
  | .pointer none, .pointer none => true
  | .slice none n c, .slice none n' c' => decide (n = n') && decide (c = c')
  | .nilIface, .nilIface => true
  | .nilFunc, .nilFunc => true
  | .tuple ⟨[]⟩, .tuple ⟨[]⟩ => true
  | _, _ => false
theorem litEq_eq {v u : Value} (h : litEq v u = true) : v = u := by
  unfold litEq at h
  split at h <;> first | rfl | (cases h; done) | (simp only [Bool.and_eq_true, decide_eq_true_eq] at h; obtain ⟨rfl, rfl⟩ := h; rfl)
/-- The first N numbers and the first NB blocks keep their names; those behind are laid anew. -/
structure RB where
  N : Nat
  NB : Nat
  fm : List MV
  bm : List Nat
structure RB.Maps (B : RB) (σ τ : Env) : Prop where
  n : ∀ i, i < B.N → τ.n[i]? = σ.n[i]?
  fm : ∀ i mv n, B.fm[i]? = some mv → mv.den σ = some n → τ.n[B.N + i]? = some n
  b : ∀ i, i < B.NB → τ.b[i]? = σ.b[i]?
  bm : ∀ i c q, B.bm[i]? = some c → σ.b[c]? = some q → τ.b[B.NB + i]? = some q
  imm : τ.imm = σ.imm
def oldN (N : Nat) (x : Num) : Bool := match x.s with
  | some i => Nat.blt i N
  | none => true
def oldE (N : Nat) : BE → Bool
  | .c _ => true
  | .s i _ => Nat.blt i N
  | .lt a b _ => oldN N a && oldN N b
  | .eq a b _ => oldN N a && oldN N b
def reNum (B : RB) (x y : Num) : Bool :=
  (decide (x = y) && oldN B.N x) || (match y.s with
    | some i => Nat.ble B.N i && (match B.fm[i - B.N]? with | some (.num z) => decide (z.s = x.s) && decide (z.c + y.c = x.c) | _ => false)
    | none => false)
def reBE (B : RB) (e f : BE) : Bool :=
  (decide (e = f) && oldE B.N e) || (match f with
    | .s i true => Nat.ble B.N i && (match B.fm[i - B.N]? with | some (.be z) => decide (z = e) | _ => false)
    | _ => false)
def reB (B : RB) (b c : Nat) : Bool :=
  (Nat.beq b c && Nat.blt b B.NB) || (Nat.ble B.NB c && (match B.bm[c - B.NB]? with | some z => Nat.beq z b | none => false))
theorem oldN_den {N : Nat} {σ τ : Env} (h : ∀ i, i < N → τ.n[i]? = σ.n[i]?) {x : Num} (ho : oldN N x = true) : x.den τ = x.den σ := by
  unfold oldN at ho
  unfold Num.den
  split at ho
  · rename_i i hi
    rw [Nat.blt_eq] at ho
    rw [hi]
    simp only [h i ho]
  · rename_i hi; rw [hi]
theorem oldE_den {N : Nat} {σ τ : Env} (h : ∀ i, i < N → τ.n[i]? = σ.n[i]?) {e : BE} (ho : oldE N e = true) : e.den τ = e.den σ := by
  cases e with
  | c b => rfl
  | s i p => simp only [oldE, Nat.blt_eq] at ho; simp only [BE.den, h i ho]
  | lt a b p => simp only [oldE, Bool.and_eq_true] at ho; simp only [BE.den, oldN_den h ho.1, oldN_den h ho.2]
  | eq a b p => simp only [oldE, Bool.and_eq_true] at ho; simp only [BE.den, oldN_den h ho.1, oldN_den h ho.2]
theorem reNum_sound {B : RB} {σ τ : Env} (hm : B.Maps σ τ) {x y : Num} {n : Int} (h : reNum B x y = true) (hx : x.den σ = some n) : y.den τ = some n := by
  unfold reNum at h
  simp only [Bool.or_eq_true, Bool.and_eq_true, decide_eq_true_eq] at h
  rcases h with ⟨rfl, h⟩ | h
  · rw [oldN_den hm.n h]; exact hx
  · split at h
    · rename_i i hi
      simp only [Bool.and_eq_true, Nat.ble_eq] at h
      obtain ⟨hN, h⟩ := h
      split at h
      · rename_i z hz
        simp only [Bool.and_eq_true, decide_eq_true_eq] at h
        have hz' : z.den σ = some (n - y.c) := by
          simp only [Num.den, h.1] at hx ⊢
          split at hx
          · cases hx; congr 1; omega
          · simp only [Option.map_eq_some_iff] at hx ⊢
            obtain ⟨q, hq, rfl⟩ := hx
            exact ⟨q, hq, by omega⟩
        have := hm.fm (i - B.N) _ _ hz hz'
        rw [show B.N + (i - B.N) = i by omega] at this
        simp only [Num.den, hi, this, Option.map_some, Option.some.injEq]
        omega
      · cases h
    · cases h
theorem reBE_sound {B : RB} {σ τ : Env} (hm : B.Maps σ τ) {e f : BE} {b : Bool} (h : reBE B e f = true) (hx : e.den σ = some b) : f.den τ = some b := by
  unfold reBE at h
  simp only [Bool.or_eq_true, Bool.and_eq_true, decide_eq_true_eq] at h
  rcases h with ⟨rfl, h⟩ | h
  · rw [oldE_den hm.n h]; exact hx
  · split at h
    · rename_i i
      simp only [Bool.and_eq_true, Nat.ble_eq] at h
      obtain ⟨hN, h⟩ := h
      split at h
      · rename_i z hz
        simp only [decide_eq_true_eq] at h
        subst h
        have := hm.fm (i - B.N) _ (if b then 1 else 0) hz (by simp [MV.den, hx])
        rw [show B.N + (i - B.N) = i by omega] at this
        cases b <;> simp [BE.den, this]
      · cases h
    · cases h
theorem reB_sound {B : RB} {σ τ : Env} (hm : B.Maps σ τ) {b c : Nat} {q : Option (Nat × Nat)} (h : reB B b c = true) (hx : σ.b[b]? = some q) : τ.b[c]? = some q := by
  unfold reB at h
  simp only [Bool.or_eq_true, Bool.and_eq_true, Nat.beq_eq, Nat.blt_eq, Nat.ble_eq] at h
  rcases h with ⟨rfl, h⟩ | ⟨hN, h⟩
  · rw [hm.b b h]; exact hx
  · split at h
    · rename_i z hz
      rw [Nat.beq_eq] at h
      subst h
      have := hm.bm (c - B.NB) _ q hz hx
      rwa [show B.NB + (c - B.NB) = c by omega] at this
    · cases h
/-- The ranges are right. -/
def RngOk (H : AH) (σ : Env) : Prop := ∀ (x : Num) (n lo hi : Int), x.den σ = some n → H.range x = some (lo, hi) → lo ≤ n ∧ n ≤ hi
def fitN (H : AH) (k : IntKind) (x : Num) (k' : IntKind) (lo hi : Int) : Bool :=
  decide (k = k') && (match H.range x with | some q => decide (lo ≤ q.1) && decide (q.2 ≤ hi) | none => false)
theorem fitN_ok {H : AH} {σ : Env} (hr : RngOk H σ) {imm : Imm} {k k' : IntKind} {x : Num} {lo hi n : Int} (h : fitN H k x k' lo hi = true) (hx : x.den σ = some n) : SatSh imm (.int k' lo hi) (.int k n) := by
  unfold fitN at h
  simp only [Bool.and_eq_true, decide_eq_true_eq] at h
  obtain ⟨rfl, h⟩ := h
  split at h
  · rename_i q hq
    simp only [Bool.and_eq_true, decide_eq_true_eq] at h
    have := hr x n q.1 q.2 hx hq
    simp only [SatSh]
    exact ⟨n, rfl, by omega, by omega⟩
  · cases h
def fitSl (H : AH) (cs : List Sh) (l : Num) (cs' : List Sh) (lo hi : Nat) : Bool :=
  Sh.beqL cs cs' && (match H.range l with | some q => decide ((lo : Int) ≤ q.1) && decide (q.2 ≤ (hi : Int)) | none => false)
theorem fitSl_ok {H : AH} {σ : Env} (hr : RngOk H σ) {cs cs' : List Sh} {l : Num} {lo hi : Nat} {v : Value} (h : fitSl H cs l cs' lo hi = true) (hs : Sat σ (.osl cs l) v) : SatSh σ.imm (.slice cs' lo hi) v := by
  unfold fitSl at h
  simp only [Bool.and_eq_true] at h
  have := Sh.beqL_eq _ _ h.1
  subst this
  have h := h.2
  simp only [Sat] at hs
  obtain ⟨base, n, cap, rfl, h1, h2, h3⟩ := hs
  split at h
  · rename_i q hq
    simp only [Bool.and_eq_true, decide_eq_true_eq] at h
    have := hr l n q.1 q.2 h1 hq
    simp only [SatSh]
    exact ⟨base, n, cap, rfl, by omega, by omega, h2, h3⟩
  · cases h
mutual
def reAV (H : AH) (B : RB) : AV → AV → Bool
  | _, .top => true
  | .int k x, .int k' y => decide (k = k') && reNum B x y
  | .bool e, .bool f => reBE B e f
  | .str l, .str l' => decide (l = l')
  | .lit v, .lit v' => litEq v v'
  | .ptr b o, .ptr b' o' => reB B b b' && decide (o = o')
  | .eptr b o e i s l, .eptr b' o' e' i' s' l' => reB B b b' && decide (o = o') && decide (e = e') && decide (s = s') && decide (l = l') && reNum B i i'
  | .sl b o e l c, .sl b' o' e' l' c' => reB B b b' && decide (o = o') && decide (e = e') && reNum B l l' && reNum B c c'
  | .agg l, .agg l' => reAVL H B l l'
  | .tup l, .tup l' => reAVL H B l l'
  | .fn f l, .fn f' l' => decide (f = f') && reAVL H B l l'
  | .ifc t a, .ifc t' a' => decide (t = t') && reAV H B a a'
  | .osl cs l, .osl cs' l' => Sh.beqL cs cs' && reNum B l l'
  | .oaddr cs, .oaddr cs' => Sh.beqL cs cs'
  | .int k x, .any (.int k' lo hi) => fitN H k x k' lo hi
  | .bool _, .any .bool => true
  | .str _, .any .str => true
  | .lit v, .any s => zeroOk v s
  | .osl cs l, .any (.slice cs' lo hi) => fitSl H cs l cs' lo hi
  | .any s, .any s' => shLe s s'
  | _, _ => false
def reAVL (H : AH) (B : RB) : List AV → List AV → Bool
  | [], [] => true
  | a :: l, b :: l' => reAV H B a b && reAVL H B l l'
  | _, _ => false
end
theorem reAV_any_int {H : AH} {B : RB} {σ τ : Env} (hr : RngOk H σ) {k : IntKind} {x : Num} {s : Sh} {v : Value} (h : reAV H B (.int k x) (.any s) = true) (hs : Sat σ (.int k x) v) : Sat τ (.any s) v := by
  cases s with
  | int k' lo hi =>
    simp only [reAV] at h
    simp only [Sat] at hs ⊢
    obtain ⟨n, h1, rfl⟩ := hs
    exact fitN_ok hr h h1
  | _ => simp [reAV] at h
theorem reAV_any_bool {H : AH} {B : RB} {σ τ : Env} {e : BE} {s : Sh} {v : Value} (h : reAV H B (.bool e) (.any s) = true) (hs : Sat σ (.bool e) v) : Sat τ (.any s) v := by
  cases s with
  | bool =>
    simp only [Sat] at hs ⊢
    obtain ⟨b, _, rfl⟩ := hs
    simp [SatSh]
  | _ => simp [reAV] at h
theorem reAV_any_str {H : AH} {B : RB} {σ τ : Env} {l : List Nat} {s : Sh} {v : Value} (h : reAV H B (.str l) (.any s) = true) (hs : Sat σ (.str l) v) : Sat τ (.any s) v := by
  cases s with
  | str =>
    simp only [Sat] at hs ⊢
    obtain ⟨b, _, rfl⟩ := hs
    simp [SatSh]
  | _ => simp [reAV] at h
theorem reAV_any_lit {H : AH} {B : RB} {σ τ : Env} {u : Value} {s : Sh} {v : Value} (h : reAV H B (.lit u) (.any s) = true) (hs : Sat σ (.lit u) v) : Sat τ (.any s) v := by
  simp only [reAV] at h
  simp only [Sat] at hs ⊢
  subst hs
  exact zeroOk_sound h
theorem reAV_any_osl {H : AH} {B : RB} {σ τ : Env} (hr : RngOk H σ) (hm : B.Maps σ τ) {cs : List Sh} {l : Num} {s : Sh} {v : Value} (h : reAV H B (.osl cs l) (.any s) = true) (hs : Sat σ (.osl cs l) v) : Sat τ (.any s) v := by
  cases s with
  | slice cs' lo hi =>
    simp only [reAV] at h
    have := fitSl_ok hr h hs
    simp only [Sat]
    rw [hm.imm]; exact this
  | _ => simp [reAV] at h
mutual
theorem reAV_sound {H : AH} {B : RB} {σ τ : Env} (hr : RngOk H σ) (hm : B.Maps σ τ) : ∀ (a b : AV) (v : Value), reAV H B a b = true → Sat σ a v → Sat τ b v
  | a, .top, v, h, hs => by simp [Sat]
  | .int k x, b, v, h, hs => by
    cases b <;> first | exact reAV_any_int hr h hs | skip
    all_goals simp only [reAV] at h <;> try (first | (simp only [Sat]; done) | (cases h; done))
    simp only [Bool.and_eq_true, decide_eq_true_eq] at h
    obtain ⟨rfl, h⟩ := h
    simp only [Sat] at hs ⊢
    obtain ⟨n, h1, rfl⟩ := hs
    exact ⟨n, reNum_sound hm h h1, rfl⟩
  | .bool e, b, v, h, hs => by
    cases b <;> first | exact reAV_any_bool h hs | skip
    all_goals simp only [reAV] at h <;> try (first | (simp only [Sat]; done) | (cases h; done))
    simp only [Sat] at hs ⊢
    obtain ⟨n, h1, rfl⟩ := hs
    exact ⟨n, reBE_sound hm h h1, rfl⟩
  | .str l, b, v, h, hs => by
    cases b <;> first | exact reAV_any_str h hs | skip
    all_goals simp only [reAV] at h <;> try (first | (simp only [Sat]; done) | (cases h; done))
    simp only [decide_eq_true_eq] at h
    subst h
    simpa only [Sat] using hs
  | .lit u, b, v, h, hs => by
    cases b <;> first | exact reAV_any_lit h hs | skip
    all_goals simp only [reAV] at h <;> try (first | (simp only [Sat]; done) | (cases h; done))
    have := litEq_eq h
    subst this
    simpa only [Sat] using hs
  | .ptr .., b, v, h, hs => by
    cases b <;> simp only [reAV] at h <;> try (first | (simp only [Sat]; done) | (cases h; done))
    simp only [Bool.and_eq_true, decide_eq_true_eq] at h
    obtain ⟨h, rfl⟩ := h
    simp only [Sat] at hs ⊢
    obtain ⟨n, sz, h1, rfl⟩ := hs
    exact ⟨n, sz, reB_sound hm h h1, rfl⟩
  | .eptr .., b, v, h, hs => by
    cases b <;> simp only [reAV] at h <;> try (first | (simp only [Sat]; done) | (cases h; done))
    simp only [Bool.and_eq_true, decide_eq_true_eq] at h
    obtain ⟨⟨⟨⟨⟨h0, rfl⟩, rfl⟩, rfl⟩, rfl⟩, h⟩ := h
    simp only [Sat] at hs ⊢
    obtain ⟨n, sz, k, h1, h2, h3⟩ := hs
    exact ⟨n, sz, k, reB_sound hm h0 h1, reNum_sound hm h h2, h3⟩
  | .sl .., b, v, h, hs => by
    cases b <;> simp only [reAV] at h <;> try (first | (simp only [Sat]; done) | (cases h; done))
    simp only [Bool.and_eq_true, decide_eq_true_eq] at h
    obtain ⟨⟨⟨⟨h0, rfl⟩, rfl⟩, h⟩, h'⟩ := h
    simp only [Sat] at hs ⊢
    obtain ⟨n, sz, l, c, h1, h2, h3, h4⟩ := hs
    exact ⟨n, sz, l, c, reB_sound hm h0 h1, reNum_sound hm h h2, reNum_sound hm h' h3, h4⟩
  | .agg l, b, v, h, hs => by
    cases b <;> simp only [reAV] at h <;> try (first | (simp only [Sat]; done) | (cases h; done))
    simp only [Sat] at hs ⊢
    obtain ⟨vs, rfl, h1⟩ := hs
    exact ⟨vs, rfl, reAVL_sound hr hm _ _ vs h h1⟩
  | .tup l, b, v, h, hs => by
    cases b <;> simp only [reAV] at h <;> try (first | (simp only [Sat]; done) | (cases h; done))
    simp only [Sat] at hs ⊢
    obtain ⟨vs, rfl, h1⟩ := hs
    exact ⟨vs, rfl, reAVL_sound hr hm _ _ vs h h1⟩
  | .fn f l, b, v, h, hs => by
    cases b <;> simp only [reAV] at h <;> try (first | (simp only [Sat]; done) | (cases h; done))
    simp only [Bool.and_eq_true, decide_eq_true_eq] at h
    obtain ⟨rfl, h⟩ := h
    simp only [Sat] at hs ⊢
    obtain ⟨vs, rfl, h1⟩ := hs
    exact ⟨vs, rfl, reAVL_sound hr hm _ _ vs h h1⟩
  | .ifc t a, b, v, h, hs => by
    cases b <;> simp only [reAV] at h <;> try (first | (simp only [Sat]; done) | (cases h; done))
    simp only [Bool.and_eq_true, decide_eq_true_eq] at h
    obtain ⟨rfl, h⟩ := h
    simp only [Sat] at hs ⊢
    obtain ⟨u, rfl, h1⟩ := hs
    exact ⟨u, rfl, reAV_sound hr hm _ _ u h h1⟩
  | .osl cs l, b, v, h, hs => by
    cases b <;> first | exact reAV_any_osl hr hm h hs | skip
    all_goals simp only [reAV] at h <;> try (first | (simp only [Sat]; done) | (cases h; done))
    simp only [Bool.and_eq_true] at h
    obtain ⟨h0, h⟩ := h
    have := Sh.beqL_eq _ _ h0; subst this
    simp only [Sat] at hs ⊢
    obtain ⟨base, l', cap, rfl, h1, h2⟩ := hs
    refine ⟨_, _, _, rfl, reNum_sound hm h h1, ?_⟩
    rw [hm.imm]; exact h2
  | .oaddr cs, b, v, h, hs => by
    cases b <;> simp only [reAV] at h <;> try (first | (simp only [Sat]; done) | (cases h; done))
    have := Sh.beqL_eq _ _ h; subst this
    simp only [Sat] at hs ⊢
    rw [hm.imm]; exact hs
  | .any s, b, v, h, hs => by
    cases b <;> simp only [reAV] at h <;> try (first | (simp only [Sat]; done) | (cases h; done))
    simp only [Sat] at hs ⊢
    rw [hm.imm]
    exact shLe_sound h hs
  | .top, b, v, h, hs => by
    cases b <;> simp only [reAV] at h <;> first | (simp only [Sat]; done) | (cases h; done)
theorem reAVL_sound {H : AH} {B : RB} {σ τ : Env} (hr : RngOk H σ) (hm : B.Maps σ τ) : ∀ (l l' : List AV) (vs : List Value), reAVL H B l l' = true → SatL σ l vs → SatL τ l' vs
  | [], l', vs, h, hs => by
    cases l' with
    | nil => simpa only [SatL] using hs
    | cons => simp [reAVL] at h
  | a :: l, l', vs, h, hs => by
    cases l' with
    | nil => simp [reAVL] at h
    | cons b l' =>
      simp only [reAVL, Bool.and_eq_true] at h
      simp only [SatL] at hs ⊢
      obtain ⟨v, vs', rfl, h1, h2⟩ := hs
      exact ⟨v, vs', rfl, reAV_sound hr hm _ _ v h.1 h1, reAVL_sound hr hm _ _ vs' h.2 h2⟩
end

def reAB (H : AH) (B : RB) (x y : AB) : Bool :=
  decide (x.e = y.e) && Nat.ble y.n x.n && Sh.beqL x.d y.d && trZip (reAV H B) x.t y.t && (y.d.isEmpty || trDef (fun j a => reAV H B a (shNth y.d j)) x.t y.t 0 1)
theorem reAB_sound {H : AH} {B : RB} {σ τ : Env} (hr : RngOk H σ) (hm : B.Maps σ τ) {x y : AB} {w : World} {n sz : Nat} (h : reAB H B x y = true) (hb : BlkOk σ w x n sz) : BlkOk τ w y n sz := by
  unfold reAB at h
  simp only [Bool.and_eq_true, decide_eq_true_eq, Nat.ble_eq, Bool.or_eq_true] at h
  obtain ⟨⟨⟨⟨h1, h2⟩, h3⟩, h4⟩, h5⟩ := h
  have h3 := Sh.beqL_eq _ _ h3
  obtain ⟨c, e1, e2, e3, e4⟩ := hb
  refine ⟨c, by rw [← h1]; exact e1, e2, by omega, fun j v hv => ?_⟩
  have hx := e4 j v hv
  unfold CellOk at *
  cases hy : y.t.get j with
  | some b =>
    obtain ⟨a, ha, hl⟩ := trZip_get h4 hy
    rw [ha] at hx
    exact reAV_sound hr hm a b v hl hx
  | none =>
    dsimp only
    cases hxj : x.t.get j with
    | none => rw [hxj] at hx; rw [← h3, hm.imm]; exact hx
    | some a =>
      rcases h5 with h5 | h5
      · have : y.d = [] := by simpa using h5
        rw [this]; simp [SatShAt]
      · rcases trDef_get h5 hxj with ⟨b, hb⟩ | hb
        · rw [hy] at hb; cases hb
        · simp only [Nat.zero_add, Nat.one_mul] at hb
          rw [hxj] at hx
          exact shNth_at (reAV_sound hr hm a _ v hb hx)
/-- The name in the first that a name of the second had. -/
def srcB (B : RB) (b : Nat) : Option Nat := bif Nat.blt b B.NB then some b else B.bm[b - B.NB]?
def reRng (B : RB) (H : AH) (i : Nat) (r : Int × Int) : Bool :=
  bif Nat.blt i B.N then (match H.rng.get i with | some q => decide (r.1 ≤ q.1) && decide (q.2 ≤ r.2) | none => false)
  else match B.fm[i - B.N]? with
    | some (.num x) => (match H.range x with | some q => decide (r.1 ≤ q.1) && decide (q.2 ≤ r.2) | none => false)
    | some (.be _) => decide (r.1 ≤ 0) && decide (1 ≤ r.2)
    | none => false
def mvOk (H : AH) : MV → Bool
  | .num x => (H.range x).isSome
  | .be _ => true
def reBlk (ro : Nat → Bool) (B : RB) (H : AH) (b : Nat) (ab : AB) : Bool :=
  match srcB B b with
  | some c => (match H.hp.get c with | some x => reAB H B x ab | none => false)
  | none => false
def distinct : List Nat → Bool
  | [] => true
  | a :: l => !(l.contains a) && distinct l
theorem Rel.range_den {ro : Nat → Bool} {g : Gh} {σ : Env} {w : World} {H : AH} (R : Rel ro g σ H w) {x : Num} {q : Int × Int} (h : H.range x = some q) : ∃ n, x.den σ = some n := by
  unfold AH.range at h
  unfold Num.den
  cases hs : x.s with
  | none => exact ⟨_, rfl⟩
  | some i =>
    rw [hs] at h
    dsimp only at h
    cases hg : H.rng.get i with
    | none => rw [hg] at h; cases h
    | some r =>
      obtain ⟨n, hn, _⟩ := R.rng i r hg
      exact ⟨n + x.c, by simp [hn]⟩
/-- What a number of the second is in the first. -/
def invN (B : RB) (y : Num) : Option Num :=
  match y.s with
  | none => some y
  | some i => bif Nat.blt i B.N then some y else match B.fm[i - B.N]? with
    | some (.num z) => some ⟨z.s, z.c + y.c⟩
    | _ => none
theorem invN_sound {B : RB} {σ τ : Env} (hm : B.Maps σ τ) {x y : Num} {n : Int} (h : invN B y = some x) (hx : x.den σ = some n) : y.den τ = some n := by
  unfold invN at h
  split at h
  · rename_i hs; cases h; simpa only [Num.den, hs] using hx
  · rename_i i hi
    rw [cond_eq_ite] at h
    split at h
    · rename_i hlt
      rw [Nat.blt_eq] at hlt
      cases h
      simp only [Num.den, hi] at hx ⊢
      rw [hm.n i hlt]; exact hx
    · rename_i hlt
      rw [Nat.blt_eq] at hlt
      split at h
      · rename_i z hz
        cases h
        have hz' : z.den σ = some (n - y.c) := by
          simp only [Num.den] at hx ⊢
          split at hx
          · cases hx; congr 1; omega
          · simp only [Option.map_eq_some_iff] at hx ⊢
            obtain ⟨q, hq, rfl⟩ := hx
            exact ⟨q, hq, by omega⟩
        have := hm.fm (i - B.N) _ _ hz hz'
        rw [show B.N + (i - B.N) = i by omega] at this
        simp only [Num.den, hi, this, Option.map_some, Option.some.injEq]
        omega
      · cases h
def orKnown (H : AH) (op : BinOp) (k : IntKind) (x y r : Num) : Bool :=
  decide (op = .or) && decide (k = .u16) && byteN H y && (match findMul x H.fx with
    | some p => byteN H p && ((decide (y.s = none) && decide (r = ⟨x.s, x.c + y.c⟩)) || (match findOr r H.fx with
        | some (a, b, r0) => decide (a = x) && byteN H b && decide (b.s = y.s) && decide (y.c - b.c = r.c - r0.c)
        | none => false))
    | none => false)
def opKnown (H : AH) (op : BinOp) (k : IntKind) (x y r : Num) : Bool := H.fx.any (fun f => decide (f = .op op k x y r)) || orKnown H op k x y r
theorem byteN_den {ro : Nat → Bool} {g : Gh} {σ : Env} {H : AH} {w : World} (R : Rel ro g σ H w) {x : Num} (h : byteN H x = true) : ∃ n, x.den σ = some n := by
  unfold byteN at h
  split at h
  · rename_i a b hr
    exact R.range_den hr
  · cases h
theorem opKnown_sound {ro : Nat → Bool} {g : Gh} {σ : Env} {H : AH} {w : World} (R : Rel ro g σ H w) {op : BinOp} {k : IntKind} {x y r : Num} (h : opKnown H op k x y r = true) : FxOk σ w (.op op k x y r) := by
  unfold opKnown at h
  rw [Bool.or_eq_true] at h
  rcases h with h | h
  · rw [List.any_eq_true] at h
    obtain ⟨f, hf, he⟩ := h
    simp only [decide_eq_true_eq] at he
    subst he
    exact R.fx _ hf
  · unfold orKnown at h
    simp only [Bool.and_eq_true, decide_eq_true_eq] at h
    obtain ⟨⟨⟨rfl, rfl⟩, hy⟩, h⟩ := h
    obtain ⟨yn, hyn⟩ := byteN_den R hy
    have hyr := R.byteN hyn hy
    split at h
    · rename_i p hm
      simp only [Bool.and_eq_true, Bool.or_eq_true, decide_eq_true_eq] at h
      obtain ⟨hp, h⟩ := h
      obtain ⟨a, b, c, h1, h2, h3, h4⟩ := R.fx _ (findMul_mem hm)
      have hpr := R.byteN h1 hp
      simp only [Num.den, Option.some.injEq] at h2
      subst h2
      rw [mul_page hpr.1 hpr.2] at h4
      cases h4
      refine ⟨a * 256, yn, a * 256 + yn, h3, hyn, ?_, or_page hpr.1 hpr.2 hyr.1 hyr.2⟩
      rcases h with ⟨hs, rfl⟩ | h
      · simp only [Num.den, hs, Option.some.injEq] at hyn
        subst hyn
        simp only [Num.den] at h3 ⊢
        split at h3
        · rename_i hi; simp only [hi, Option.some.injEq] at h3 ⊢; omega
        · simp only [Option.map_eq_some_iff] at h3
          obtain ⟨q, hq, hqe⟩ := h3
          rename_i i hi
          simp only [hi, hq, Option.map_some, Option.some.injEq]
          omega
      · split at h
        · rename_i a' b' r0 ho
          simp only [Bool.and_eq_true, decide_eq_true_eq] at h
          obtain ⟨⟨⟨rfl, hb⟩, hbs⟩, hd⟩ := h
          obtain ⟨ho1, ho2⟩ := findOr_mem ho
          obtain ⟨a2, b2, c2, k1, k2, k3, k4⟩ := R.fx _ ho1
          have hb2 := R.byteN k2 hb
          rw [h3] at k1; cases k1
          rw [or_page hpr.1 hpr.2 hb2.1 hb2.2] at k4
          cases k4
          have e1 : yn - y.c = b2 - b'.c := by
            simp only [Num.den, hbs] at hyn k2
            split at hyn
            · rename_i hs; simp only [hs, Option.some.injEq] at k2 hyn; omega
            · rename_i i hs
              simp only [hs, Option.map_eq_some_iff] at k2 hyn
              obtain ⟨q, q1, q2⟩ := k2
              obtain ⟨q', q3, q4⟩ := hyn
              rw [q1] at q3; cases q3; omega
          simp only [Num.den, ho2] at k3 ⊢
          split at k3
          · rename_i hs; simp only [hs, Option.some.injEq] at k3 ⊢; omega
          · rename_i i hs
            simp only [hs, Option.map_eq_some_iff] at k3 ⊢
            obtain ⟨q, q1, q2⟩ := k3
            exact ⟨q, q1, by omega⟩
        · cases h
    · cases h
def reFx (B : RB) (H : AH) : Fx → Bool
  | .op op k x y r => (match invN B x, invN B y, invN B r with
    | some x', some y', some r' => opKnown H op k x' y' r'
    | _, _, _ => false)
  | _ => false
theorem reFx_sound {B : RB} {ro : Nat → Bool} {g : Gh} {σ τ : Env} {H : AH} {w : World} (hm : B.Maps σ τ) (R : Rel ro g σ H w) {f : Fx} (h : reFx B H f = true) : FxOk τ w f := by
  cases f with
  | op op k x y r =>
    simp only [reFx] at h
    split at h
    · rename_i x' y' r' hx hy hr
      obtain ⟨a, b, c, h1, h2, h3, h4⟩ := opKnown_sound R h
      exact ⟨a, b, c, invN_sound hm hx h1, invN_sound hm hy h2, invN_sound hm hr h3, h4⟩
    · cases h
  | _ => simp [reFx] at h
/-- A range that a page and a place within it give. -/
def findOrJ (i : Nat) : List Fx → Option (Num × Num)
  | [] => none
  | .op .or .u16 x y r :: l => bif decide (r = ⟨some i, 0⟩) then some (x, y) else findOrJ i l
  | _ :: l => findOrJ i l
theorem findOrJ_mem {i : Nat} {x y : Num} : ∀ {l : List Fx}, findOrJ i l = some (x, y) → Fx.op .or .u16 x y ⟨some i, 0⟩ ∈ l := by
  intro l
  fun_induction findOrJ i l with
  | case1 => intro h; cases h
  | case2 x' y' r l hc =>
    intro h
    simp only [decide_eq_true_eq] at hc
    subst hc
    cases h; exact List.mem_cons_self ..
  | case3 x' y' r'' l hc ih => intro h; exact List.mem_cons_of_mem _ (ih h)
  | case4 _ _ _ ih => intro h; exact List.mem_cons_of_mem _ (ih h)
def orRngOk (H : AH) (x y : Num) (r : Int × Int) : Bool :=
  match findMul x H.fx with
  | some p => byteN H p && byteN H y && (match H.range x, H.range y with
    | some (a, b), some (c, d) => decide (r.1 ≤ a + c) && decide (b - b % 256 + d ≤ r.2)
    | _, _ => false)
  | none => false
theorem orRngOk_sound {ro : Nat → Bool} {g : Gh} {σ : Env} {H : AH} {w : World} (R : Rel ro g σ H w) {x y : Num} {r : Int × Int} {a b c : Int} (h : orRngOk H x y r = true)
    (hx : x.den σ = some a) (hy : y.den σ = some b) (he : intOp .or .u16 a b = some c) : r.1 ≤ c ∧ c ≤ r.2 := by
  unfold orRngOk at h
  split at h
  · rename_i p hm
    simp only [Bool.and_eq_true] at h
    obtain ⟨⟨hp, hb⟩, h⟩ := h
    obtain ⟨a', b', c', h1, h2, h3, h4⟩ := R.fx _ (findMul_mem hm)
    have hpr := R.byteN h1 hp
    have hyr := R.byteN hy hb
    simp only [Num.den, Option.some.injEq] at h2
    subst h2
    rw [mul_page hpr.1 hpr.2] at h4
    cases h4
    rw [hx] at h3; cases h3
    rw [or_page hpr.1 hpr.2 hyr.1 hyr.2] at he
    cases he
    split at h
    · rename_i a0 b0 c0 d0 hr1 hr2
      simp only [Bool.and_eq_true, decide_eq_true_eq] at h
      have q1 := R.range hx hr1
      have q2 := R.range hy hr2
      omega
    · cases h
  · cases h
def reRngF (B : RB) (H : AH) (fx : List Fx) (i : Nat) (r : Int × Int) : Bool :=
  reRng B H i r || (match findOrJ i fx with
    | some (x, y) => (match invN B x, invN B y with
      | some x', some y' => orRngOk H x' y' r
      | _, _ => false)
    | none => false)
/-- An order of two numbers that the first knows too. -/
def ltOk (B : RB) (H : AH) (p : Num × Num) : Bool := match invN B p.1, invN B p.2 with
  | some x, some y => (match H.mkLt x y with
    | .c b => b
    | _ => false) && (H.range x).isSome && (H.range y).isSome
  | _, _ => false
theorem ltOk_sound {B : RB} {ro : Nat → Bool} {g : Gh} {σ τ : Env} {H : AH} {w : World} (hm : B.Maps σ τ) (R : Rel ro g σ H w) {p : Num × Num} (h : ltOk B H p = true) : ∃ a b, p.1.den τ = some a ∧ p.2.den τ = some b ∧ a < b := by
  unfold ltOk at h
  split at h
  · rename_i x y hx hy
    simp only [Bool.and_eq_true, Option.isSome_iff_exists] at h
    obtain ⟨⟨h, q1, e1⟩, q2, e2⟩ := h
    obtain ⟨a, ha⟩ := R.range_den e1
    obtain ⟨b, hb⟩ := R.range_den e2
    have hd := R.mkLt ha hb
    split at h
    · rename_i c hc
      rw [hc] at hd
      simp only [BE.den, Option.some.injEq] at hd
      rw [h] at hd
      exact ⟨a, b, invN_sound hm hx ha, invN_sound hm hy hb, by simpa using hd.symm⟩
    · cases h
  · cases h
def reSt (ro : Nat → Bool) (B : RB) (S J : St) : Bool :=
  Nat.beq J.H.nn (B.N + B.fm.length) && Nat.beq J.H.nb (B.NB + B.bm.length) && Nat.ble B.N S.H.nn && Nat.ble B.NB S.H.nb &&
  J.H.lts.all (ltOk B S.H) && J.H.fx.all (reFx B S.H) &&
  trAll (reRngF B S.H J.H.fx) J.H.rng 0 1 && trZip (reAV S.H B) S.F J.F && trAll (reBlk ro B S.H) J.H.hp 0 1 &&
  distinct B.bm && B.bm.all (fun c => ro c && Nat.blt c S.H.nb && (Nat.ble B.NB c || (J.H.hp.get c).isNone))
theorem distinct_get : ∀ {l : List Nat}, distinct l = true → ∀ (i j c : Nat), l[i]? = some c → l[j]? = some c → i = j
  | [], _, i, j, c, h1, _ => by simp at h1
  | a :: l, h, i, j, c, h1, h2 => by
    simp only [distinct, Bool.and_eq_true, Bool.not_eq_true', List.contains_eq_mem, decide_eq_false_iff_not] at h
    cases i with
    | zero =>
      cases j with
      | zero => rfl
      | succ j => simp at h1 h2; subst h1; exact absurd (List.mem_of_getElem? h2) h.1
    | succ i =>
      cases j with
      | zero => simp at h1 h2; subst h2; exact absurd (List.mem_of_getElem? h1) h.1
      | succ j => simp at h1 h2; rw [distinct_get h.2 i j c h1 h2]
section
variable {ro : Nat → Bool} {g : Gh} {σ : Env} {w : World} {nt : Nat} {d : List Deferred} {a : Act}
theorem reSt_sound {B : RB} {S J : St} (h : reSt ro B S J = true) (R : Rel ro g σ S.H w) (hf : Fr nt d σ S.F a) :
    ∃ τ, B.Maps σ τ ∧ Rel ro g τ J.H w ∧ Fr nt d τ J.F a ∧ (∀ σ0 : Env, σ0.le σ → σ0.n.length ≤ B.N → σ0.b.length ≤ B.NB → σ0.le τ) := by
  unfold reSt at h
  simp only [Bool.and_eq_true, Nat.beq_eq, Nat.ble_eq, List.isEmpty_iff, List.all_eq_true, Nat.blt_eq, Bool.or_eq_true, Option.isNone_iff_eq_none] at h
  obtain ⟨⟨⟨⟨⟨⟨⟨⟨⟨⟨h1, h2⟩, h3⟩, h4⟩, h5⟩, h6⟩, h7⟩, h8⟩, h9⟩, h10⟩, h11⟩ := h
  let τ : Env := { n := σ.n.take B.N ++ B.fm.map (fun mv => (mv.den σ).getD 0), b := σ.b.take B.NB ++ B.bm.map (fun c => (σ.b[c]?).getD none), imm := σ.imm }
  have hN : (σ.n.take B.N).length = B.N := by simp [R.nlen]; omega
  have hNB : (σ.b.take B.NB).length = B.NB := by simp [R.blen]; omega
  have fmv : ∀ i mv, B.fm[i]? = some mv → τ.n[B.N + i]? = some ((mv.den σ).getD 0) := by
    intro i mv hi
    show (σ.n.take B.N ++ _)[B.N + i]? = _
    rw [List.getElem?_append_right (by omega), hN]
    simp [hi]
  have hm : B.Maps σ τ := by
    refine ⟨fun i hi => ?_, fun i mv n hi hn => by rw [fmv i mv hi, hn]; rfl, fun i hi => ?_, fun i c q hi hq => ?_, rfl⟩
    · show (σ.n.take B.N ++ _)[i]? = _
      rw [List.getElem?_append_left (by omega), List.getElem?_take_of_lt hi]
    · show (σ.b.take B.NB ++ _)[i]? = _
      rw [List.getElem?_append_left (by omega), List.getElem?_take_of_lt hi]
    · show (σ.b.take B.NB ++ _)[B.NB + i]? = _
      rw [List.getElem?_append_right (by omega), hNB]
      simp [hi, hq]
  -- where a block's name comes from
  have src : ∀ b ab, J.H.hp.get b = some ab → ∃ c x, srcB B b = some c ∧ S.H.hp.get c = some x ∧ reAB S.H B x ab = true ∧ (∀ q, σ.b[c]? = some q → τ.b[b]? = some q) ∧ ((b < B.NB ∧ c = b) ∨ (B.NB ≤ b ∧ B.bm[b - B.NB]? = some c)) := by
    intro b ab hb
    have := trAll_get h9 hb
    simp only [Nat.zero_add, Nat.one_mul] at this
    unfold reBlk at this
    split at this
    · rename_i c hc
      split at this
      · rename_i x hx
        refine ⟨c, x, hc, hx, this, ?_⟩
        unfold srcB at hc
        rw [cond_eq_ite] at hc
        split at hc
        · rename_i hlt
          rw [Nat.blt_eq] at hlt
          cases hc
          exact ⟨fun q hq => by rw [hm.b b hlt]; exact hq, .inl ⟨hlt, rfl⟩⟩
        · rename_i hlt
          rw [Nat.blt_eq] at hlt
          refine ⟨fun q hq => ?_, .inr ⟨by omega, hc⟩⟩
          have := hm.bm _ c q hc hq
          rwa [show B.NB + (b - B.NB) = b by omega] at this
      · cases this
    · cases this
  have srcV : ∀ b ab, J.H.hp.get b = some ab → ∀ n sz, τ.b[b]? = some (some (n, sz)) → ∃ c x, S.H.hp.get c = some x ∧ σ.b[c]? = some (some (n, sz)) ∧ ((b < B.NB ∧ c = b) ∨ (B.NB ≤ b ∧ B.bm[b - B.NB]? = some c)) := by
    intro b ab hb n sz hn
    obtain ⟨c, x, _, e2, _, e4, e5⟩ := src b ab hb
    obtain ⟨n', sz', k1, _⟩ := R.blk c x e2
    have := e4 _ k1
    rw [hn] at this; cases this
    exact ⟨c, x, e2, k1, e5⟩
  refine ⟨τ, hm, ⟨?_, ?_, ?_, ?_, ?_, ?_, R.imm, ?_, R.frame, R.sz, ?_, ?_, R.immo, ?_⟩, ⟨?_, hf.size, hf.defers⟩, ?_⟩
  · show (σ.n.take B.N ++ _).length = _
    rw [List.length_append, hN, List.length_map]; omega
  · intro i r hr
    have hp := trAll_get h7 hr
    simp only [Nat.zero_add, Nat.one_mul] at hp
    unfold reRngF at hp
    rw [Bool.or_eq_true] at hp
    rcases hp with hp | hp
    rotate_left
    · split at hp
      · rename_i x y hfo
        split at hp
        · rename_i x' y' hx' hy'
          have hmem := findOrJ_mem hfo
          have hk := h6 _ hmem
          simp only [reFx, hx', hy'] at hk
          split at hk
          · rename_i x2 y2 r2 e1 e2 e3
            cases e1; cases e2
            obtain ⟨a1, b1, c1, k1, k2, k3, k4⟩ := opKnown_sound R hk
            have hd := invN_sound hm e3 k3
            simp only [Num.den, Option.map_eq_some_iff] at hd
            obtain ⟨q, hq, hqe⟩ := hd
            have := orRngOk_sound R hp k1 k2 k4
            exact ⟨q, hq, by omega, by omega⟩
          · cases hk
        · cases hp
      · cases hp
    unfold reRng at hp
    rw [cond_eq_ite] at hp
    split at hp
    · rename_i hlt
      rw [Nat.blt_eq] at hlt
      split at hp
      · rename_i q hq
        simp only [Bool.and_eq_true, decide_eq_true_eq] at hp
        obtain ⟨n, hn, q1, q2⟩ := R.rng i q hq
        exact ⟨n, by rw [hm.n i hlt]; exact hn, by omega, by omega⟩
      · cases hp
    · rename_i hlt
      rw [Nat.blt_eq] at hlt
      split at hp
      · rename_i x hx
        have hv := fmv _ _ hx
        rw [show B.N + (i - B.N) = i by omega] at hv
        split at hp
        · rename_i q hq
          simp only [Bool.and_eq_true, decide_eq_true_eq] at hp
          obtain ⟨n, hn⟩ := R.range_den hq
          have := R.range hn hq
          exact ⟨n, by rw [hv]; simp [MV.den, hn], by omega, by omega⟩
        · cases hp
      · rename_i e hx
        have hv := fmv _ _ hx
        rw [show B.N + (i - B.N) = i by omega] at hv
        simp only [Bool.and_eq_true, decide_eq_true_eq] at hp
        refine ⟨_, hv, ?_⟩
        simp only [MV.den]
        cases hd : e.den σ with
        | none => simp; omega
        | some b => cases b <;> simp <;> omega
      · cases hp
  · intro p hp; exact ltOk_sound hm R (h5 p hp)
  · show (σ.b.take B.NB ++ _).length = _
    rw [List.length_append, hNB, List.length_map]; omega
  · intro b ab hb
    obtain ⟨c, x, _, e2, e3, e4, _⟩ := src b ab hb
    obtain ⟨n, sz, k1, k2⟩ := R.blk c x e2
    exact ⟨n, sz, e4 _ k1, reAB_sound (fun _ _ _ _ h1 h2 => R.range h1 h2) hm e3 k2⟩
  · intro b b' ab ab' n s s' hb hb' e1 e2
    obtain ⟨c, x, k1, k2, k3⟩ := srcV b ab hb n s e1
    obtain ⟨c', x', l1, l2, l3⟩ := srcV b' ab' hb' n s' e2
    have hcc := R.inj c c' x x' n s s' k1 l1 k2 l2
    subst hcc
    rcases k3 with ⟨p1, p2⟩ | ⟨p1, p2⟩ <;> rcases l3 with ⟨q1, q2⟩ | ⟨q1, q2⟩
    · omega
    · rcases (h11 c (List.mem_of_getElem? q2)).2 with h | h
      · omega
      · rw [p2, hb] at h; cases h
    · rcases (h11 c (List.mem_of_getElem? p2)).2 with h | h
      · omega
      · rw [q2, hb'] at h; cases h
    · have := distinct_get h10 _ _ c p2 q2
      omega
  · intro b ab n s hb e1
    obtain ⟨c, x, k1, k2, _⟩ := srcV b ab hb n s e1
    exact R.immd c x n s k1 k2
  · intro b n s hb e1
    have e1 : (σ.b.take B.NB ++ B.bm.map (fun c => (σ.b[c]?).getD none))[b]? = some (some (n, s)) := e1
    by_cases hlt : b < B.NB
    · rw [List.getElem?_append_left (by omega), List.getElem?_take_of_lt hlt] at e1
      exact R.own b n s hb e1
    · rw [List.getElem?_append_right (by omega), hNB, List.getElem?_map, Option.map_eq_some_iff] at e1
      obtain ⟨c, hc, e1⟩ := e1
      have hq : σ.b[c]? = some (some (n, s)) := by cases hx : σ.b[c]? <;> simp_all
      exact R.own c n s (h11 c (List.mem_of_getElem? hc)).1.1 hq
  · intro b n s e1
    have e1 : (σ.b.take B.NB ++ B.bm.map (fun c => (σ.b[c]?).getD none))[b]? = some (some (n, s)) := e1
    by_cases hlt : b < B.NB
    · rw [List.getElem?_append_left (by omega), List.getElem?_take_of_lt hlt] at e1
      exact R.bnd b n s e1
    · rw [List.getElem?_append_right (by omega), hNB, List.getElem?_map, Option.map_eq_some_iff] at e1
      obtain ⟨c, hc, e1⟩ := e1
      have hq : σ.b[c]? = some (some (n, s)) := by cases hx : σ.b[c]? <;> simp_all
      exact R.bnd c n s hq
  · intro f hf'
    exact reFx_sound hm R (h6 f hf')
  · intro i av hi
    obtain ⟨x, hx, hl⟩ := trZip_get h8 hi
    obtain ⟨v, e1, e2⟩ := hf.ok i x hx
    exact ⟨v, e1, reAV_sound (fun _ _ _ _ h1 h2 => R.range h1 h2) hm _ _ v hl e2⟩
  · intro σ0 hle l1 l2
    refine ⟨?_, ?_, hle.imm⟩
    · have : σ0.n <+: σ.n.take B.N := by
        rw [List.prefix_take_iff]; exact ⟨hle.n, l1⟩
      exact this.trans (List.prefix_append _ _)
    · have : σ0.b <+: σ.b.take B.NB := by
        rw [List.prefix_take_iff]; exact ⟨hle.b, l2⟩
      exact this.trans (List.prefix_append _ _)
end
end
end Go.Proofs.YtgkoghgiclkbhaaGreatDoor.Sx
namespace Go.Proofs.YtgkoghgiclkbhaaGreatDoor.Sx
open Go
noncomputable section
set_option linter.unusedVariables false
set_option linter.unusedSimpArgs false

/-! a loop, round by round -/
def Unr (P : Program) (c : Code) (Q : Exit → Act → World → Prop) : Nat → Act → World → Prop
  | 0, _, _ => False
  | n + 1, a, w => c.wp P (Exit.then (Unr P c Q n) Q) a w
theorem Exit.then_mono {K K' : Act → World → Prop} {Q : Exit → Act → World → Prop} (h : ∀ a w, K a w → K' a w) : ∀ e a w, Exit.then K Q e a w → Exit.then K' Q e a w := by
  intro e a w hh
  cases e <;> first | exact h _ _ hh | exact hh
open Classical in
theorem wp_unr {P : Program} {c : Code} {Q : Exit → Act → World → Prop} {n : Nat} {a : Act} {w : World} (h : Unr P c Q n a w) : (Code.loop c).wp P Q a w := by
  have least : ∀ a w, (∃ n, Unr P c Q n a w) → ∃ n, Unr P c Q n a w ∧ ∀ m, Unr P c Q m a w → n ≤ m := by
    intro a w ⟨n, hn⟩
    induction n using Nat.strongRecOn with
    | _ n ih =>
      by_cases hm : ∃ m, m < n ∧ Unr P c Q m a w
      · obtain ⟨m, hlt, hm⟩ := hm; exact ih m hlt hm
      · exact ⟨n, hn, fun m hm' => Nat.le_of_not_lt fun hlt => hm ⟨m, hlt, hm'⟩⟩
  let μ : Act → World → Nat := fun a w => if h : ∃ n, Unr P c Q n a w then (least a w h).choose else 0
  have μ_spec : ∀ a w, (h : ∃ n, Unr P c Q n a w) → Unr P c Q (μ a w) a w ∧ ∀ m, Unr P c Q m a w → μ a w ≤ m := by
    intro a w h
    have := (least a w h).choose_spec
    simpa [μ, h] using this
  refine wp_loop (fun a w => ∃ n, Unr P c Q n a w) μ ⟨n, h⟩ fun a w hI => ?_
  obtain ⟨h1, h2⟩ := μ_spec a w hI
  cases hm : μ a w with
  | zero => rw [hm] at h1; exact h1.elim
  | succ m =>
    rw [hm] at h1
    refine wp_mono h1 fun e a' w' he => Exit.then_mono (fun a' w' hu => ?_) e a' w' he
    have := (μ_spec a' w' ⟨m, hu⟩).2 m hu
    exact ⟨⟨m, hu⟩, by omega⟩

theorem Unr.succ {P : Program} {c : Code} {Q : Exit → Act → World → Prop} : ∀ {n : Nat} {a : Act} {w : World}, Unr P c Q n a w → Unr P c Q (n + 1) a w
  | 0, _, _, h => h.elim
  | n + 1, _, _, h => wp_mono h fun e a' w' he => Exit.then_mono (fun _ _ hu => Unr.succ hu) e a' w' he
theorem Unr.le {P : Program} {c : Code} {Q : Exit → Act → World → Prop} {n m : Nat} (hnm : n ≤ m) {a : Act} {w : World} (h : Unr P c Q n a w) : Unr P c Q m a w := by
  induction hnm with
  | refl => exact h
  | step _ ih => exact ih.succ
/-! the states joined -/
/-- What holds of the one holds of the other. -/
def LeS (S J : St) : Prop := ∀ (ro : Nat → Bool) (nt : Nat) (g : Gh) (d : List Deferred) (σ : Env) (a : Act) (w : World), Rel ro g σ S.H w → Fr nt d σ S.F a → ∃ σ', σ.le σ' ∧ Rel ro g σ' J.H w ∧ Fr nt d σ' J.F a

theorem LeS.refl (S : St) : LeS S S := fun ro nt g d σ a w R hf => ⟨σ, .refl σ, R, hf⟩
theorem LeS.trans {S J K : St} (h : LeS S J) (h' : LeS J K) : LeS S K := fun ro nt g d σ a w R hf =>
  let ⟨σ1, l1, R1, f1⟩ := h ro nt g d σ a w R hf
  let ⟨σ2, l2, R2, f2⟩ := h' ro nt g d σ1 a w R1 f1
  ⟨σ2, l1.trans l2, R2, f2⟩
/-! what a call leaves behind and nobody knows of -/
mutual
def refsA (k : Nat) : AV → List Nat → List Nat
  | .ptr b _, l => bif Nat.ble k b then b :: l else l
  | .eptr b _ _ _ _ _, l => bif Nat.ble k b then b :: l else l
  | .sl b _ _ _ _, l => bif Nat.ble k b then b :: l else l
  | .agg x, l => refsL k x l
  | .tup x, l => refsL k x l
  | .fn _ x, l => refsL k x l
  | .ifc _ a, l => refsA k a l
  | _, l => l
def refsL (k : Nat) : List AV → List Nat → List Nat
  | [], l => l
  | a :: x, l => refsL k x (refsA k a l)
end
def refsT (k : Nat) : Tr AV → List Nat → List Nat
  | .leaf, l => l
  | .node x v y, l => refsT k y (refsT k x (match v with | some a => refsA k a l | none => l))
/-- Of the blocks below k. -/
def refsH (k : Nat) : Tr AB → Nat → Nat → List Nat → List Nat
  | .leaf, _, _, l => l
  | .node x v y, base, step, l => refsH k y (base + 2 * step) (2 * step) (refsH k x (base + step) (2 * step) (match v with | some ab => (bif Nat.blt base k then refsT k ab.t l else l) | none => l))
def mark (k : Nat) (hp : Tr AB) : Nat → List Nat → List Nat → List Nat
  | 0, _, seen => seen
  | _, [], seen => seen
  | f + 1, b :: todo, seen => bif seen.contains b then mark k hp f todo seen else mark k hp f (match hp.get b with | some ab => refsT k ab.t todo | none => todo) (b :: seen)
def dropN (seen : List Nat) : Nat → Nat → AH → AH
  | _, 0, H => H
  | b, n + 1, H => dropN seen (b + 1) n (bif seen.contains b then H else match H.hp.get b with
    | some _ => { H with hp := H.hp.set b none }
    | none => H)
def gcS (full : Bool) (k : Nat) (p : AX × St) : AX × St :=
  bif Nat.blt k p.2.H.nb then (p.1, ⟨p.2.F, dropN (mark k p.2.H.hp 400 (bif full then refsH k p.2.H.hp 0 1 (refsT k p.2.F (match p.1 with | .panic v => refsA k v [] | _ => [])) else refsT k p.2.F (match p.1 with | .panic v => refsA k v [] | _ => [])) []) k (p.2.H.nb - k) p.2.H⟩) else p
theorem Rel.dropN {ro : Nat → Bool} {g : Gh} {σ : Env} {w : World} (seen : List Nat) : ∀ (n b : Nat) (H : AH), Rel ro g σ H w → Rel ro g σ (dropN seen b n H) w
  | 0, b, H, R => R
  | n + 1, b, H, R => by
    unfold Sx.dropN
    refine Rel.dropN seen n (b + 1) _ ?_
    rw [cond_eq_ite]
    split
    · exact R
    · split
      · exact R.drop b
      · exact R
theorem gcS_ok (full : Bool) (k : Nat) (p : AX × St) : (gcS full k p).1 = p.1 ∧ LeS p.2 (gcS full k p).2 := by
  unfold gcS
  rw [cond_eq_ite]
  split
  · exact ⟨rfl, fun ro nt g d σ a w R hf => ⟨σ, .refl σ, R.dropN _ _ _ _, hf⟩⟩
  · exact ⟨rfl, .refl _⟩
/-! the table of functions -/
structure FnI where
  nt : Nat
  res : List ResultVar
  body : Code
structure Env1 where
  P : Program
  tbl : Nat → Option FnI
  meth : TypeId → String → Option FuncId
  sum : FuncId → Option (List Sh × Sh)
  hc : Call1
  mrg : FuncId → Outs → Outs
  mrr : FuncId → Outs → Outs
  mrl : FuncId → Outs → Outs
  lp : FuncId → Bool
  prop : FuncId → Nat → Nat → St → List St → Option St
  rbs : St → St → Nat → Nat → RB
  rsh : FuncId → Option Sh
  fmo : FuncId → Bool
  cn : FuncId → Bool
  pl : FuncId → Bool
  pr : List Nat
  gcf : FuncId → Bool
def SumOk (P : Program) (f : FuncId) (shs : List Sh) (r : Sh) : Prop :=
  ∀ (w : World) (imm : Imm) (vs : List Value), (∀ b o, imm b = some o → w.heap[b]? = some o) → SatShL imm shs vs →
    Calls P f ⟨vs⟩ w fun e w' => ∃ v imm', e = .returned v ∧ Grown w w' ∧ Imm.le imm imm' ∧ (∀ b o, imm' b = some o → w'.heap[b]? = some o) ∧ (∀ b o, imm' b = some o → b < w.heap.size → imm b = some o) ∧ SatSh imm' r v
def FnOk (P : Program) (f : FuncId) (fi : FnI) : Prop :=
  ∃ fn, P.funcs[f]? = some fn ∧ fn.body = some fi.body ∧ fn.ntmps = fi.nt ∧ fn.results.toList = fi.res ∧ (fn.name == "runtime.NumGoroutine") = false
structure Env1.Ok (X : Env1) : Prop where
  tbl : ∀ f fi, X.tbl f = some fi → FnOk X.P f fi
  meth : ∀ t n f, X.meth t n = some f → ∀ v w, (method (X.P.types.size + Made.depth) t v n).run X.P w = .ok (f, v) w
  sum : ∀ f shs r, X.sum f = some (shs, r) → (∃ fi, X.tbl f = some fi) ∧ SumOk X.P f shs r
  hc : CallOk X.P X.hc
  mixed : X.P.follows .mixedOrders = true
  mrg : ∀ f l, ∀ p ∈ l, ∃ q ∈ X.mrg f l, q.1 = p.1 ∧ LeS p.2 q.2
  mrr : ∀ f l, ∀ p ∈ l, ∃ q ∈ X.mrr f l, q.1 = p.1 ∧ LeS p.2 q.2
  mrl : ∀ f l, ∀ p ∈ l, ∃ q ∈ X.mrl f l, q.1 = p.1 ∧ LeS p.2 q.2
def argsF : Nat → List AV → Tr AV
  | _, [] => .leaf
  | i, a :: l => (argsF (i + 1) l).set i (some a)
theorem callFunc_run {P : Program} {f : FuncId} {fi : FnI} (h : FnOk P f fi) (args : Array Value) (w : World) : (callFunc f args).run P w = .ok (.enter f args) w := by
  obtain ⟨fn, h1, h2, h3, h4, h5⟩ := h
  have h5' : (fn.name == "runtime.NumGoroutine") = false := h5
  simp only [callFunc, Sem.run_bind, run_program, Result.andThen_ok, h1, h5', h2, Option.isNone_some, Bool.false_eq_true, if_false, Sem.run_pure]
theorem argsF_ok {σ : Env} : ∀ (l : List AV) (vs : List Value) (i : Nat), SatL σ l vs → ∀ j av, (argsF i l).get j = some av → ∃ v, i ≤ j ∧ vs[j - i]? = some v ∧ Sat σ av v
  | [], vs, i, h, j, av, hg => by simp [argsF, Tr.get] at hg
  | a :: l, vs, i, h, j, av, hg => by
    simp only [SatL] at h
    obtain ⟨v, vs', rfl, h1, h2⟩ := h
    rcases Tr.get_set_some hg with ⟨rfl, hx⟩ | ⟨hne, hx⟩
    · cases hx; exact ⟨v, Nat.le_refl _, by simp, h1⟩
    · obtain ⟨u, e1, e2, e3⟩ := argsF_ok l vs' (i + 1) h2 j av hx
      refine ⟨u, by omega, ?_, e3⟩
      have : j - i = (j - (i + 1)) + 1 := by omega
      rw [this]; simpa using e2
/-! results -/
def resL (P : Program) (H : AH) (F : Tr AV) : List ResultVar → Option (List AV)
  | [] => some []
  | .tmp t :: l => match resL P H F l with
    | some r => some (aeval F (.tmp t) :: r)
    | none => none
  | .cell a t :: l => match loadV P H t (aeval F (.tmp a)), resL P H F l with
    | some b, some r => some (b :: r)
    | _, _ => none
def resV (P : Program) (H : AH) (F : Tr AV) (l : List ResultVar) : Option AV :=
  match resL P H F l with
  | some [a] => some a
  | some l => some (.tup l)
  | none => none
section
variable {ro : Nat → Bool} {g : Gh} {σ : Env} {H : AH} {w : World} {P : Program}
def resF (tmps : Array Value) : ResultVar → Sem Value
  | .tmp t => pure (tmps.getD t undef)
  | .cell a t => do loadVar t (← asAddr (tmps.getD a undef))
theorem resL_sound (R : Rel ro g σ H w) {F : Tr AV} {a : Act} (hf : FrOk σ F a) : ∀ (l : List ResultVar) (r : List AV), resL P H F l = some r →
    ∃ vs : List Value, SatL σ r vs ∧ (l.mapM (resF a.tmps)).run P w = .ok vs w
  | [], r, h => by simp only [resL, Option.some.injEq] at h; subst h; exact ⟨[], by simp [SatL], by simp⟩
  | .tmp t :: l, r, h => by
    simp only [resL] at h
    split at h
    · rename_i r' hr
      cases h
      obtain ⟨vs, h1, h2⟩ := resL_sound R hf l r' hr
      refine ⟨a.tmps.getD t undef :: vs, by simp only [SatL]; exact ⟨_, _, rfl, sat_aeval hf (.tmp t), h1⟩, ?_⟩
      rw [List.mapM_cons]
      simp [resF, h2]
    · cases h
  | .cell x t :: l, r, h => by
    simp only [resL] at h
    split at h
    · rename_i b r' hb hr
      cases h
      obtain ⟨vs, h1, h2⟩ := resL_sound R hf l r' hr
      obtain ⟨bl, off, V, e1, e2, e3, e4⟩ := loadV_sound R (sat_aeval hf (.tmp x)) hb
      refine ⟨V :: vs, by simp only [SatL]; exact ⟨_, _, rfl, e3, h1⟩, ?_⟩
      have e4 := e4 w rfl
      have e1' : a.tmps.getD x undef = .pointer (some ⟨bl, off, none⟩) := e1
      rw [show a.eval (.tmp x) = a.tmps.getD x undef from rfl, e1'] at e4
      simp only [Instr.loadAt, Instr.sureAddr, Sem.run_bind, Sem.run_pure, Result.andThen_ok] at e4
      rw [List.mapM_cons]
      simp [resF, e1', asAddr, e4, h2]
    · cases h
theorem resV_sound (R : Rel ro g σ H w) {F : Tr AV} {a : Act} (hf : FrOk σ F a) {fn : Func} {b : AV} (h : resV P H F fn.results.toList = some b) :
    ∃ V, Sat σ b V ∧ (results fn a.tmps).run P w = .ok V w := by
  have key : ∀ r, resL P H F fn.results.toList = some r → ∃ vs : List Value, SatL σ r vs ∧ (results fn a.tmps).run P w = .ok (if h : vs.length = 1 then vs[0] else .tuple ⟨vs⟩) w := by
    intro r hr
    obtain ⟨vs, h1, h2⟩ := resL_sound (P := P) R hf _ r hr
    refine ⟨vs, h1, ?_⟩
    have e : (fn.results.mapM (resF a.tmps)).run P w = .ok ⟨vs⟩ w := by
      rw [Array.mapM_eq_mapM_toList]
      simp [h2]
    have e' : results fn a.tmps = (do let vs ← fn.results.mapM (resF a.tmps); pure (if h : vs.size = 1 then vs[0] else .tuple vs)) := by
      unfold results
      congr 1
    rw [e']
    simp only [Sem.run_bind, e, Result.andThen_ok, Sem.run_pure]
    rfl
  unfold resV at h
  split at h
  · rename_i x hx
    cases h
    obtain ⟨vs, h1, h2⟩ := key _ hx
    simp only [SatL] at h1
    obtain ⟨v, vs', rfl, h3, rfl⟩ := h1
    exact ⟨v, h3, by simpa using h2⟩
  · rename_i l hne hl
    cases h
    obtain ⟨vs, h1, h2⟩ := key _ hl
    refine ⟨.tuple ⟨vs⟩, by simp only [Sat]; exact ⟨vs, rfl, h1⟩, ?_⟩
    have : vs.length ≠ 1 := by
      intro h0
      have := h1.length
      rw [h0] at this
      match l, this with
      | [x], _ => exact hne x rfl
    simpa [this] using h2
  · cases h
end
end
end Go.Proofs.YtgkoghgiclkbhaaGreatDoor.Sx
namespace Go.Proofs.YtgkoghgiclkbhaaGreatDoor.Sx
open Go
noncomputable section
set_option linter.unusedVariables false
set_option linter.unusedSimpArgs false
/-- Is j one of them? -/
def memN (j : Nat) : List Nat → Bool
  | [] => false
  | i :: t => bif Nat.beq i j then true else memN j t
def inB (n j : Nat) (tk : List Nat) : Bool := bif memN j tk then Nat.blt j n else false
/-- What is listed when these were taken. -/
def arrOf (n : Nat) : List Nat → Array Bool
  | [] => Array.replicate n false
  | i :: t => (arrOf n t).setIfInBounds i true
theorem arrOf_size (n : Nat) : ∀ tk : List Nat, (arrOf n tk).size = n
  | [] => by simp [arrOf]
  | i :: t => by simp [arrOf, arrOf_size n t]
theorem arrOf_get (n j : Nat) (h : j < n) : ∀ tk : List Nat, (arrOf n tk)[j]? = some (memN j tk)
  | [] => by simp [arrOf, memN, h]
  | i :: t => by
    simp only [arrOf, memN, Array.getElem?_setIfInBounds, arrOf_size, cond_eq_ite, Nat.beq_eq]
    by_cases hij : i = j
    · simp [hij, h]
    · simp [hij, arrOf_get n j h t]
theorem arrOf_getD (n j : Nat) (tk : List Nat) : (arrOf n tk).getD j false = inB n j tk := by
  unfold inB
  by_cases h : j < n
  · rw [Array.getD_eq_getD_getElem?, arrOf_get n j h]
    cases memN j tk <;> simp [Nat.blt_eq, h]
  · rw [Array.getD_eq_getD_getElem?, Array.getElem?_eq_none (by rw [arrOf_size]; omega)]
    have : Nat.blt j n = false := by
      rw [Bool.eq_false_iff]; intro hb; exact h (Nat.blt_eq.mp hb)
    cases memN j tk <;> simp [this]
theorem arrOf_getT (n j : Nat) (h : j < n) (tk : List Nat) : (arrOf n tk).getD j true = memN j tk := by
  rw [Array.getD_eq_getD_getElem?, arrOf_get n j h]; rfl
def aftOk (n : Nat) (tk : List Nat) (o : Oper) : Bool := o.after.toList.all fun e => bif Region.binds .any e then inB n e.on tk else true
def rdyK (n : Nat) (tk : List Nat) : Nat → List Oper → List Nat
  | _, [] => []
  | k, o :: r => bif memN k tk then rdyK n tk (k + 1) r else bif aftOk n tk o then k :: rdyK n tk (k + 1) r else rdyK n tk (k + 1) r
theorem range'_filter {ops : Array Oper} (p : Nat → Bool) (q : Nat → Oper → Bool) (hp : ∀ i o, ops[i]? = some o → p i = q i o) : ∀ (l : List Oper) (k : Nat), ops.toList.drop k = l →
    ∀ i ∈ List.range' k l.length, ∃ o, ops[i]? = some o ∧ p i = q i o
  | l, k, h, i, hi => by
    simp only [List.mem_range'_1] at hi
    have hl : l.length = ops.toList.length - k := by rw [← h, List.length_drop]
    have hlt : i < ops.size := by rw [← Array.length_toList]; omega
    exact ⟨ops[i], Array.getElem?_eq_getElem hlt, hp _ _ (Array.getElem?_eq_getElem hlt)⟩
theorem rdyK_eq {ops : Array Oper} (tk : List Nat) : rdyK ops.size tk 0 ops.toList = Region.ready .any ops (arrOf ops.size tk) := by
  have main : ∀ (l : List Oper) (k : Nat), ops.toList.drop k = l → rdyK ops.size tk k l = (List.range' k l.length).filter fun i =>
      !(arrOf ops.size tk).getD i true && ((ops[i]?).map (·.after.all fun e => !Region.binds .any e || (arrOf ops.size tk).getD e.on false)).getD false := by
    intro l
    induction l with
    | nil => intro k _; simp [rdyK]
    | cons o r ih =>
      intro k h
      have hk : ops.toList[k]? = some o := by
        have := List.getElem?_drop (xs := ops.toList) (i := k) (j := 0)
        rw [h] at this; simpa using this.symm
      have hka : ops[k]? = some o := by rw [← Array.getElem?_toList]; exact hk
      have hlt : k < ops.size := (Array.getElem?_eq_some_iff.1 hka).1
      have hr : ops.toList.drop (k + 1) = r := by rw [← List.drop_drop, h]; rfl
      have ha : aftOk ops.size tk o = (o.after.all fun e => !Region.binds .any e || (arrOf ops.size tk).getD e.on false) := by
        unfold aftOk
        rw [← Array.all_toList]
        congr 1
        funext e
        rw [arrOf_getD]
        cases Region.binds .any e <;> simp
      rw [List.length_cons, List.range'_succ, List.filter_cons, arrOf_getT _ _ hlt, hka, Option.map_some, Option.getD_some, ← ha, ← ih (k + 1) hr]
      simp only [rdyK]
      cases memN k tk <;> cases aftOk ops.size tk o <;> simp
  rw [main ops.toList 0 (by simp), Region.ready, List.range_eq_range', Array.length_toList]
def nthO : List Oper → Nat → Option Oper
  | [], _ => none
  | o :: r, i => bif Nat.beq i 0 then some o else nthO r (Nat.sub i 1)
theorem nthO_eq : ∀ (l : List Oper) (i : Nat), nthO l i = l[i]?
  | [], i => by simp [nthO]
  | o :: r, 0 => by simp [nthO]
  | o :: r, i + 1 => by
    simp only [nthO, show Nat.beq (i + 1) 0 = false from rfl, cond_false, List.getElem?_cons_succ]
    exact nthO_eq r i
theorem nthO_arr (ops : Array Oper) (i : Nat) : nthO ops.toList i = ops[i]? := by rw [nthO_eq, Array.getElem?_toList]
theorem nbeq (a b : Nat) : Nat.beq a b = (a == b) := by
  rw [Bool.eq_iff_iff, Nat.beq_eq, beq_iff_eq]
def freeGo (n : Nat) (tk : List Nat) (ops : Array Oper) (i : Nat) (oi : Oper) : Nat → List Oper → Bool
  | _, [] => true
  | k, o :: r => bif Nat.beq k i then freeGo n tk ops i oi (k + 1) r else bif memN k tk then freeGo n tk ops i oi (k + 1) r else
      bif o.after.toList.any (fun e => bif Region.binds .any e then Nat.beq e.on i else false) then freeGo n tk ops i oi (k + 1) r else bif oi.apart ops o then freeGo n tk ops i oi (k + 1) r else false
theorem freeGo_eq {ops : Array Oper} (tk : List Nat) {i : Nat} {oi : Oper} (hi : ops[i]? = some oi) : freeGo ops.size tk ops i oi 0 ops.toList = Region.free .any ops (arrOf ops.size tk) i := by
  have main : ∀ (l : List Oper) (k : Nat), ops.toList.drop k = l → freeGo ops.size tk ops i oi k l = (List.range' k l.length).all fun j => j == i || (arrOf ops.size tk).getD j true || match ops[j]? with
      | some oj => oj.after.any (fun e => Region.binds .any e && e.on == i) || oi.apart ops oj
      | none => true := by
    intro l
    induction l with
    | nil => intro k _; simp [freeGo]
    | cons o r ih =>
      intro k h
      have hk : ops.toList[k]? = some o := by
        have := List.getElem?_drop (xs := ops.toList) (i := k) (j := 0)
        rw [h] at this; simpa using this.symm
      have hka : ops[k]? = some o := by rw [← Array.getElem?_toList]; exact hk
      have hlt : k < ops.size := (Array.getElem?_eq_some_iff.1 hka).1
      have hr : ops.toList.drop (k + 1) = r := by rw [← List.drop_drop, h]; rfl
      have ha : (o.after.toList.any (fun e => bif Region.binds .any e then Nat.beq e.on i else false)) = (o.after.any (fun e => Region.binds .any e && e.on == i)) := by
        rw [← Array.any_toList]
        congr 1
        funext e
        rw [nbeq]
        cases Region.binds .any e <;> simp
      rw [List.length_cons, List.range'_succ, List.all_cons, arrOf_getT _ _ hlt, hka, ← ih (k + 1) hr]
      simp only [freeGo, ha]
      have hb : Nat.beq k i = (k == i) := nbeq k i
      rw [hb]
      cases k == i <;> cases memN k tk <;> cases (o.after.any (fun e => Region.binds .any e && e.on == i)) <;> cases oi.apart ops o <;> simp
  rw [main ops.toList 0 (by simp), Region.free, hi, List.range_eq_range', Array.length_toList]
  rfl
def hotK (n : Nat) (W tk : List Nat) : Bool := W.any fun k => inB n k tk
theorem hotK_eq (n : Nat) (W tk : List Nat) : hotK n W tk = hot W (arrOf n tk) := by
  unfold hotK hot
  congr 1
  funext k
  rw [arrOf_getD]
def mayK (ops : Array Oper) (W tk : List Nat) (i : Nat) (o : Oper) : Bool :=
  bif memN i W then false else bif freeGo ops.size tk ops i o 0 ops.toList then
  (!isLoad o.op || (blChk ops i (blGo i ops.toList []) && W.all (fun k => (blGo i ops.toList []).getD k false) && (List.range ops.size).all fun j => !((blGo i ops.toList []).getD j false) || !(memN j tk))) else false
theorem memN_eq (j : Nat) : ∀ l : List Nat, memN j l = l.contains j
  | [] => by simp [memN]
  | i :: t => by
    simp only [memN, List.contains_cons, memN_eq j t, cond_eq_ite, Nat.beq_eq]
    by_cases h : i = j
    · simp [h]
    · simp [h, Ne.symm h]
theorem mayK_eq {ops : Array Oper} (W tk : List Nat) {i : Nat} {o : Oper} (hi : ops[i]? = some o) : mayK ops W tk i o = mayTake ops W (arrOf ops.size tk) i o := by
  unfold mayK mayTake
  rw [freeGo_eq tk hi, memN_eq]
  have : ((List.range ops.size).all fun j => !((blGo i ops.toList []).getD j false) || !(memN j tk)) = ((List.range ops.size).all fun j => !((blGo i ops.toList []).getD j false) || !((arrOf ops.size tk).getD j true)) := by
    rw [Bool.eq_iff_iff]
    simp only [List.all_eq_true, List.mem_range]
    refine forall_congr' fun j => forall_congr' fun hj => ?_
    rw [arrOf_getT _ _ hj]
  rw [this]
  cases W.contains i <;> cases Region.free .any ops (arrOf ops.size tk) i <;> simp
def findK (P : Program) (old : Nat → Bool) (nt : Nat) (ops : Array Oper) (W tk : List Nat) (S : St) : List Nat → Option (Nat × List St)
  | [] => none
  | i :: r => match nthO ops.toList i with
    | some o => bif mayK ops W tk i o then match stepY P old (!hotK ops.size W tk) nt ops o S with
        | some l => some (i, l)
        | none => findK P old nt ops W tk S r
      else findK P old nt ops W tk S r
    | none => findK P old nt ops W tk S r
theorem findK_eq {P : Program} {old : Nat → Bool} {nt : Nat} {ops : Array Oper} {W tk : List Nat} {S : St} : ∀ r : List Nat, findK P old nt ops W tk S r = findTake P old nt ops W (arrOf ops.size tk) S r
  | [] => rfl
  | i :: r => by
    simp only [findK, findTake, nthO_arr, hotK_eq, findK_eq r]
    cases ho : ops[i]? with
    | none => rfl
    | some o =>
      simp only [mayK_eq W tk ho]
      rfl
/-- An operation (as stepO; the program is taken out of C, so that it is the same term each time). -/
def stepOK (C : Cfg) (ro : Nat → Bool) (nt : Nat) (o : Oper) (S : St) : Option Outs :=
  match C with
  | ⟨P, call, meth⟩ => match pureV P S.H S.F o.op with
    | some outs => some (outs.flatMap fun p => (fin p.1 p.2).map fun q => (.normal, ⟨putF nt S.F o.dst q.2, q.1⟩))
    | none => match memV P ro S.H S.F o.op with
      | some outs => some (outs.map fun p => (.normal, ⟨putF nt S.F o.dst (match p.2 with | .val v => v | .skip => .top), p.1⟩))
      | none => match o.op with
        | .call c => match calleeV ⟨P, call, meth⟩ S.F c with
          | some (f, args) => match call ro S.H f args with
            | some outs => some (outs.flatMap (coOut nt S.F o.dst))
            | none => none
          | none => none
        | .panic x => match aeval S.F x with
          | .ifc ty v => some [(.panic (.ifc ty v), S)]
          | _ => none
        | _ => none
theorem stepOK_eq (C : Cfg) (ro : Nat → Bool) (nt : Nat) (o : Oper) (S : St) : stepOK C ro nt o S = stepO C ro nt o S := by
  cases C
  rfl
def stepGK (C : Cfg) (ro : Nat → Bool) (nt : Nat) (ops : Array Oper) (o : Oper) (S : St) : Option Outs :=
  match guardV ops S.F o with
  | some none => stepOK C ro nt o S
  | some (some (e, want)) => (optAll (fun q : AH × Bool => bif q.2 == want then stepOK C ro nt o ⟨guardF ops S.F o q.2, q.1⟩ else some [(AX.normal, ⟨putF nt (guardF ops S.F o q.2) o.dst (.lit undef), q.1⟩)]) (forkB S.H e)).map List.flatten
  | none => none
theorem stepGK_eq (C : Cfg) (ro : Nat → Bool) (nt : Nat) (ops : Array Oper) (o : Oper) (S : St) : stepGK C ro nt ops o S = stepG C ro nt ops o S := by
  simp only [stepGK, stepG, stepOK_eq]
  rfl
def runK (C : Cfg) (ro : Nat → Bool) (H1 : AH) (ws : List Nat) (nt : Nat) (ops : Array Oper) (W : List Nat) : Nat → List Nat → St → Option Outs
  | 0, tk, S => match rdyK ops.size tk 0 ops.toList with
    | [] => some [(.normal, S)]
    | _ => none
  | f + 1, tk, S => match rdyK ops.size tk 0 ops.toList with
    | [] => some [(.normal, S)]
    | rd => match (match C with | ⟨P, _, _⟩ => findK P (oldIn H1 ws) nt ops W tk S rd) with
      | some (i, l) => (optAll (runK C ro H1 ws nt ops W f (i :: tk)) l).map List.flatten
      | none => (optAll (fun i => match nthO ops.toList i with
          | some o => match stepGK C (bif hotK ops.size W (i :: tk) then ro else innerRo ro H1 ws) nt ops o S with
            | some outs => bindO (runK C ro H1 ws nt ops W f (i :: tk)) outs
            | none => none
          | none => none) rd).map List.flatten
theorem runK_eq {C : Cfg} {ro : Nat → Bool} {H1 : AH} {ws : List Nat} {nt : Nat} {ops : Array Oper} {W : List Nat} : ∀ (f : Nat) (tk : List Nat) (S : St),
    runK C ro H1 ws nt ops W f tk S = runD C ro H1 ws nt ops W f (arrOf ops.size tk) S
  | 0, tk, S => by
    simp only [runK, runD, rdyK_eq]
    rfl
  | f + 1, tk, S => by
    have ih : ∀ i, runK C ro H1 ws nt ops W f (i :: tk) = runD C ro H1 ws nt ops W f ((arrOf ops.size tk).setIfInBounds i true) := fun i => funext fun S => runK_eq f (i :: tk) S
    cases C
    simp only [runK, runD, rdyK_eq, findK_eq, nthO_arr, hotK_eq, ih, arrOf, stepGK_eq]
    rfl
def runs (C : Cfg) (ro : Nat → Bool) (nt : Nat) (ops : Array Oper) : List Oper → St → Option Outs
  | [], S => some [(.normal, S)]
  | o :: rest, S => match stepGK C ro nt ops o S with
      | some outs => bindO (runs C ro nt ops rest) outs
      | none => none
theorem runs_eq {C : Cfg} {ro : Nat → Bool} {nt : Nat} {ops : Array Oper} : runs C ro nt ops ops.toList = runL C ro nt ops (List.range ops.size) := by
  have main : ∀ (l : List Oper) (k : Nat), ops.toList.drop k = l → runs C ro nt ops l = runL C ro nt ops (List.range' k l.length) := by
    intro l
    induction l with
    | nil => intro k _; funext S; simp [runs, runL]
    | cons o r ih =>
      intro k h
      have hk : ops.toList[k]? = some o := by
        have := List.getElem?_drop (xs := ops.toList) (i := k) (j := 0)
        rw [h] at this; simpa using this.symm
      have hka : ops[k]? = some o := by rw [← Array.getElem?_toList]; exact hk
      have hr : ops.toList.drop (k + 1) = r := by rw [← List.drop_drop, h]; rfl
      funext S
      rw [List.length_cons, List.range'_succ]
      simp only [runs, runL, hka, ih (k + 1) hr, stepGK_eq]
      rfl
  rw [main ops.toList 0 (by simp), List.range_eq_range', Array.length_toList]
def loadsGo : Nat → List Oper → List Nat
  | _, [] => []
  | k, o :: r => bif isLoad o.op then k :: loadsGo (k + 1) r else loadsGo (k + 1) r
def hotGo (bls : List (List Bool)) : Nat → List Oper → List Nat
  | _, [] => []
  | k, o :: r => bif isEffect o.op then (bif bls.all (fun bl => bl.getD k false) then k :: hotGo bls (k + 1) r else hotGo bls (k + 1) r) else hotGo bls (k + 1) r
def anyEff : List Oper → Bool
  | [] => false
  | o :: r => bif isEffect o.op then true else anyEff r
/-- The operations that may write what stood before (as hotOps, by the list). -/
def hots (l : List Oper) : List Nat := bif anyEff l then hotGo ((loadsGo 0 l).map fun i => blGo i l []) 0 l else []
/-- The blocks that are written while others may be read (as wsOf, by the list). -/
def wsGo (ops : Array Oper) (W : List Nat) (F : Tr AV) : Nat → List Oper → List Nat
  | _, [] => []
  | k, o :: r => match o.op with
    | .store _ x _ => bif memN k W then wsGo ops W F (k + 1) r else (match rootOp ops 8 x with
      | some y => match aeval F y with
        | .ptr b _ => b :: wsGo ops W F (k + 1) r
        | .eptr b _ _ _ _ _ => b :: wsGo ops W F (k + 1) r
        | _ => wsGo ops W F (k + 1) r
      | none => wsGo ops W F (k + 1) r)
    | _ => wsGo ops W F (k + 1) r
end
end Go.Proofs.YtgkoghgiclkbhaaGreatDoor.Sx
namespace Go.Proofs.YtgkoghgiclkbhaaGreatDoor.Sx
open Go
noncomputable section
set_option linter.unusedVariables false
set_option linter.unusedSimpArgs false

def loopX (m : Outs → Outs) (f : St → Option Outs) : Nat → St → Option Outs
  | 0, _ => none
  | k + 1, S => match f S with
    | some l => bindO (loopX m f k) (m l)
    | none => none
def normals : Outs → List St
  | [] => []
  | p :: l => match p.1 with
    | .normal => p.2 :: normals l
    | _ => normals l
def exits : Outs → Outs
  | [] => []
  | p :: l => match p.1 with
    | .normal => exits l
    | _ => p :: exits l
def msrOk (N i : Nat) (B : RB) (H : AH) : Bool := match B.fm[i]? with
  | some (.num x) => (decide (x.s = some (N + i)) && decide (1 ≤ x.c)) || (match H.range x, H.rng.get (N + i) with
    | some q, some r => decide (r.2 < q.1)
    | _, _ => false)
  | _ => false
/-- The rounds come back to J, and a number goes on. -/
def backOk (ro : Nat → Bool) (rbs : St → St → Nat → Nat → RB) (N NB : Nat) (J : St) (ns : List St) (i : Nat) : Bool :=
  (J.H.rng.get (N + i)).isSome && ns.all fun p => Nat.beq (rbs J p N NB).N N && Nat.beq (rbs J p N NB).NB NB && reSt ro (rbs J p N NB) p J && msrOk N i (rbs J p N NB) p.H
def loopJ (ro : Nat → Bool) (prop : Nat → Nat → St → List St → Option St) (rbs : St → St → Nat → Nat → RB) (f : St → Option Outs) (S : St) : Nat → St → Option Outs
  | 0, _ => none
  | k + 1, J => match f J with
    | none => none
    | some l => bif Nat.beq (rbs J S S.H.nn S.H.nb).N S.H.nn && Nat.beq (rbs J S S.H.nn S.H.nb).NB S.H.nb && reSt ro (rbs J S S.H.nn S.H.nb) S J &&
          (List.range (J.H.nn - S.H.nn)).any (backOk ro rbs S.H.nn S.H.nb J (normals l)) then some (exits l)
        else match prop S.H.nn S.H.nb J (normals l) with
          | some J' => loopJ ro prop rbs f S k J'
          | none => none
/-- One round ahead. -/
def loopP (ro : Nat → Bool) (prop : Nat → Nat → St → List St → Option St) (rbs : St → St → Nat → Nat → RB) (f : St → Option Outs) (S : St) : Option Outs :=
  match f S with
  | some l => bindO (fun S' => loopJ ro prop rbs f S' 8 S') l
  | none => none
def finO (P : Program) (fi : FnI) (p : AX × St) : Option (AX × St) :=
  match p.1 with
  | .normal | .ret => match resV P p.2.H p.2.F fi.res with
    | some v => some (.ret, ⟨(Tr.leaf : Tr AV).set 0 (some v), p.2.H⟩)
    | none => none
  | .panic v => some (.panic v, ⟨.leaf, p.2.H⟩)
  | .exit _ => none
def coOf (p : AX × St) : CO × AH :=
  match p.1 with
  | .panic v => (.pan v, p.2.H)
  | _ => (.ret (match p.2.F.get 0 with | some v => v | none => .top), p.2.H)
def coFrom (k : Nat) (b : Bool) (p : AX × St) : CO × AH := ((coOf p).1, ((coOf p).2.from k).setFm b)
/-- A result given up to a shape. -/
def giveR (ro : Nat → Bool) (r : Option Sh) (p : AX × St) : AX × St :=
  match r with
  | none => p
  | some s => match p.1 with
    | .ret => match p.2.F.get 0 with
      | some v => match toSh ro 6 p.2.H v s with
        | some H' => (.ret, ⟨(Tr.leaf : Tr AV).set 0 (some (.any s)), H'⟩)
        | none => p
      | none => p
    | _ => p
def inBlk (id : Nat) (p : AX × St) : AX × St :=
  match p.1 with
  | .exit id' => bif Nat.beq id' id then (.normal, p.2) else p
  | _ => p
/-- What was tested is known behind. -/
def condF (F : Tr AV) (c : Operand) (b : Bool) : Tr AV :=
  match c with
  | .tmp t => F.set t (some (.bool (.c b)))
  | _ => F
theorem condF_ok {nt : Nat} {d : List Deferred} {σ : Env} {F : Tr AV} {a : Act} (hf : Fr nt d σ F a) {c : Operand} {b : Bool} (h : a.eval c = .bool b) : Fr nt d σ (condF F c b) a := by
  refine ⟨?_, hf.size, hf.defers⟩
  cases c with
  | tmp t =>
    intro i av hi
    rcases Tr.get_set_some hi with ⟨rfl, hx⟩ | ⟨_, hx⟩
    · cases hx
      have h' : a.tmps.getD i undef = .bool b := h
      refine ⟨.bool b, ?_, by simp only [Sat]; exact ⟨b, rfl, rfl⟩⟩
      cases ht : a.tmps[i]? with
      | none => simp [Array.getD_eq_getD_getElem?, ht, undef] at h'
      | some v => simp [Array.getD_eq_getD_getElem?, ht] at h'; rw [h']
    · exact hf.ok i av hx
  | _ => exact hf.ok
def dstSlots : List Oper → List Nat
  | [] => []
  | o :: r => match o.dst with
    | some t => t :: dstSlots r
    | none => dstSlots r
def mapT {α β : Type} (f : α → β) : Tr α → Tr β
  | .leaf => .leaf
  | .node l v r => .node (mapT f l) (match v with | some a => some (f a) | none => none) (mapT f r)
theorem mapT_get {α β : Type} (f : α → β) : ∀ (t : Tr α) (k : Nat), (mapT f t).get k = (t.get k).map f
  | .leaf, k => by simp [mapT, Tr.get_leaf]
  | .node l v r, k => by
    simp only [mapT, Tr.get_node]
    split
    · cases v <;> rfl
    · split
      · exact mapT_get f _ _
      · exact mapT_get f _ _
mutual
/-- A block by another name. -/
def subA (b c : Nat) : AV → AV
  | .ptr x o => .ptr (bif Nat.beq x b then c else x) o
  | .sl x o e l k => .sl (bif Nat.beq x b then c else x) o e l k
  | .agg l => .agg (subL b c l)
  | .tup l => .tup (subL b c l)
  | a => a
def subL (b c : Nat) : List AV → List AV
  | [] => []
  | a :: l => subA b c a :: subL b c l
end
def subB (b c : Nat) (x : AB) : AB := { x with t := mapT (subA b c) x.t }
def blkOf : Option AV → Option Nat
  | some (.ptr b _) => some b
  | some (.sl b _ _ _ _) => some b
  | _ => none
/-- A new block by another name: the names go by the slots then, not by the order that was drawn. -/
def canon1 (k m : Nat) (ro : Nat → Bool) (S : St) (t : Nat) : St := match blkOf (S.F.get t) with
  | some b => bif Nat.ble k b && Nat.blt b m && ro b then (match S.H.hp.get b with
    | some _ => ⟨mapT (subA b S.H.nb) S.F, { S.H.rename b with hp := mapT (subB b S.H.nb) (S.H.rename b).hp }⟩
    | none => S) else S
  | none => S
def canonO (k : Nat) (ro : Nat → Bool) (ts : List Nat) (p : AX × St) : AX × St := (p.1, ts.foldl (canon1 k p.2.H.nb ro) p.2)
def canonL (k : Nat) (ro : Nat → Bool) (ts : List Nat) (l : Outs) : Outs := match ts with
  | _ :: _ :: _ => (match l with
    | _ :: _ :: _ => l.map (canonO k ro ts)
    | l => l)
  | _ => l
def canonX (b : Bool) (k : Nat) (ro : Nat → Bool) (ops : List Oper) (l : Outs) : Outs := bif b then canonL k ro (dstSlots ops) l else l
mutual
def exec (X : Env1) : Nat → FuncId → (Nat → Bool) → Nat → Code → St → Option Outs
  | 0, _, _, _, _, _ => none
  | n + 1, fid, ro, nt, c, S =>
    match c with
    | .skip => some [(.normal, S)]
    | .label _ => some [(.normal, S)]
    | .region id ops draw => bif draw then
        (bif Region.noSelect ops && offKs X.pr ops.toList then (runK ⟨X.P, callX X n, X.meth⟩ ro S.H (wsGo ops (hots ops.toList) S.F 0 ops.toList) nt ops (hots ops.toList) ops.size [] S).map (canonX (X.cn fid) S.H.nb ro ops.toList) else none)
      else runs ⟨X.P, callX X n, X.meth⟩ ro nt ops ops.toList S
    | .seq a b => match exec X n fid ro nt a S with
      | some l => bindO (exec X n fid ro nt b) (X.mrg fid l)
      | none => none
    | .cond c x y => match aeval S.F c with
      | .bool e => (optAll (fun q : AH × Bool => exec X n fid ro nt (bif q.2 then x else y) ⟨condF S.F c q.2, q.1⟩) (forkB S.H e)).map List.flatten
      | _ => none
    | .block id body => (exec X n fid ro nt body S).map (·.map (inBlk id))
    | .loop body => bif X.lp fid then (bif X.pl fid then loopP ro (X.prop fid) X.rbs (exec X n fid ro nt body) S else loopJ ro (X.prop fid) X.rbs (exec X n fid ro nt body) S 8 S)
        else loopX (X.mrl fid) (exec X n fid ro nt body) 4096 S
    | .exit id => some [(.exit id, S)]
    | .scope body => exec X n fid ro nt body S
    | .ret => some [(.ret, S)]
    | _ => none
def callX (X : Env1) : Nat → Call1
  | 0, _, _, _, _ => none
  | n + 1, ro, H, f, args =>
    match X.sum f with
    | some (shs, r) => match foldSh (toSh ro 6) H args shs with
      | some H' => some [(.ret (.any r), H')]
      | none => none
    | none => match X.hc ro H f args with
      | some outs => some outs
      | none => match X.tbl f with
        | some fi => bif Nat.ble args.length fi.nt then
            match exec X n f ro fi.nt fi.body ⟨argsF 0 args, (H.from H.nn).setFm (bif X.fmo f then false else H.fm)⟩ with
            | some outs => (optAll (finO X.P fi) outs).map fun l => (X.mrr f (l.map fun p => gcS (X.gcf f) H.nb (giveR ro (X.rsh f) p))).map (coFrom H.n0 H.fm)
            | none => none
          else none
        | none => none
end
section
variable {ro : Nat → Bool} {g : Gh} {σ : Env} {H : AH} {w : World} {P : Program} {nt : Nat} {d : List Deferred} {X : Env1}
def LeR (ro : Nat → Bool) (S J : St) : Prop := ∀ (nt : Nat) (g : Gh) (d : List Deferred) (σ : Env) (a : Act) (w : World), Rel ro g σ S.H w → Fr nt d σ S.F a → ∃ σ', σ.le σ' ∧ Rel ro g σ' J.H w ∧ Fr nt d σ' J.F a
theorem LeR.refl (ro : Nat → Bool) (S : St) : LeR ro S S := fun _ _ _ σ _ _ R hf => ⟨σ, .refl σ, R, hf⟩
theorem LeR.then {ro : Nat → Bool} {S J K : St} (h : LeR ro S J) (h' : LeS J K) : LeR ro S K := fun nt g d σ a w R hf => by
  obtain ⟨σ1, l1, R1, f1⟩ := h nt g d σ a w R hf
  obtain ⟨σ2, l2, R2, f2⟩ := h' ro nt g d σ1 a w R1 f1
  exact ⟨σ2, l1.trans l2, R2, f2⟩
theorem giveR_ok (ro : Nat → Bool) (r : Option Sh) (p : AX × St) : (giveR ro r p).1 = p.1 ∧ LeR ro p.2 (giveR ro r p).2 := by
  obtain ⟨x, S⟩ := p
  unfold giveR
  split
  · exact ⟨rfl, .refl ro S⟩
  · rename_i s
    split
    · rename_i hx
      dsimp only at hx
      split
      · rename_i v hv
        split
        · rename_i H' hH
          refine ⟨hx.symm, fun nt g d σ a w R hf => ?_⟩
          obtain ⟨V, e1, s1⟩ := hf.ok 0 v hv
          obtain ⟨σ1, l1, _, _, R1, s2, _⟩ := toSh_sound 6 R s1 hH
          refine ⟨σ1, l1, R1, fun i av hi => ?_, hf.size, hf.defers⟩
          have hi : ((Tr.leaf : Tr AV).set 0 (some (.any s))).get i = some av := hi
          rcases Tr.get_set_some hi with ⟨rfl, h⟩ | ⟨_, h⟩
          · cases h; exact ⟨V, e1, by simp only [Sat]; exact s2⟩
          · simp [Tr.get] at h
        · exact ⟨rfl, .refl ro S⟩
      · exact ⟨rfl, .refl ro S⟩
    · exact ⟨rfl, .refl ro S⟩
theorem XOk.mono {σ τ : Env} (h : σ.le τ) {x : AX} {e : Exit} (hx : XOk σ x e) : XOk τ x e := by
  cases x <;> simp only [XOk] at hx ⊢ <;> try exact hx
  obtain ⟨V, h1, h2⟩ := hx
  exact ⟨V, Sat.mono h _ _ h1, h2⟩
theorem GoodQ.le {l l' : Outs} (h : ∀ p ∈ l, ∃ q ∈ l', q.1 = p.1 ∧ LeS p.2 q.2) {Q : Exit → Act → World → Prop} (hq : GoodQ nt d ro g σ l' Q) : GoodQ nt d ro g σ l Q := by
  intro p hp σ' a' w' e l1 R1 f1 x1
  obtain ⟨q, hq', hx, hle⟩ := h p hp
  obtain ⟨σ2, l2, R2, f2⟩ := hle ro nt g d σ' a' w' R1 f1
  exact hq q hq' σ2 a' w' e (l1.trans l2) R2 f2 (by rw [hx]; exact x1.mono l2)
theorem GoodQ.leR {l l' : Outs} (h : ∀ p ∈ l, ∃ q ∈ l', q.1 = p.1 ∧ LeR ro p.2 q.2) {Q : Exit → Act → World → Prop} (hq : GoodQ nt d ro g σ l' Q) : GoodQ nt d ro g σ l Q := by
  intro p hp σ' a' w' e l1 R1 f1 x1
  obtain ⟨q, hq', hx, hle⟩ := h p hp
  obtain ⟨σ2, l2, R2, f2⟩ := hle nt g d σ' a' w' R1 f1
  exact hq q hq' σ2 a' w' e (l1.trans l2) R2 f2 (by rw [hx]; exact x1.mono l2)
theorem LeR.trans {ro : Nat → Bool} {S J K : St} (h : LeR ro S J) (h' : LeR ro J K) : LeR ro S K := fun nt g d σ a w R hf => by
  obtain ⟨σ1, l1, R1, f1⟩ := h nt g d σ a w R hf
  obtain ⟨σ2, l2, R2, f2⟩ := h' nt g d σ1 a w R1 f1
  exact ⟨σ2, l1.trans l2, R2, f2⟩
mutual
theorem subA_ok {σ : Env} {b c : Nat} {q : Nat × Nat} (h1 : σ.b[b]? = some (some q)) (h2 : σ.b[c]? = some (some q)) : ∀ (a : AV) (v : Value), Sat σ a v → Sat σ (subA b c a) v
  | .ptr x o, v, hs => by
    simp only [subA, cond_eq_ite, Nat.beq_eq]
    split
    · rename_i hx
      subst hx
      simp only [Sat] at hs ⊢
      obtain ⟨n, sz, e, r⟩ := hs
      rw [h1] at e; cases e
      exact ⟨_, _, h2, r⟩
    · exact hs
  | .sl x o e l k, v, hs => by
    simp only [subA, cond_eq_ite, Nat.beq_eq]
    split
    · rename_i hx
      subst hx
      simp only [Sat] at hs ⊢
      obtain ⟨n, sz, ln, cp, e, r⟩ := hs
      rw [h1] at e; cases e
      exact ⟨_, _, ln, cp, h2, r⟩
    · exact hs
  | .agg l, v, hs => by
    simp only [subA, Sat] at hs ⊢
    obtain ⟨vs, e, hl⟩ := hs
    exact ⟨vs, e, subL_ok h1 h2 l vs hl⟩
  | .tup l, v, hs => by
    simp only [subA, Sat] at hs ⊢
    obtain ⟨vs, e, hl⟩ := hs
    exact ⟨vs, e, subL_ok h1 h2 l vs hl⟩
  | .int .., v, hs => by simpa only [subA] using hs
  | .bool .., v, hs => by simpa only [subA] using hs
  | .lit .., v, hs => by simpa only [subA] using hs
  | .str .., v, hs => by simpa only [subA] using hs
  | .any .., v, hs => by simpa only [subA] using hs
  | .top, v, hs => by simpa only [subA] using hs
  | .eptr .., v, hs => by simpa only [subA] using hs
  | .fn .., v, hs => by simpa only [subA] using hs
  | .ifc .., v, hs => by simpa only [subA] using hs
  | .osl .., v, hs => by simpa only [subA] using hs
  | .oaddr .., v, hs => by simpa only [subA] using hs
theorem subL_ok {σ : Env} {b c : Nat} {q : Nat × Nat} (h1 : σ.b[b]? = some (some q)) (h2 : σ.b[c]? = some (some q)) : ∀ (l : List AV) (vs : List Value), SatL σ l vs → SatL σ (subL b c l) vs
  | [], vs, hs => by simpa only [subL, SatL] using hs
  | a :: l, vs, hs => by
    simp only [subL, SatL] at hs ⊢
    obtain ⟨v, vs', rfl, k1, k2⟩ := hs
    exact ⟨v, vs', rfl, subA_ok h1 h2 a v k1, subL_ok h1 h2 l vs' k2⟩
end
theorem Rel.subH (R : Rel ro g σ H w) {b c : Nat} {q : Nat × Nat} (h1 : σ.b[b]? = some (some q)) (h2 : σ.b[c]? = some (some q)) : Rel ro g σ { H with hp := mapT (subB b c) H.hp } w := by
  have back : ∀ x ab, (mapT (subB b c) H.hp).get x = some ab → ∃ a0, H.hp.get x = some a0 ∧ ab = subB b c a0 := by
    intro x ab h
    rw [mapT_get] at h
    cases h0 : H.hp.get x with
    | none => rw [h0] at h; cases h
    | some a0 => rw [h0] at h; cases h; exact ⟨a0, rfl, rfl⟩
  refine ⟨R.nlen, R.rng, R.lts, R.blen, ?_, ?_, R.imm, ?_, R.frame, R.sz, R.own, R.bnd, R.immo, R.fx⟩
  · intro x ab h
    obtain ⟨a0, k1, rfl⟩ := back x ab h
    obtain ⟨n, sz, e1, cs, e2, e3, e4, e5⟩ := R.blk x a0 k1
    refine ⟨n, sz, e1, cs, e2, e3, e4, fun j v hv => ?_⟩
    have hc := e5 j v hv
    unfold CellOk at hc ⊢
    simp only [subB, mapT_get]
    cases ht : a0.t.get j with
    | none => simp only [ht, Option.map_none] at hc ⊢; exact hc
    | some av => simp only [ht, Option.map_some] at hc ⊢; exact subA_ok h1 h2 av v hc
  · intro x y a1 a2 n s s' k1 k2 e1 e2
    obtain ⟨b1, l1, _⟩ := back _ _ k1
    obtain ⟨b2, l2, _⟩ := back _ _ k2
    exact R.inj x y _ _ _ _ _ l1 l2 e1 e2
  · intro x a1 n s k1 e1
    obtain ⟨b1, l1, _⟩ := back _ _ k1
    exact R.immd x _ _ _ l1 e1
theorem canon1_ok (k m : Nat) (ro : Nat → Bool) (S : St) (t : Nat) : LeR ro S (canon1 k m ro S t) := by
  unfold canon1
  split
  · rename_i b hF
    rw [cond_eq_ite]
    split
    · rename_i hro
      rw [Bool.and_eq_true] at hro
      split
      · rename_i ab hb
        intro nt g d σ a w R hf
        obtain ⟨n, sz, hn, _⟩ := R.blk b ab hb
        obtain ⟨R', hnew⟩ := R.rename hro.2 hb hn
        have hle := σ.le_withB n sz
        have hold : (σ.withB n sz).b[b]? = some (some (n, sz)) := prefix_get hle.b hn
        refine ⟨_, hle, R'.subH hold hnew, fun i av hi => ?_, hf.size, hf.defers⟩
        have hi : (mapT (subA b S.H.nb) S.F).get i = some av := hi
        rw [mapT_get] at hi
        cases h0 : S.F.get i with
        | none => rw [h0] at hi; cases hi
        | some a0 =>
          rw [h0] at hi; cases hi
          obtain ⟨v, e1, s1⟩ := hf.ok i a0 h0
          exact ⟨v, e1, subA_ok hold hnew a0 v (Sat.mono hle _ _ s1)⟩
      · exact .refl ro S
    · exact .refl ro S
  · exact .refl ro S
theorem canonO_ok (k m : Nat) (ro : Nat → Bool) : ∀ (ts : List Nat) (S : St), LeR ro S (ts.foldl (canon1 k m ro) S)
  | [], S => .refl ro S
  | t :: ts, S => (canon1_ok k m ro S t).trans (canonO_ok k m ro ts _)
theorem canonX_ok (b : Bool) (k : Nat) (ro : Nat → Bool) (ops : List Oper) (l : Outs) : ∀ p ∈ l, ∃ q ∈ canonX b k ro ops l, q.1 = p.1 ∧ LeR ro p.2 q.2 := by
  intro p hp
  unfold canonX
  rw [cond_eq_ite]
  split
  · unfold canonL
    split
    · split
      · exact ⟨_, List.mem_map.2 ⟨p, hp, rfl⟩, rfl, canonO_ok k _ ro _ _⟩
      · exact ⟨p, hp, rfl, .refl ro _⟩
    · exact ⟨p, hp, rfl, .refl ro _⟩
  · exact ⟨p, hp, rfl, .refl ro _⟩
theorem PF.then {ks : List Nat} {K : Act → World → Prop} {Q : Exit → Act → World → Prop} (h : PF ks Q) : PF ks (Exit.then K Q) := fun c a dst v w hd hh => h c a dst v w hd hh
theorem PF.any {ks : List Nat} {Q : Exit → Act → World → Prop} (h : PF [] Q) : PF ks Q := fun c a dst v w _ hh => h c a dst v w (fun _ _ => by simp) hh
theorem Rel.grown (R : Rel ro g σ H w) {w' : World} (h : Grown w w') {imm' : Imm} (hle : Imm.le σ.imm imm') (h1 : ∀ b o, imm' b = some o → w'.heap[b]? = some o) (h2 : ∀ b o, imm' b = some o → b < w.heap.size → σ.imm b = some o) :
    Rel ro g { σ with imm := imm' } H w' ∧ σ.le { σ with imm := imm' } := by
  have hl : σ.le { σ with imm := imm' } := ⟨List.prefix_refl _, List.prefix_refl _, hle⟩
  refine ⟨⟨R.nlen, R.rng, R.lts, R.blen, ?_, R.inj, h1, ?_, ?_, ?_, R.own, ?_, ?_, fun f hf => ((R.fx f hf).mono hl (.inr fun n o hi => by
    by_cases hlt : n < w.heap.size
    · exact .inl (h2 n o hi hlt)
    · exact .inr (.inl (by omega)))).heap h.2.1⟩, hl⟩
  · intro b ab hb
    obtain ⟨n, sz, e1, c, e2, e3⟩ := R.blk b ab hb
    obtain ⟨c', e2', e3'⟩ := BlkOk.mono hl (⟨c, e2, e3⟩ : BlkOk σ w ab n sz)
    exact ⟨n, sz, e1, c', by rw [h.2.1 n (R.bnd b n sz e1)]; exact e2', e3'⟩
  · intro b ab n sz hb hn
    cases hi : imm' n with
    | none => exact hi
    | some o =>
      have := h2 n o hi (R.bnd b n sz hn)
      rw [R.immd b ab n sz hb hn] at this; cases this
  · intro m hm hp
    rw [h.2.1 m (by have := R.size; omega)]; exact R.frame m hm hp
  · exact ⟨by have := R.size; have := h.1; omega, h.2.2.1.trans R.sz.os, h.2.2.2.trans R.sz.out⟩
  · intro b n sz hn; have := R.bnd b n sz hn; have := h.1; omega
  · intro m o hi hm hp
    exact R.immo m o (h2 m o hi (by have := R.size; omega)) hm hp
theorem loopX_sound {fid : FuncId} (hX : X.Ok) {body : Code} {n : Nat}
    (ih : ∀ S outs, exec X n fid ro nt body S = some outs → ∀ σ a w (Q : Exit → Act → World → Prop), PF X.pr Q → Rel ro g σ S.H w → Fr nt d σ S.F a → GoodQ nt d ro g σ outs Q → body.wp X.P Q a w) {Q : Exit → Act → World → Prop} (hQ : PF X.pr Q) :
    ∀ (k : Nat) (S : St) (outs : Outs) (σ : Env) (a : Act) (w : World), loopX (X.mrl fid) (exec X n fid ro nt body) k S = some outs → Rel ro g σ S.H w → Fr nt d σ S.F a → GoodQ nt d ro g σ outs Q → Unr X.P body Q k a w
  | 0, S, outs, σ, a, w, h, R, hf, hq => by simp [loopX] at h
  | k + 1, S, outs, σ, a, w, h, R, hf, hq => by
    simp only [loopX] at h
    split at h
    · rename_i l hl
      refine ih S l hl σ a w _ hQ.then R hf (GoodQ.le (hX.mrl fid l) (GoodQ.bind h hq fun S' r0 h0 σ' a' w' l2 R2 f2 q2 => ?_))
      exact loopX_sound hX ih hQ k S' r0 σ' a' w' h0 R2 f2 q2
    · cases h
theorem normals_mem {l : Outs} {p : AX × St} (h : p ∈ l) (hn : p.1 = .normal) : p.2 ∈ normals l := by
  induction l with
  | nil => cases h
  | cons q l ih =>
    unfold normals
    rcases List.mem_cons.1 h with rfl | h
    · rw [hn]; exact List.mem_cons_self ..
    · split
      · exact List.mem_cons_of_mem _ (ih h)
      · exact ih h
theorem exits_mem {l : Outs} {p : AX × St} (h : p ∈ l) (hn : p.1 ≠ .normal) : p ∈ exits l := by
  induction l with
  | nil => cases h
  | cons q l ih =>
    unfold exits
    rcases List.mem_cons.1 h with rfl | h
    · split
      · rename_i e; exact absurd e hn
      · exact List.mem_cons_self ..
    · split
      · exact ih h
      · exact List.mem_cons_of_mem _ (ih h)
theorem rounds_sound {ks : List Nat} {P : Program} {body : Code} {f : St → Option Outs} {rbs : St → St → Nat → Nat → RB}
    (ih : ∀ S outs, f S = some outs → ∀ σ a w (Q : Exit → Act → World → Prop), PF ks Q → Rel ro g σ S.H w → Fr nt d σ S.F a → GoodQ nt d ro g σ outs Q → body.wp P Q a w)
    {Q : Exit → Act → World → Prop} (hQ : PF ks Q) {J : St} {l : Outs} (hl : f J = some l) {N NB i : Nat} (hb : backOk ro rbs N NB J (normals l) i = true) {σ0 : Env} (h1 : σ0.n.length ≤ N) (h2 : σ0.b.length ≤ NB) (hq : GoodQ nt d ro g σ0 (exits l) Q)
    {lo hi : Int} (hr : J.H.rng.get (N + i) = some (lo, hi)) :
    ∀ (m : Nat) (σ : Env) (a : Act) (w : World) (n : Int), σ0.le σ → Rel ro g σ J.H w → Fr nt d σ J.F a → σ.n[N + i]? = some n → hi - n < m → Unr P body Q (m + 1) a w := by
  simp only [backOk, Bool.and_eq_true, List.all_eq_true, Nat.beq_eq] at hb
  obtain ⟨_, hb⟩ := hb
  intro m
  induction m with
  | zero =>
    intro σ a w n hle R hf hn hm
    obtain ⟨n', e1, e2, e3⟩ := R.rng _ _ hr
    rw [hn] at e1; cases e1
    simp only [] at e3; omega
  | succ m ihm =>
    intro σ a w n hle R hf hn hm
    refine ih J l hl σ a w _ hQ.then R hf fun p hp σ' a' w' e l1 R1 f1 x1 => ?_
    by_cases hnorm : p.1 = .normal
    · rw [hnorm] at x1
      simp only [XOk] at x1
      subst x1
      obtain ⟨⟨⟨b1, b2⟩, b3⟩, b4⟩ := hb p.2 (normals_mem hp hnorm)
      obtain ⟨τ, hm', R2, f2, hext⟩ := reSt_sound b3 R1 f1
      unfold msrOk at b4
      split at b4
      · rename_i x hx
        have key : ∃ n', x.den σ' = some n' ∧ n < n' := by
          simp only [Bool.or_eq_true, Bool.and_eq_true, decide_eq_true_eq] at b4
          rcases b4 with ⟨c1, c2⟩ | b4
          · exact ⟨n + x.c, by simp only [Num.den, c1, prefix_get l1.n hn, Option.map_some], by omega⟩
          · split at b4
            · rename_i q r hq hr'
              simp only [decide_eq_true_eq] at b4
              obtain ⟨n', hn'⟩ := R1.range_den hq
              have h1 := R1.range hn' hq
              obtain ⟨m1, e1, e2, e3⟩ := R1.rng _ _ hr'
              rw [prefix_get l1.n hn] at e1; cases e1
              exact ⟨n', hn', by omega⟩
            · cases b4
        obtain ⟨n', hd, hlt⟩ := key
        have := hm'.fm i _ _ hx (show (MV.num x).den σ' = some n' from hd)
        rw [b1] at this
        exact ihm τ a' w' n' (hext σ0 (hle.trans l1) (by rw [b1]; exact h1) (by rw [b2]; exact h2)) R2 f2 this (by omega)
      · cases b4
    · have := hq p (exits_mem hp hnorm) σ' a' w' e (hle.trans l1) R1 f1 x1
      cases e with
      | normal => cases hx : p.1 <;> rw [hx] at x1 <;> simp only [XOk] at x1 <;> first | (exact absurd hx hnorm) | (cases x1; done) | (obtain ⟨_, _, h⟩ := x1; cases h)
      | _ => exact this
theorem loopJ_sound {ks : List Nat} {P : Program} {body : Code} {f : St → Option Outs} {rbs : St → St → Nat → Nat → RB} {prop : Nat → Nat → St → List St → Option St}
    (ih : ∀ S outs, f S = some outs → ∀ σ a w (Q : Exit → Act → World → Prop), PF ks Q → Rel ro g σ S.H w → Fr nt d σ S.F a → GoodQ nt d ro g σ outs Q → body.wp P Q a w)
    {Q : Exit → Act → World → Prop} (hQ : PF ks Q) {S : St} :
    ∀ (k : Nat) (J : St) (outs : Outs), loopJ ro prop rbs f S k J = some outs → ∃ m, ∀ (σ : Env) (a : Act) (w : World), Rel ro g σ S.H w → Fr nt d σ S.F a → GoodQ nt d ro g σ outs Q → Unr P body Q m a w
  | 0, J, outs, h => by simp [loopJ] at h
  | k + 1, J, outs, h => by
    simp only [loopJ] at h
    split at h
    · cases h
    · rename_i l hl
      rw [cond_eq_ite] at h
      split at h
      · rename_i hc
        cases h
        simp only [Bool.and_eq_true, Nat.beq_eq, List.any_eq_true] at hc
        obtain ⟨⟨⟨c1, c2⟩, c3⟩, i, _, c4⟩ := hc
        have hsome : (J.H.rng.get (S.H.nn + i)).isSome = true := by
          have := c4; simp only [backOk, Bool.and_eq_true] at this; exact this.1
        obtain ⟨⟨lo, hi⟩, hr⟩ := Option.isSome_iff_exists.1 hsome
        refine ⟨(hi - lo + 1).toNat + 1, fun σ a w R hf hq => ?_⟩
        obtain ⟨τ, hm, R2, f2, hext⟩ := reSt_sound c3 R hf
        obtain ⟨n, hn, hge, hle⟩ := R2.rng _ _ hr
        have hle : n ≤ hi := hle
        have hge : lo ≤ n := hge
        exact Unr.le (n := (hi - n + 1).toNat + 1) (by omega) (rounds_sound ih hQ hl c4 (σ0 := σ) (by rw [R.nlen]; exact Nat.le_refl _) (by rw [R.blen]; exact Nat.le_refl _) hq hr _ τ a w n (hext σ (.refl σ) (by rw [c1, R.nlen]; exact Nat.le_refl _) (by rw [c2, R.blen]; exact Nat.le_refl _)) R2 f2 hn (by omega))
      · split at h
        · exact loopJ_sound ih hQ k _ outs h
        · cases h
theorem loopP_sound {ks : List Nat} {P : Program} {body : Code} {f : St → Option Outs} {rbs : St → St → Nat → Nat → RB} {prop : Nat → Nat → St → List St → Option St}
    (ih : ∀ S outs, f S = some outs → ∀ σ a w (Q : Exit → Act → World → Prop), PF ks Q → Rel ro g σ S.H w → Fr nt d σ S.F a → GoodQ nt d ro g σ outs Q → body.wp P Q a w)
    {Q : Exit → Act → World → Prop} (hQ : PF ks Q) {S : St} {outs : Outs} (h : loopP ro prop rbs f S = some outs) {σ : Env} {a : Act} {w : World} (R : Rel ro g σ S.H w) (hf : Fr nt d σ S.F a) (hq : GoodQ nt d ro g σ outs Q) : ∃ m, Unr P body Q m a w := by
  unfold loopP at h
  split at h
  · rename_i l hl
    have big : ∀ l : Outs, ∃ M, ∀ S' r0, (AX.normal, S') ∈ l → loopJ ro prop rbs f S' 8 S' = some r0 → ∀ (σ : Env) (a : Act) (w : World), Rel ro g σ S'.H w → Fr nt d σ S'.F a → GoodQ nt d ro g σ r0 Q → Unr P body Q M a w := by
      intro l
      induction l with
      | nil => exact ⟨0, fun S' r0 hm => by cases hm⟩
      | cons p l ihl =>
        obtain ⟨M, hM⟩ := ihl
        cases hp : loopJ ro prop rbs f p.2 8 p.2 with
        | none =>
          refine ⟨M, fun S' r0 hm h0 => ?_⟩
          rcases List.mem_cons.1 hm with rfl | hm
          · rw [hp] at h0; cases h0
          · exact hM S' r0 hm h0
        | some r1 =>
          obtain ⟨m, hm1⟩ := loopJ_sound (P := P) (body := body) ih hQ 8 p.2 r1 hp
          refine ⟨max M m, fun S' r0 hm h0 σ a w R hf hq => ?_⟩
          rcases List.mem_cons.1 hm with rfl | hm
          · rw [hp] at h0; cases h0
            exact Unr.le (Nat.le_max_right ..) (hm1 σ a w R hf hq)
          · exact Unr.le (Nat.le_max_left ..) (hM S' r0 hm h0 σ a w R hf hq)
    obtain ⟨M, hM⟩ := big l
    refine ⟨M + 1, ih S l hl σ a w _ hQ.then R hf ?_⟩
    intro p hp σ' a' w' e l1 R1 f1 x1
    rcases bindO_mem h p hp with ⟨hn, r0, h0, hsub⟩ | ⟨hn, hm⟩
    · obtain ⟨x, S'⟩ := p
      cases hn
      simp only [XOk] at x1
      subst x1
      exact hM S' r0 hp h0 σ' a' w' R1 f1 fun q hqm σ2 a2 w2 e2 l2 => hq q (hsub q hqm) σ2 a2 w2 e2 (l1.trans l2)
    · have := hq p hm σ' a' w' e l1 R1 f1 x1
      cases e with
      | normal => cases hx : p.1 <;> rw [hx] at x1 <;> simp only [XOk] at x1 <;> first | (exact absurd hx hn) | (cases x1; done) | (obtain ⟨_, _, h⟩ := x1; cases h)
      | _ => exact this
  · cases h
theorem exec_sound (hX : X.Ok) : ∀ n : Nat,
    (∀ fid ro nt c S outs, exec X n fid ro nt c S = some outs → ∀ g d σ a w (Q : Exit → Act → World → Prop), PF X.pr Q → Rel ro g σ S.H w → Fr nt d σ S.F a → GoodQ nt d ro g σ outs Q → c.wp X.P Q a w) ∧ CallOk X.P (callX X n) := by
  intro n
  induction n with
  | zero =>
    refine ⟨fun fid ro nt c S outs h => by simp [exec] at h, fun ro g σ H w f args vs outs R h => by simp [callX] at h⟩
  | succ n ihn =>
    obtain ⟨ih, ihc⟩ := ihn
    have hC : Cfg.Ok ⟨X.P, callX X n, X.meth⟩ := ⟨ihc, hX.meth⟩
    refine ⟨?_, ?_⟩
    · intro fid ro nt c S outs h g d σ a w Q hQ R hf hq
      cases c <;> simp only [exec] at h
      case skip => cases h; exact wp_skip (hq _ (List.mem_singleton.2 rfl) σ a w .normal (.refl σ) R hf rfl)
      case label l => cases h; exact wp_label (hq _ (List.mem_singleton.2 rfl) σ a w .normal (.refl σ) R hf rfl)
      case exit id => cases h; exact wp_exit (hq _ (List.mem_singleton.2 rfl) σ a w (.exit id) (.refl σ) R hf rfl)
      case ret => cases h; exact wp_ret (hq _ (List.mem_singleton.2 rfl) σ a w .ret (.refl σ) R hf rfl)
      case region id ops draw =>
        cases draw with
        | false =>
          simp only [cond_false, runs_eq] at h
          exact wp_region (runL_sound (C := ⟨X.P, callX X n, X.meth⟩) hC _ σ S a w outs h R hf hq)
        | true =>
          simp only [cond_true, runK_eq] at h
          rw [cond_eq_ite] at h
          split at h
          · rename_i hs
            rw [Bool.and_eq_true] at hs
            obtain ⟨hs, hoff⟩ := hs
            simp only [Option.map_eq_some_iff] at h
            obtain ⟨l0, h, rfl⟩ := h
            have hq := GoodQ.leR (canonX_ok (X.cn fid) S.H.nb ro ops.toList l0) hq
            refine wp_region_any hX.mixed (wpAny_of_wpX _ _ _ _ (runD_sound (C := ⟨X.P, callX X n, X.meth⟩) hC hs hQ hoff (R.heap (w' := { w with drawn := w.drawn + 1 }) rfl) _ _ _ σ S a _ l0 h (.refl σ) (R.heap rfl) (fun _ => ?_) hf hq))
            exact (R.heap (w' := { w with drawn := w.drawn + 1 }) rfl).inner _
          · cases h
      case seq x y =>
        split at h
        · rename_i l hl
          exact wp_seq (ih fid ro nt x S l hl g d σ a w _ hQ.then R hf (GoodQ.le (hX.mrg fid l) (GoodQ.bind h hq fun S' r0 h0 σ' a' w' l2 R2 f2 q2 => ih fid ro nt y S' r0 h0 g d σ' a' w' Q hQ R2 f2 q2)))
        · cases h
      case cond cnd x y =>
        split at h
        · rename_i e he
          simp only [Option.map_eq_some_iff] at h
          obtain ⟨ll, hll, rfl⟩ := h
          have hs := sat_aeval hf.ok cnd
          rw [he] at hs
          simp only [Sat] at hs
          obtain ⟨b, hb, hv⟩ := hs
          obtain ⟨H', hm, _, R'⟩ := R.forkB hb
          obtain ⟨r, hr, hx⟩ := optAll_mem hll _ hm
          refine wp_cond hv ?_
          have := ih fid ro nt _ ⟨condF S.F cnd b, H'⟩ r hx g d σ a w Q hQ R' (condF_ok hf hv) (hq.sub fun p hp => List.mem_flatten.2 ⟨r, hr, hp⟩)
          cases b <;> exact this
        · cases h
      case block id body =>
        simp only [Option.map_eq_some_iff] at h
        obtain ⟨l, hl, rfl⟩ := h
        refine wp_block (ih fid ro nt body S l hl g d σ a w _ (fun c a dst v w hd hh => hQ c a dst v w hd hh) R hf ?_)
        intro p hp σ' a' w' e l1 R1 f1 x1
        have hq' := hq (inBlk id p) (List.mem_map.2 ⟨p, hp, rfl⟩) σ' a' w'
        obtain ⟨x, S'⟩ := p
        cases x with
        | normal => simp only [XOk] at x1; subst x1; exact hq' .normal l1 R1 f1 rfl
        | ret => simp only [XOk] at x1; subst x1; exact hq' .ret l1 R1 f1 rfl
        | panic v => obtain ⟨V, hV, rfl⟩ := x1; exact hq' _ l1 R1 f1 ⟨V, hV, rfl⟩
        | exit id' =>
          simp only [XOk] at x1
          subst x1
          simp only [Exit.inBlock]
          simp only [inBlk, cond_eq_ite, Nat.beq_eq] at hq'
          by_cases hid : id' = id
          · rw [if_pos hid] at hq' ⊢
            exact hq' .normal l1 R1 f1 rfl
          · rw [if_neg hid] at hq' ⊢
            exact hq' (.exit id') l1 R1 f1 rfl
      case loop body =>
        rw [cond_eq_ite] at h
        split at h
        · rw [cond_eq_ite] at h
          split at h
          · obtain ⟨m, hm⟩ := loopP_sound (P := X.P) (body := body) (fun S outs h σ a w Q hQ R hf hq => ih fid ro nt body S outs h g d σ a w Q hQ R hf hq) hQ h R hf hq
            exact wp_unr hm
          · obtain ⟨m, hm⟩ := loopJ_sound (P := X.P) (body := body) (fun S outs h σ a w Q hQ R hf hq => ih fid ro nt body S outs h g d σ a w Q hQ R hf hq) hQ 8 S outs h
            exact wp_unr (hm σ a w R hf hq)
        · exact wp_unr (loopX_sound hX (fun S outs h σ a w Q hQ R hf hq => ih fid ro nt body S outs h g d σ a w Q hQ R hf hq) hQ 4096 S outs σ a w h R hf hq)
      case scope body =>
        refine wp_scope_straight (ih fid ro nt body S outs h g d σ a w _ (fun c a dst v w hd hh => hQ c a dst v w hd hh) R hf ?_)
        intro p hp σ' a' w' e l1 R1 f1 x1
        have := hq p hp σ' a' w' e l1 R1 f1 x1
        cases e with
        | goto l => cases hp1 : p.1 <;> rw [hp1] at x1 <;> simp only [XOk] at x1 <;> (first | (cases x1; done) | (obtain ⟨_, _, hx⟩ := x1; cases hx))
        | _ => exact this
      all_goals cases h
    · intro ro g σ H w f args vs outs R h Rl hs hR
      simp only [callX] at h
      split at h
      · rename_i shs r hsum
        obtain ⟨⟨fi, hfi⟩, hok⟩ := hX.sum f shs r hsum
        split at h
        · rename_i H' hfold
          cases h
          obtain ⟨σ1, l1, en, eb, R1, s1, u1⟩ := foldSh_sound (toSh_sound 6) _ _ _ σ H H' Rl hs hfold
          refine ⟨true, fun w1 => callFunc_run (hX.tbl f fi hfi) _ w1, (hok w σ1.imm vs (fun b o h => R1.imm b o h) s1).mono ?_⟩
          rintro e w' ⟨v, imm', rfl, hg, hi, h1, h2, hsv⟩
          obtain ⟨R2, l2⟩ := R1.grown hg hi h1 h2
          exact hR _ (List.mem_singleton.2 rfl) _ w' _ (l1.trans l2) R2 ⟨v, by simp only [Sat]; exact hsv, rfl⟩
        · cases h
      · split at h
        · rename_i outs' hhc
          cases h
          exact hX.hc ro g σ H w f args vs _ R hhc Rl hs hR
        · split at h
          · rename_i fi hfi
            rw [cond_eq_ite] at h
            split at h
            · rename_i hle
              rw [Nat.ble_eq] at hle
              split at h
              · rename_i l hl
                simp only [Option.map_eq_some_iff] at h
                obtain ⟨l', hl', rfl⟩ := h
                have hok := hX.tbl f fi hfi
                refine ⟨true, fun w1 => callFunc_run hok _ w1, ?_⟩
                obtain ⟨fn, f1, f2, f3, f4, f5⟩ := hok
                have hlen := hs.length
                refine calls_of_wp f1 f2 (ih f ro fi.nt fi.body ⟨argsF 0 args, (H.from H.nn).setFm (bif X.fmo f then false else H.fm)⟩ l hl g [] σ _ w _ (fun c a dst v w _ hh => ?_) ((Rl.from _).setFm _) ?_ ?_)
                · obtain ⟨h1, h2⟩ := hh
                  refine ⟨?_, h2⟩
                  cases dst <;> exact h1
                · refine ⟨fun i av hi => ?_, ?_, rfl⟩
                  · obtain ⟨v, _, e2, e3⟩ := argsF_ok args vs 0 hs i av hi
                    rw [Nat.sub_zero] at e2
                    have hlt := (List.getElem?_eq_some_iff.1 e2).1
                    refine ⟨v, ?_, e3⟩
                    rw [Array.getElem?_append_left (by simpa using hlt)]
                    simpa using e2
                  · simp; omega
                · intro p hp σ' a' w' e l1 R1 fr1 x1
                  obtain ⟨q, hq, he⟩ := optAll_mem hl' p hp
                  obtain ⟨hv1, hv2⟩ := giveR_ok ro (X.rsh f) q
                  obtain ⟨hg1, hg2⟩ := gcS_ok (X.gcf f) H.nb (giveR ro (X.rsh f) q)
                  obtain ⟨q2, hq2, hx, hles⟩ := hX.mrr f (l'.map fun p => gcS (X.gcf f) H.nb (giveR ro (X.rsh f) p)) _ (List.mem_map.2 ⟨q, hq, rfl⟩)
                  have hx := hx.trans (hg1.trans hv1)
                  have hles := hv2.then (hg2.trans hles)
                  have hmem : coFrom H.n0 H.fm q2 ∈ (X.mrr f (l'.map fun p => gcS (X.gcf f) H.nb (giveR ro (X.rsh f) p))).map (coFrom H.n0 H.fm) := List.mem_map.2 ⟨q2, hq2, rfl⟩
                  have ret : (∃ v, resV X.P p.2.H p.2.F fi.res = some v ∧ q = (.ret, ⟨(Tr.leaf : Tr AV).set 0 (some v), p.2.H⟩)) → a'.defers = [] ∧ ∃ v, (results fn a'.tmps).run X.P w' = .ok v w' ∧ R (.returned v) w' := by
                    rintro ⟨v, hv, rfl⟩
                    rw [← f4] at hv
                    obtain ⟨V, s1, hrun⟩ := resV_sound R1 fr1.ok hv
                    refine ⟨fr1.defers, V, hrun, ?_⟩
                    obtain ⟨σ2, l2, R2, fr2⟩ := hles 1 g [] σ' { tmps := #[V], defers := [] } w' R1 ⟨fun i av hi => by
                      have hi : ((Tr.leaf : Tr AV).set 0 (some v)).get i = some av := hi
                      rcases Tr.get_set_some hi with ⟨rfl, h⟩ | ⟨_, h⟩
                      · cases h; exact ⟨V, rfl, s1⟩
                      · simp [Tr.get] at h, rfl, rfl⟩
                    refine hR _ hmem σ2 w' _ (l1.trans l2) ?_ ?_
                    · unfold coFrom coOf; rw [hx]; exact (R2.from _).setFm _
                    · unfold coFrom coOf
                      rw [hx]
                      refine ⟨V, ?_, rfl⟩
                      split
                      · rename_i av hav
                        obtain ⟨V', e1, e2⟩ := fr2.ok 0 av hav
                        simp at e1; subst e1; exact e2
                      · simp [Sat]
                  unfold finO at he
                  obtain ⟨x, S'⟩ := p
                  cases x with
                  | normal =>
                    simp only [XOk] at x1; subst x1
                    dsimp only at he
                    split at he
                    · rename_i v hv; cases he; exact ret ⟨v, hv, rfl⟩
                    · cases he
                  | ret =>
                    simp only [XOk] at x1; subst x1
                    dsimp only at he
                    split at he
                    · rename_i v hv; cases he; exact ret ⟨v, hv, rfl⟩
                    · cases he
                  | exit id => cases he
                  | panic v =>
                    obtain ⟨V, hV, rfl⟩ := x1
                    cases he
                    refine ⟨fr1.defers, ?_⟩
                    obtain ⟨σ2, l2, R2, fr2⟩ := hles 0 g [] σ' { tmps := #[], defers := [] } w' R1 ⟨fun i av hi => by simp [Tr.get] at hi, rfl, rfl⟩
                    refine hR _ hmem σ2 w' _ (l1.trans l2) ?_ ?_
                    · unfold coFrom coOf; rw [hx]; exact (R2.from _).setFm _
                    · unfold coFrom coOf; rw [hx]; exact ⟨V, Sat.mono l2 _ _ hV, rfl⟩
              · cases h
            · cases h
          · cases h
end
end
end Go.Proofs.YtgkoghgiclkbhaaGreatDoor.Sx
namespace Go.Proofs.YtgkoghgiclkbhaaGreatDoor.Sx
open Go
noncomputable section
set_option linter.unusedVariables false
set_option linter.unusedSimpArgs false

def leNum (N : Nat) (fm : List MV) (x y : Num) : Bool :=
  decide (x = y) || (match y.s with
    | some i => decide (y.c = 0) && Nat.ble N i && (match fm[i - N]? with | some (.num z) => decide (z = x) | _ => false)
    | none => false)
def leBE (N : Nat) (fm : List MV) (e f : BE) : Bool :=
  decide (e = f) || (match f with
    | .s i true => Nat.ble N i && (match fm[i - N]? with | some (.be z) => decide (z = e) | _ => false)
    | _ => false)
mutual
def leAV (H : AH) (N : Nat) (fm : List MV) : AV → AV → Bool
  | _, .top => true
  | .int k x, .int k' y => decide (k = k') && leNum N fm x y
  | .bool e, .bool f => leBE N fm e f
  | .str l, .str l' => decide (l = l')
  | .lit v, .lit v' => litEq v v'
  | .ptr b o, .ptr b' o' => decide (b = b') && decide (o = o')
  | .eptr b o e i s l, .eptr b' o' e' i' s' l' => decide (b = b') && decide (o = o') && decide (e = e') && decide (s = s') && decide (l = l') && leNum N fm i i'
  | .sl b o e l c, .sl b' o' e' l' c' => decide (b = b') && decide (o = o') && decide (e = e') && leNum N fm l l' && leNum N fm c c'
  | .agg l, .agg l' => leAVL H N fm l l'
  | .tup l, .tup l' => leAVL H N fm l l'
  | .fn f l, .fn f' l' => decide (f = f') && leAVL H N fm l l'
  | .ifc t a, .ifc t' a' => decide (t = t') && leAV H N fm a a'
  | .osl cs l, .osl cs' l' => Sh.beqL cs cs' && leNum N fm l l'
  | .oaddr cs, .oaddr cs' => Sh.beqL cs cs'
  | .int k x, .any (.int k' lo hi) => fitN H k x k' lo hi
  | .bool _, .any .bool => true
  | .lit v, .any s => zeroOk v s
  | .osl cs l, .any (.slice cs' lo hi) => fitSl H cs l cs' lo hi
  | .any s, .any s' => shLe s s'
  | _, _ => false
def leAVL (H : AH) (N : Nat) (fm : List MV) : List AV → List AV → Bool
  | [], [] => true
  | a :: l, b :: l' => leAV H N fm a b && leAVL H N fm l l'
  | _, _ => false
end
/-- The second's unknown numbers are what the first's are. -/
structure Maps (N : Nat) (fm : List MV) (σ τ : Env) : Prop where
  le : σ.le τ
  fm : ∀ i mv n, fm[i]? = some mv → mv.den σ = some n → τ.n[N + i]? = some n
theorem leNum_sound {N : Nat} {fm : List MV} {σ τ : Env} (hm : Maps N fm σ τ) {x y : Num} {n : Int} (h : leNum N fm x y = true) (hx : x.den σ = some n) : y.den τ = some n := by
  unfold leNum at h
  simp only [Bool.or_eq_true, decide_eq_true_eq] at h
  rcases h with rfl | h
  · exact Num.den_mono hm.le hx
  · split at h
    · rename_i i hi
      simp only [Bool.and_eq_true, decide_eq_true_eq, Nat.ble_eq] at h
      obtain ⟨⟨hc, hN⟩, h⟩ := h
      split at h
      · rename_i z hz
        simp only [decide_eq_true_eq] at h
        subst h
        have := hm.fm (i - N) _ n hz hx
        rw [show N + (i - N) = i by omega] at this
        simp [Num.den, hi, this, hc]
      · cases h
    · cases h
theorem leBE_sound {N : Nat} {fm : List MV} {σ τ : Env} (hm : Maps N fm σ τ) {e f : BE} {b : Bool} (h : leBE N fm e f = true) (hx : e.den σ = some b) : f.den τ = some b := by
  unfold leBE at h
  simp only [Bool.or_eq_true, decide_eq_true_eq] at h
  rcases h with rfl | h
  · exact BE.den_mono hm.le hx
  · split at h
    · rename_i i
      simp only [Bool.and_eq_true, Nat.ble_eq] at h
      obtain ⟨hN, h⟩ := h
      split at h
      · rename_i z hz
        simp only [decide_eq_true_eq] at h
        subst h
        have := hm.fm (i - N) _ (if b then 1 else 0) hz (by simp [MV.den, hx])
        rw [show N + (i - N) = i by omega] at this
        cases b <;> simp [BE.den, this]
      · cases h
    · cases h
theorem leAV_any_int {H : AH} {N : Nat} {fm : List MV} {σ τ : Env} (hr : RngOk H σ) {k : IntKind} {x : Num} {s : Sh} {v : Value} (h : leAV H N fm (.int k x) (.any s) = true) (hs : Sat σ (.int k x) v) : Sat τ (.any s) v := by
  cases s with
  | int k' lo hi =>
    simp only [leAV] at h
    simp only [Sat] at hs ⊢
    obtain ⟨n, h1, rfl⟩ := hs
    exact fitN_ok hr h h1
  | _ => simp [leAV] at h
theorem leAV_any_bool {H : AH} {N : Nat} {fm : List MV} {σ τ : Env} {e : BE} {s : Sh} {v : Value} (h : leAV H N fm (.bool e) (.any s) = true) (hs : Sat σ (.bool e) v) : Sat τ (.any s) v := by
  cases s with
  | bool =>
    simp only [Sat] at hs ⊢
    obtain ⟨b, _, rfl⟩ := hs
    simp [SatSh]
  | _ => simp [leAV] at h
theorem leAV_any_lit {H : AH} {N : Nat} {fm : List MV} {σ τ : Env} {u : Value} {s : Sh} {v : Value} (h : leAV H N fm (.lit u) (.any s) = true) (hs : Sat σ (.lit u) v) : Sat τ (.any s) v := by
  simp only [leAV] at h
  simp only [Sat] at hs ⊢
  subst hs
  exact zeroOk_sound h
theorem leAV_any_osl {H : AH} {N : Nat} {fm : List MV} {σ τ : Env} (hr : RngOk H σ) (hm : Maps N fm σ τ) {cs : List Sh} {l : Num} {s : Sh} {v : Value} (h : leAV H N fm (.osl cs l) (.any s) = true) (hs : Sat σ (.osl cs l) v) : Sat τ (.any s) v := by
  cases s with
  | slice cs' lo hi =>
    simp only [leAV] at h
    have := fitSl_ok hr h hs
    simp only [Sat]
    exact SatSh.mono hm.le.imm _ _ this
  | _ => simp [leAV] at h
mutual
theorem leAV_sound {H : AH} {N : Nat} {fm : List MV} {σ τ : Env} (hr : RngOk H σ) (hm : Maps N fm σ τ) : ∀ (a b : AV) (v : Value), leAV H N fm a b = true → Sat σ a v → Sat τ b v
  | a, .top, v, h, hs => by simp [Sat]
  | .int k x, b, v, h, hs => by
    cases b <;> first | exact leAV_any_int hr h hs | skip
    all_goals simp only [leAV] at h <;> try (first | (simp only [Sat]; done) | (cases h; done))
    simp only [Bool.and_eq_true, decide_eq_true_eq] at h
    obtain ⟨rfl, h⟩ := h
    simp only [Sat] at hs ⊢
    obtain ⟨n, h1, rfl⟩ := hs
    exact ⟨n, leNum_sound hm h h1, rfl⟩
  | .bool e, b, v, h, hs => by
    cases b <;> first | exact leAV_any_bool h hs | skip
    all_goals simp only [leAV] at h <;> try (first | (simp only [Sat]; done) | (cases h; done))
    simp only [Sat] at hs ⊢
    obtain ⟨n, h1, rfl⟩ := hs
    exact ⟨n, leBE_sound hm h h1, rfl⟩
  | .str l, b, v, h, hs => by
    cases b <;> simp only [leAV] at h <;> try (first | (simp only [Sat]; done) | (cases h; done))
    simp only [decide_eq_true_eq] at h
    subst h
    simpa only [Sat] using hs
  | .lit u, b, v, h, hs => by
    cases b <;> first | exact leAV_any_lit h hs | skip
    all_goals simp only [leAV] at h <;> try (first | (simp only [Sat]; done) | (cases h; done))
    have := litEq_eq h
    subst this
    simpa only [Sat] using hs
  | .ptr .., b, v, h, hs => by
    cases b <;> simp only [leAV] at h <;> try (first | (simp only [Sat]; done) | (cases h; done))
    simp only [Bool.and_eq_true, decide_eq_true_eq] at h
    obtain ⟨rfl, rfl⟩ := h
    exact Sat.mono hm.le _ _ hs
  | .eptr .., b, v, h, hs => by
    cases b <;> simp only [leAV] at h <;> try (first | (simp only [Sat]; done) | (cases h; done))
    simp only [Bool.and_eq_true, decide_eq_true_eq] at h
    obtain ⟨⟨⟨⟨⟨rfl, rfl⟩, rfl⟩, rfl⟩, rfl⟩, h⟩ := h
    simp only [Sat] at hs ⊢
    obtain ⟨n, sz, k, h1, h2, h3⟩ := hs
    exact ⟨n, sz, k, prefix_get hm.le.b h1, leNum_sound hm h h2, h3⟩
  | .sl .., b, v, h, hs => by
    cases b <;> simp only [leAV] at h <;> try (first | (simp only [Sat]; done) | (cases h; done))
    simp only [Bool.and_eq_true, decide_eq_true_eq] at h
    obtain ⟨⟨⟨⟨rfl, rfl⟩, rfl⟩, h⟩, h'⟩ := h
    simp only [Sat] at hs ⊢
    obtain ⟨n, sz, l, c, h1, h2, h3, h4⟩ := hs
    exact ⟨n, sz, l, c, prefix_get hm.le.b h1, leNum_sound hm h h2, leNum_sound hm h' h3, h4⟩
  | .agg l, b, v, h, hs => by
    cases b <;> simp only [leAV] at h <;> try (first | (simp only [Sat]; done) | (cases h; done))
    simp only [Sat] at hs ⊢
    obtain ⟨vs, rfl, h1⟩ := hs
    exact ⟨vs, rfl, leAVL_sound hr hm _ _ vs h h1⟩
  | .tup l, b, v, h, hs => by
    cases b <;> simp only [leAV] at h <;> try (first | (simp only [Sat]; done) | (cases h; done))
    simp only [Sat] at hs ⊢
    obtain ⟨vs, rfl, h1⟩ := hs
    exact ⟨vs, rfl, leAVL_sound hr hm _ _ vs h h1⟩
  | .fn f l, b, v, h, hs => by
    cases b <;> simp only [leAV] at h <;> try (first | (simp only [Sat]; done) | (cases h; done))
    simp only [Bool.and_eq_true, decide_eq_true_eq] at h
    obtain ⟨rfl, h⟩ := h
    simp only [Sat] at hs ⊢
    obtain ⟨vs, rfl, h1⟩ := hs
    exact ⟨vs, rfl, leAVL_sound hr hm _ _ vs h h1⟩
  | .ifc t a, b, v, h, hs => by
    cases b <;> simp only [leAV] at h <;> try (first | (simp only [Sat]; done) | (cases h; done))
    simp only [Bool.and_eq_true, decide_eq_true_eq] at h
    obtain ⟨rfl, h⟩ := h
    simp only [Sat] at hs ⊢
    obtain ⟨u, rfl, h1⟩ := hs
    exact ⟨u, rfl, leAV_sound hr hm _ _ u h h1⟩
  | .osl cs l, b, v, h, hs => by
    cases b <;> first | exact leAV_any_osl hr hm h hs | skip
    all_goals simp only [leAV] at h <;> try (first | (simp only [Sat]; done) | (cases h; done))
    simp only [Bool.and_eq_true] at h
    obtain ⟨h0, h⟩ := h
    have := Sh.beqL_eq _ _ h0; subst this
    have hs' := Sat.mono hm.le _ _ hs
    simp only [Sat] at hs hs' ⊢
    obtain ⟨base, l', cap, rfl, h1, h2⟩ := hs
    obtain ⟨base', l'', cap', e, h1', h2'⟩ := hs'
    cases e
    exact ⟨_, _, _, rfl, leNum_sound hm h h1, h2'⟩
  | .oaddr cs, b, v, h, hs => by
    cases b <;> simp only [leAV] at h <;> try (first | (simp only [Sat]; done) | (cases h; done))
    have := Sh.beqL_eq _ _ h; subst this
    exact Sat.mono hm.le _ _ hs
  | .any s, b, v, h, hs => by
    cases b <;> simp only [leAV] at h <;> try (first | (simp only [Sat]; done) | (cases h; done))
    have hs' := Sat.mono hm.le _ _ hs
    simp only [Sat] at hs' ⊢
    exact shLe_sound h hs'
  | .top, b, v, h, hs => by
    cases b <;> simp only [leAV] at h <;> first | (simp only [Sat]; done) | (cases h; done)
theorem leAVL_sound {H : AH} {N : Nat} {fm : List MV} {σ τ : Env} (hr : RngOk H σ) (hm : Maps N fm σ τ) : ∀ (l l' : List AV) (vs : List Value), leAVL H N fm l l' = true → SatL σ l vs → SatL τ l' vs
  | [], l', vs, h, hs => by
    cases l' with
    | nil => simpa only [SatL] using hs
    | cons => simp [leAVL] at h
  | a :: l, l', vs, h, hs => by
    cases l' with
    | nil => simp [leAVL] at h
    | cons b l' =>
      simp only [leAVL, Bool.and_eq_true] at h
      simp only [SatL] at hs ⊢
      obtain ⟨v, vs', rfl, h1, h2⟩ := hs
      exact ⟨v, vs', rfl, leAV_sound hr hm _ _ v h.1 h1, leAVL_sound hr hm _ _ vs' h.2 h2⟩
end
def leAB (H : AH) (N : Nat) (fm : List MV) (x y : AB) : Bool :=
  decide (x.e = y.e) && Nat.ble y.n x.n && Sh.beqL x.d y.d && trZip (leAV H N fm) x.t y.t && (y.d.isEmpty || trDef (fun j a => leAV H N fm a (shNth y.d j)) x.t y.t 0 1)
theorem leAB_sound {H : AH} {N : Nat} {fm : List MV} {σ τ : Env} (hr : RngOk H σ) (hm : Maps N fm σ τ) {x y : AB} {w : World} {n sz : Nat} (h : leAB H N fm x y = true) (hb : BlkOk σ w x n sz) : BlkOk τ w y n sz := by
  unfold leAB at h
  simp only [Bool.and_eq_true, decide_eq_true_eq, Nat.ble_eq, Bool.or_eq_true] at h
  obtain ⟨⟨⟨⟨h1, h2⟩, h3⟩, h4⟩, h5⟩ := h
  have h3 := Sh.beqL_eq _ _ h3
  obtain ⟨c, e1, e2, e3, e4⟩ := hb
  refine ⟨c, by rw [← h1]; exact e1, e2, by omega, fun j v hv => ?_⟩
  have hx := e4 j v hv
  unfold CellOk at *
  cases hy : y.t.get j with
  | some b =>
    obtain ⟨a, ha, hl⟩ := trZip_get h4 hy
    rw [ha] at hx
    exact leAV_sound hr hm a b v hl hx
  | none =>
    dsimp only
    cases hxj : x.t.get j with
    | none => rw [hxj] at hx; rw [← h3]; exact SatShAt.mono hm.le.imm _ _ _ hx
    | some a =>
      rcases h5 with h5 | h5
      · have : y.d = [] := by simpa using h5
        rw [this]; simp [SatShAt]
      · rcases trDef_get h5 hxj with ⟨b, hb⟩ | hb
        · rw [hy] at hb; cases hb
        · simp only [Nat.zero_add, Nat.one_mul] at hb
          rw [hxj] at hx
          exact shNth_at (leAV_sound hr hm a _ v hb hx)
def rngIn (S : St) (N : Nat) (fm : List MV) (i : Nat) (r : Int × Int) : Bool :=
  decide (r.1 ≤ r.2) &&
  bif Nat.blt i S.H.nn then (match S.H.rng.get i with | some q => decide (r.1 ≤ q.1) && decide (q.2 ≤ r.2) | none => false)
  else bif Nat.blt i N then true
  else match fm[i - N]? with
    | some (.num x) => (match S.H.range x with | some q => decide (r.1 ≤ q.1) && decide (q.2 ≤ r.2) | none => false)
    | some (.be _) => decide (r.1 ≤ 0) && decide (1 ≤ r.2)
    | none => false
def leSt (S J : St) (fm : List MV) : Bool :=
  Nat.ble fm.length J.H.nn && Nat.ble S.H.nn (J.H.nn - fm.length) && Nat.ble S.H.nb J.H.nb && (J.H.lts.all (fun p => S.H.lts.any (fun q => decide (p = q))) && J.H.fx.all (fun f => S.H.fx.any (fun f' => decide (f = f')))) &&
  trAll (rngIn S (J.H.nn - fm.length) fm) J.H.rng 0 1 && trZip (leAV S.H (J.H.nn - fm.length) fm) S.F J.F && trZip (leAB S.H (J.H.nn - fm.length) fm) S.H.hp J.H.hp
theorem leSt_sound {S J : St} {fm : List MV} (h : leSt S J fm = true) : LeS S J := by
  intro ro nt g d σ a w R hf
  unfold leSt at h
  simp only [Bool.and_eq_true, Nat.ble_eq] at h
  obtain ⟨⟨⟨⟨⟨⟨h1, h2⟩, h3⟩, h4, h8⟩, h5⟩, h6⟩, h7⟩ := h
  generalize hN : J.H.nn - fm.length = N at *
  -- the lowest that is let in
  let low : Nat → Int := fun i => match J.H.rng.get i with | some r => r.1 | none => 0
  let padL : List Int := (List.range (N - S.H.nn)).map fun k => low (S.H.nn + k)
  let fmL : List Int := fm.zipIdx.map fun p => (p.1.den σ).getD (low (N + p.2))
  let τ : Env := { n := σ.n ++ (padL ++ fmL), b := σ.b ++ List.replicate (J.H.nb - S.H.nb) none, imm := σ.imm }
  have hle : σ.le τ := ⟨List.prefix_append _ _, List.prefix_append _ _, fun _ _ h => h⟩
  have hfmL : ∀ i mv, fm[i]? = some mv → τ.n[N + i]? = some ((mv.den σ).getD (low (N + i))) := by
    intro i mv hi
    show (σ.n ++ (padL ++ fmL))[N + i]? = _
    rw [List.getElem?_append_right (by rw [R.nlen]; omega), List.getElem?_append_right (by simp [padL, R.nlen]; omega)]
    have : N + i - σ.n.length - padL.length = i := by simp [padL, R.nlen]; omega
    rw [this]
    simp [fmL, hi]
  have hm : Maps N fm σ τ := ⟨hle, fun i mv n hi hn => by rw [hfmL i mv hi, hn]; rfl⟩
  refine ⟨τ, hle, ⟨?_, ?_, ?_, ?_, ?_, ?_, R.imm, ?_, R.frame, R.sz, ?_, ?_, R.immo, fun f hf' => by
    simp only [List.all_eq_true, List.any_eq_true, decide_eq_true_eq] at h8
    obtain ⟨f', m1, rfl⟩ := h8 f hf'
    exact (R.fx f m1).mono hle (.inr (.same rfl))⟩, ⟨?_, hf.size, hf.defers⟩⟩
  · show (σ.n ++ (padL ++ fmL)).length = _
    simp [padL, fmL, R.nlen]; omega
  · intro i r hr
    have hp := trAll_get h5 hr
    simp only [Nat.zero_add, Nat.one_mul] at hp
    unfold rngIn at hp
    simp only [Bool.and_eq_true, decide_eq_true_eq, cond_eq_ite, Nat.blt_eq] at hp
    obtain ⟨hlo, hp⟩ := hp
    split at hp
    · split at hp
      · rename_i q hq
        simp only [Bool.and_eq_true, decide_eq_true_eq] at hp
        obtain ⟨n, hn, q1, q2⟩ := R.rng i q hq
        exact ⟨n, prefix_get hle.n hn, by omega, by omega⟩
      · cases hp
    · rename_i hi
      split at hp
      · rename_i hi2
        refine ⟨r.1, ?_, by omega, hlo⟩
        show (σ.n ++ (padL ++ fmL))[i]? = _
        rw [List.getElem?_append_right (by rw [R.nlen]; omega), List.getElem?_append_left (by simp [padL, R.nlen]; omega)]
        simp only [padL, List.getElem?_map, R.nlen]
        rw [List.getElem?_range (by omega)]
        simp only [Option.map_some, low]
        rw [show S.H.nn + (i - S.H.nn) = i by omega, hr]
      · rename_i hi2
        have hlow : low i = r.1 := by simp only [low, hr]
        split at hp
        · rename_i x hx
          have := hfmL _ _ hx
          rw [show N + (i - N) = i by omega] at this
          refine ⟨_, this, ?_⟩
          split at hp
          · rename_i q hq
            simp only [Bool.and_eq_true, decide_eq_true_eq] at hp
            simp only [MV.den]
            cases hd : x.den σ with
            | none => simp only [Option.getD_none, hlow]; omega
            | some n =>
              have := R.range hd hq
              simp only [Option.getD_some]; omega
          · cases hp
        · rename_i e hx
          have := hfmL _ _ hx
          rw [show N + (i - N) = i by omega] at this
          refine ⟨_, this, ?_⟩
          simp only [Bool.and_eq_true, decide_eq_true_eq] at hp
          simp only [MV.den]
          cases hd : e.den σ with
          | none => simp only [Option.map_none, Option.getD_none, hlow]; omega
          | some b => cases b <;> simp <;> omega
        · cases hp
  · intro p hp
    simp only [List.all_eq_true, List.any_eq_true, decide_eq_true_eq] at h4
    obtain ⟨p', m1, rfl⟩ := h4 p hp
    obtain ⟨x, y, e1, e2, e3⟩ := R.lts p m1
    exact ⟨x, y, Num.den_mono hle e1, Num.den_mono hle e2, e3⟩
  · show (σ.b ++ List.replicate (J.H.nb - S.H.nb) none).length = _
    simp [R.blen]; omega
  · intro b ab hb
    obtain ⟨x, hx, hl⟩ := trZip_get h7 hb
    obtain ⟨n, sz, e1, e2⟩ := R.blk b x hx
    exact ⟨n, sz, prefix_get hle.b e1, leAB_sound (fun _ _ _ _ h1 h2 => R.range h1 h2) hm hl e2⟩
  · intro b b' x y n s s' hb hb' e1 e2
    obtain ⟨x1, k1, _⟩ := trZip_get h7 hb
    obtain ⟨x2, k2, _⟩ := trZip_get h7 hb'
    obtain ⟨n1, z1, q1, _⟩ := R.blk b x1 k1
    obtain ⟨n2, z2, q2, _⟩ := R.blk b' x2 k2
    have w1 := prefix_get hle.b q1
    have w2 := prefix_get hle.b q2
    rw [e1] at w1; cases w1
    rw [e2] at w2; cases w2
    exact R.inj b b' _ _ n _ _ k1 k2 q1 q2
  · intro b ab n sz hb hn
    obtain ⟨x1, k1, _⟩ := trZip_get h7 hb
    obtain ⟨n1, z1, q1, _⟩ := R.blk b x1 k1
    have w1 := prefix_get hle.b q1
    rw [hn] at w1; cases w1
    exact R.immd b _ n _ k1 q1
  · intro b n sz hb hn
    have hn : (σ.b ++ List.replicate (J.H.nb - S.H.nb) none)[b]? = some (some (n, sz)) := hn
    by_cases hlt : b < σ.b.length
    · rw [List.getElem?_append_left hlt] at hn; exact R.own b n sz hb hn
    · rw [List.getElem?_append_right (by omega), List.getElem?_replicate] at hn
      split at hn <;> cases hn
  · intro b n sz hn
    have hn : (σ.b ++ List.replicate (J.H.nb - S.H.nb) none)[b]? = some (some (n, sz)) := hn
    by_cases hlt : b < σ.b.length
    · rw [List.getElem?_append_left hlt] at hn; exact R.bnd b n sz hn
    · rw [List.getElem?_append_right (by omega), List.getElem?_replicate] at hn
      split at hn <;> cases hn
  · intro i av hi
    obtain ⟨x, hx, hl⟩ := trZip_get h6 hi
    obtain ⟨v, e1, e2⟩ := hf.ok i x hx
    exact ⟨v, e1, leAV_sound (fun _ _ _ _ h1 h2 => R.range h1 h2) hm _ _ v hl e2⟩
/-! a state that both may be cases of: found, then asked -/
structure JS where
  n : Nat
  m1 : List MV
  m2 : List MV
  rg : List (Int × Int)
def jnum (H1 H2 : AH) (x y : Num) (j : JS) : Num × JS :=
  bif decide (x = y) then (x, j) else match H1.range x, H2.range y with
    | some (a, b), some (c, d) => (⟨some j.n, 0⟩, ⟨j.n + 1, .num x :: j.m1, .num y :: j.m2, (min a c, max b d) :: j.rg⟩)
    | _, _ => (x, j)
def jbe (e f : BE) (j : JS) : BE × JS :=
  bif decide (e = f) then (e, j) else (.s j.n true, ⟨j.n + 1, .be e :: j.m1, .be f :: j.m2, (0, 1) :: j.rg⟩)
mutual
def jav (H1 H2 : AH) : AV → AV → JS → AV × JS
  | .int k x, .int k' y, j => bif decide (k = k') then (match jnum H1 H2 x y j with | (z, j') => (.int k z, j')) else (.top, j)
  | .bool e, .bool f, j => match jbe e f j with | (z, j') => (.bool z, j')
  | .str l, .str l', j => bif decide (l = l') then (.str l, j) else (.any .str, j)
  | .lit v, .lit v', j => bif litEq v v' then (.lit v, j) else (.top, j)
  | .ptr b o, .ptr b' o', j => bif decide (b = b') && decide (o = o') then (.ptr b o, j) else (.top, j)
  | .sl b o e l c, .sl b' o' e' l' c', j => bif decide (b = b') && decide (o = o') && decide (e = e') then
      (match jnum H1 H2 l l' j with | (z, j') => match jnum H1 H2 c c' j' with | (y, j'') => (.sl b o e z y, j'')) else (.top, j)
  | .agg l, .agg l', j => match javL H1 H2 l l' j with | (some z, j') => (.agg z, j') | (none, j') => (.top, j')
  | .tup l, .tup l', j => match javL H1 H2 l l' j with | (some z, j') => (.tup z, j') | (none, j') => (.top, j')
  | .fn f l, .fn f' l', j => bif decide (f = f') then (match javL H1 H2 l l' j with | (some z, j') => (.fn f z, j') | (none, j') => (.top, j')) else (.top, j)
  | .ifc t a, .ifc t' a', j => bif decide (t = t') then (match jav H1 H2 a a' j with | (z, j') => (.ifc t z, j')) else (.top, j)
  | .osl cs l, .osl cs' l', j => bif Sh.beqL cs cs' then (match jnum H1 H2 l l' j with | (z, j') => (.osl cs z, j')) else (.top, j)
  | .oaddr cs, .oaddr cs', j => bif Sh.beqL cs cs' then (.oaddr cs, j) else (.top, j)
  | .int k x, .any (.int k' lo hi), j => bif fitN H1 k x k' lo hi then (.any (.int k' lo hi), j) else (.top, j)
  | .any (.int k' lo hi), .int k x, j => bif fitN H2 k x k' lo hi then (.any (.int k' lo hi), j) else (.top, j)
  | .bool _, .any .bool, j => (.any .bool, j)
  | .any .bool, .bool _, j => (.any .bool, j)
  | .lit v, .any s, j => bif zeroOk v s then (.any s, j) else (.top, j)
  | .osl cs l, .any (.slice cs' lo hi), j => bif fitSl H1 cs l cs' lo hi then (.any (.slice cs' lo hi), j) else (.top, j)
  | .any (.slice cs' lo hi), .osl cs l, j => bif fitSl H2 cs l cs' lo hi then (.any (.slice cs' lo hi), j) else (.top, j)
  | .any s, .lit v, j => bif zeroOk v s then (.any s, j) else (.top, j)
  | .any s, .any s', j => bif shLe s s' then (.any s', j) else bif shLe s' s then (.any s, j) else (.top, j)
  | _, _, j => (.top, j)
def javL (H1 H2 : AH) : List AV → List AV → JS → Option (List AV) × JS
  | [], [], j => (some [], j)
  | a :: l, b :: l', j => match jav H1 H2 a b j with
    | (z, j') => match javL H1 H2 l l' j' with
      | (some r, j'') => (some (z :: r), j'')
      | (none, j'') => (none, j'')
  | _, _, j => (none, j)
end
def jtr (kp : Bool) (H1 H2 : AH) : Tr AV → Tr AV → JS → Tr AV × JS
  | .node l v r, .node l' v' r', j =>
    match (match v, v' with
      | some x, some y => (match jav H1 H2 x y j with | (.top, j') => (bif kp then some .top else none, j') | (z, j') => (some z, j'))
      | _, _ => (none, j)) with
    | (z, j1) => match jtr kp H1 H2 l l' j1 with
      | (tl, j2) => match jtr kp H1 H2 r r' j2 with
        | (tr, j3) => (.node tl z tr, j3)
  | _, _, j => (.leaf, j)
def jab (H1 H2 : AH) (x y : AB) (j : JS) : Option AB × JS :=
  bif decide (x.e = y.e) && Sh.beqL x.d y.d then match jtr (!x.d.isEmpty) H1 H2 x.t y.t j with
    | (t, j') => (some { t := t, d := x.d, n := min x.n y.n, e := x.e }, j')
  else (none, j)
def jhp (H1 H2 : AH) : Tr AB → Tr AB → JS → Tr AB × JS
  | .node l v r, .node l' v' r', j =>
    match (match v, v' with
      | some x, some y => jab H1 H2 x y j
      | _, _ => (none, j)) with
    | (z, j1) => match jhp H1 H2 l l' j1 with
      | (tl, j2) => match jhp H1 H2 r r' j2 with
        | (tr, j3) => (.node tl z tr, j3)
  | _, _, j => (.leaf, j)
def jrg : Tr (Int × Int) → Tr (Int × Int) → Tr (Int × Int)
  | .leaf, t => t
  | t, .leaf => t
  | .node l v r, .node l' v' r' => .node (jrg l l') (match v, v' with | some a, some b => some (min a.1 b.1, max a.2 b.2) | some a, none => some a | none, b => b) (jrg r r')
/-- The numbers that were there when the function was entered. -/
def jrgN (n0 : Nat) : Tr (Int × Int) → Tr (Int × Int) → Nat → Nat → Tr (Int × Int)
  | .node l v r, .node l' v' r', base, step => .node (jrgN n0 l l' (base + step) (2 * step))
      (bif Nat.blt base n0 then (match v, v' with | some a, some b => some (min a.1 b.1, max a.2 b.2) | _, _ => none) else none) (jrgN n0 r r' (base + 2 * step) (2 * step))
  | _, _, _, _ => .leaf
/-- The ranges of the numbers that are still asked for. -/
def liveN (R1 R2 : Tr (Int × Int)) (x : Num) (t : Tr (Int × Int)) : Tr (Int × Int) := match t with
  | .leaf => (match x.s with
    | none => .leaf
    | some i => match R1.get i, R2.get i with
      | some a, some b => (Tr.leaf : Tr (Int × Int)).set i (some (min a.1 b.1, max a.2 b.2))
      | _, _ => .leaf)
  | .node l v r => (match x.s with
    | none => .node l v r
    | some i => match (Tr.node l v r).get i with
      | some _ => .node l v r
      | none => match R1.get i, R2.get i with
        | some a, some b => (Tr.node l v r).set i (some (min a.1 b.1, max a.2 b.2))
        | _, _ => .node l v r)
def liveE (R1 R2 : Tr (Int × Int)) (e : BE) (t : Tr (Int × Int)) : Tr (Int × Int) := match e with
  | .c _ => t
  | .s i _ => liveN R1 R2 ⟨some i, 0⟩ t
  | .lt a b _ => liveN R1 R2 a (liveN R1 R2 b t)
  | .eq a b _ => liveN R1 R2 a (liveN R1 R2 b t)
mutual
def liveA (R1 R2 : Tr (Int × Int)) : AV → Tr (Int × Int) → Tr (Int × Int)
  | .int _ x, t => liveN R1 R2 x t
  | .bool e, t => liveE R1 R2 e t
  | .eptr _ _ _ i _ _, t => liveN R1 R2 i t
  | .sl _ _ _ l c, t => liveN R1 R2 l (liveN R1 R2 c t)
  | .agg l, t => liveL R1 R2 l t
  | .tup l, t => liveL R1 R2 l t
  | .fn _ l, t => liveL R1 R2 l t
  | .ifc _ a, t => liveA R1 R2 a t
  | .osl _ l, t => liveN R1 R2 l t
  | _, t => t
def liveL (R1 R2 : Tr (Int × Int)) : List AV → Tr (Int × Int) → Tr (Int × Int)
  | [], t => t
  | a :: l, t => liveL R1 R2 l (liveA R1 R2 a t)
end
def liveT (R1 R2 : Tr (Int × Int)) : Tr AV → Tr (Int × Int) → Tr (Int × Int)
  | .leaf, t => t
  | .node l v r, t => liveT R1 R2 r (liveT R1 R2 l (match v with | some a => liveA R1 R2 a t | none => t))
def liveH (R1 R2 : Tr (Int × Int)) : Tr AB → Tr (Int × Int) → Tr (Int × Int)
  | .leaf, t => t
  | .node l v r, t => liveH R1 R2 r (liveH R1 R2 l (match v with | some b => liveT R1 R2 b.t t | none => t))
def jst (S1 S2 : St) : St × List MV × List MV :=
  match jtr false S1.H S2.H S1.F S2.F ⟨max S1.H.nn S2.H.nn, [], [], []⟩ with
  | (F, j1) => match jhp S1.H S2.H S1.H.hp S2.H.hp j1 with
    | (hp, j2) => (⟨F, ⟨setL (liveH S1.H.rng S2.H.rng hp (liveT S1.H.rng S2.H.rng F (jrgN S1.H.n0 S1.H.rng S2.H.rng 0 1))) (max S1.H.nn S2.H.nn) j2.rg.reverse, j2.n, bif S1.H.fm then S1.H.lts.filter (fun p => S2.H.lts.any (fun q => decide (p = q))) else [], hp, max S1.H.nb S2.H.nb, S1.H.fx.filter (fun f => S2.H.fx.any (fun f' => decide (f = f'))), S1.H.fm && S2.H.fm, S1.H.n0⟩⟩, j2.m1.reverse, j2.m2.reverse)
def sameX : AX → AX → Bool
  | .normal, .normal => true
  | .ret, .ret => true
  | .exit i, .exit k => Nat.beq i k
  | _, _ => false
theorem sameX_eq {x y : AX} (h : sameX x y = true) : x = y := by
  cases x <;> cases y <;> simp_all [sameX]
/-- What points somewhere is not given up for a join. -/
def isRef : AV → Bool
  | .ptr .. | .eptr .. | .sl .. | .osl .. | .oaddr .. | .ifc .. | .fn .. => true
  | .lit (.pointer none) | .lit (.slice none _ _) | .lit .nilIface | .lit .nilFunc => true
  | .any (.slice ..) | .any (.ptr ..) => true
  | _ => false
def refOk : Tr AV → Tr AV → Tr AV → Bool
  | .node l v r, .node l' v' r', .node l'' v'' r'' => (match v, v' with
    | some x, some y => !(isRef x && isRef y) || v''.isSome
    | _, _ => true) && refOk l l' l'' && refOk r r' r''
  | .node l v r, .node l' v' r', .leaf => (match v, v' with
    | some x, some y => !(isRef x && isRef y)
    | _, _ => true) && refOk l l' .leaf && refOk r r' .leaf
  | _, _, _ => true
def insM (p : AX × St) : Outs → Outs
  | [] => [p]
  | q :: r => bif sameX q.1 p.1 then (match jst q.2 p.2 with
      | (J, f1, f2) => bif (leSt q.2 J f1 && leSt p.2 J f2) && refOk q.2.F p.2.F J.F then (q.1, J) :: r else q :: insM p r)
    else q :: insM p r
def mrgAll (l : Outs) : Outs := l.foldl (fun acc p => insM p acc) []
theorem insM_old {p : AX × St} : ∀ {l : Outs}, ∀ q ∈ l, ∃ q' ∈ insM p l, q'.1 = q.1 ∧ LeS q.2 q'.2
  | [], q, h => by cases h
  | x :: r, q, h => by
    have old : q ∈ r → ∃ q' ∈ insM p r, q'.1 = q.1 ∧ LeS q.2 q'.2 := fun h => insM_old q h
    have keep : ∃ q' ∈ x :: insM p r, q'.1 = q.1 ∧ LeS q.2 q'.2 := by
      rcases List.mem_cons.1 h with rfl | h
      · exact ⟨_, List.mem_cons_self .., rfl, .refl _⟩
      · obtain ⟨q', h1, h2⟩ := old h; exact ⟨q', List.mem_cons_of_mem _ h1, h2⟩
    simp only [insM, cond_eq_ite, Bool.and_eq_true]
    split
    · split
      · rename_i hc
        rcases List.mem_cons.1 h with rfl | h
        · exact ⟨_, List.mem_cons_self .., rfl, leSt_sound hc.1.1⟩
        · exact ⟨q, List.mem_cons_of_mem _ h, rfl, .refl _⟩
      · exact keep
    · exact keep
theorem insM_new {p : AX × St} : ∀ {l : Outs}, ∃ q' ∈ insM p l, q'.1 = p.1 ∧ LeS p.2 q'.2
  | [] => ⟨p, List.mem_singleton.2 rfl, rfl, .refl _⟩
  | x :: r => by
    have rest : ∃ q' ∈ x :: insM p r, q'.1 = p.1 ∧ LeS p.2 q'.2 := by
      obtain ⟨q', h1, h2⟩ := insM_new (p := p) (l := r); exact ⟨q', List.mem_cons_of_mem _ h1, h2⟩
    simp only [insM, cond_eq_ite, Bool.and_eq_true]
    split
    · rename_i hx
      split
      · rename_i hc
        exact ⟨_, List.mem_cons_self .., sameX_eq hx, leSt_sound hc.1.2⟩
      · exact rest
    · exact rest
theorem foldM {l : Outs} : ∀ (acc : Outs), (∀ q ∈ acc, ∃ q' ∈ l.foldl (fun acc p => insM p acc) acc, q'.1 = q.1 ∧ LeS q.2 q'.2) ∧ (∀ p ∈ l, ∃ q' ∈ l.foldl (fun acc p => insM p acc) acc, q'.1 = p.1 ∧ LeS p.2 q'.2) := by
  induction l with
  | nil => intro acc; exact ⟨fun q hq => ⟨q, hq, rfl, .refl _⟩, fun p hp => by cases hp⟩
  | cons x r ih =>
    intro acc
    obtain ⟨h1, h2⟩ := ih (insM x acc)
    simp only [List.foldl_cons]
    refine ⟨fun q hq => ?_, fun p hp => ?_⟩
    · obtain ⟨q1, m1, e1, l1⟩ := insM_old (p := x) q hq
      obtain ⟨q2, m2, e2, l2⟩ := h1 q1 m1
      exact ⟨q2, m2, e2.trans e1, l1.trans l2⟩
    · rcases List.mem_cons.1 hp with rfl | hp
      · obtain ⟨q1, m1, e1, l1⟩ := insM_new (p := p) (l := acc)
        obtain ⟨q2, m2, e2, l2⟩ := h1 q1 m1
        exact ⟨q2, m2, e2.trans e1, l1.trans l2⟩
      · exact h2 p hp
theorem mrgAll_ok (l : Outs) : ∀ p ∈ l, ∃ q ∈ mrgAll l, q.1 = p.1 ∧ LeS p.2 q.2 := (foldM []).2
/-- Joined only where they are many. -/
def mrgIf (k : Nat) (l : Outs) : Outs := bif Nat.ble l.length k then l else mrgAll l
theorem mrgIf_ok (k : Nat) (l : Outs) : ∀ p ∈ l, ∃ q ∈ mrgIf k l, q.1 = p.1 ∧ LeS p.2 q.2 := by
  intro p hp
  unfold mrgIf
  rw [cond_eq_ite]
  split
  · exact ⟨p, hp, rfl, .refl _⟩
  · exact mrgAll_ok l p hp
/-- Slots that nobody asks any more are given up first. -/
def clearF (dead : List Nat) (F : Tr AV) : Tr AV := dead.foldl (fun F i => F.set i none) F
theorem clearF_get {i : Nat} {av : AV} : ∀ {dead : List Nat} {F : Tr AV}, (clearF dead F).get i = some av → F.get i = some av
  | [], F, h => h
  | t :: l, F, h => by
    have h := clearF_get (dead := l) (F := F.set t none) h
    rcases Tr.get_set_some h with ⟨_, h⟩ | ⟨_, h⟩
    · cases h
    · exact h
def clearS (dead : List Nat) (p : AX × St) : AX × St := match p.1 with
  | .normal => (.normal, ⟨clearF dead p.2.F, p.2.H⟩)
  | _ => p
theorem clearS_ok (dead : List Nat) (p : AX × St) : (clearS dead p).1 = p.1 ∧ LeS p.2 (clearS dead p).2 := by
  unfold clearS
  split
  · rename_i h
    exact ⟨h.symm, fun ro nt g d σ a w R hf => ⟨σ, .refl σ, R, ⟨fun i av hi => hf.ok i av (clearF_get hi), hf.size, hf.defers⟩⟩⟩
  · exact ⟨rfl, .refl _⟩
/-- Only the slots of a list are kept. -/
def keepT : Tr Bool → Tr AV → Tr AV
  | .node l u r, .node l' v r' => .node (keepT l l') (match u with | some _ => v | none => none) (keepT r r')
  | _, _ => .leaf
theorem keepT_get : ∀ {m : Tr Bool} {F : Tr AV} {i : Nat} {av : AV}, (keepT m F).get i = some av → F.get i = some av
  | .leaf, F, i, av, h => by simp [keepT, Tr.get_leaf] at h
  | .node l u r, .leaf, i, av, h => by simp [keepT, Tr.get_leaf] at h
  | .node l u r, .node l' v r', i, av, h => by
    simp only [keepT] at h
    rw [Tr.get_node] at h ⊢
    by_cases h0 : i = 0
    · rw [if_pos h0] at h ⊢
      split at h
      · exact h
      · cases h
    · rw [if_neg h0] at h ⊢
      by_cases h1 : i % 2 = 1
      · rw [if_pos h1] at h ⊢; exact keepT_get h
      · rw [if_neg h1] at h ⊢; exact keepT_get h
def maskOf (l : List Nat) : Tr Bool := l.foldr (fun i t => t.set i (some true)) .leaf
def keepS (m : Tr Bool) (p : AX × St) : AX × St := match p.1 with
  | .normal => (.normal, ⟨keepT m p.2.F, p.2.H⟩)
  | _ => p
theorem keepS_ok (m : Tr Bool) (p : AX × St) : (keepS m p).1 = p.1 ∧ LeS p.2 (keepS m p).2 := by
  unfold keepS
  split
  · rename_i h
    exact ⟨h.symm, fun ro nt g d σ a w R hf => ⟨σ, .refl σ, R, ⟨fun i av hi => hf.ok i av (keepT_get hi), hf.size, hf.defers⟩⟩⟩
  · exact ⟨rfl, .refl _⟩
/-- Only the slots that are asked any more, then joined. -/
def mrgK (lv : List Nat) (k : Nat) (l : Outs) : Outs := mrgIf k (l.map (keepS (maskOf lv)))
theorem mrgK_ok (lv : List Nat) (k : Nat) (l : Outs) : ∀ p ∈ l, ∃ q ∈ mrgK lv k l, q.1 = p.1 ∧ LeS p.2 q.2 := by
  intro p hp
  obtain ⟨h1, h2⟩ := keepS_ok (maskOf lv) p
  obtain ⟨q, m, e, l⟩ := mrgIf_ok k (l.map (keepS (maskOf lv))) _ (List.mem_map.2 ⟨p, hp, rfl⟩)
  exact ⟨q, m, e.trans h1, h2.trans l⟩
/-- The same, and the blocks that nobody knows any more given up. -/
def mrgL (lv : List Nat) (k : Nat) (l : Outs) : Outs := mrgIf k (l.map fun p => gcS true 0 (keepS (maskOf lv) p))
theorem mrgL_ok (lv : List Nat) (k : Nat) (l : Outs) : ∀ p ∈ l, ∃ q ∈ mrgL lv k l, q.1 = p.1 ∧ LeS p.2 q.2 := by
  intro p hp
  obtain ⟨h1, h2⟩ := keepS_ok (maskOf lv) p
  obtain ⟨h3, h4⟩ := gcS_ok true 0 (keepS (maskOf lv) p)
  obtain ⟨q, m, e, l⟩ := mrgIf_ok k (l.map fun p => gcS true 0 (keepS (maskOf lv) p)) _ (List.mem_map.2 ⟨p, hp, rfl⟩)
  exact ⟨q, m, (e.trans h3).trans h1, (h2.trans h4).trans l⟩
end
end Go.Proofs.YtgkoghgiclkbhaaGreatDoor.Sx
namespace Go.Proofs.YtgkoghgiclkbhaaGreatDoor.Sx
open Go
noncomputable section
set_option linter.unusedVariables false

def trFold2 {α β γ : Type} (f : α → β → γ → γ) : Tr α → Tr β → γ → γ
  | .node l v r, .node l' v' r', m =>
    trFold2 f r r' (trFold2 f l l' (match v, v' with | some x, some y => f x y m | _, _ => m))
  | _, _, m => m
/-- Which number, which block of the round stands for which of J. -/
structure MM where
  fm : Tr MV
  bm : Tr Nat
def mNum (N : Nat) (x y : Num) (m : MM) : MM := match y.s with
  | some i => bif Nat.ble N i && (m.fm.get (i - N)).isNone then { m with fm := m.fm.set (i - N) (some (.num ⟨x.s, x.c - y.c⟩)) } else m
  | none => m
def mBE (N : Nat) (e f : BE) (m : MM) : MM := match f with
  | .s i true => bif Nat.ble N i && (m.fm.get (i - N)).isNone then { m with fm := m.fm.set (i - N) (some (.be e)) } else m
  | _ => m
def mBlk (NB b c : Nat) (m : MM) : MM := bif Nat.ble NB c && (m.bm.get (c - NB)).isNone then { m with bm := m.bm.set (c - NB) (some b) } else m
mutual
def mAV (N NB : Nat) : AV → AV → MM → MM
  | .int _ x, .int _ y, m => mNum N x y m
  | .bool e, .bool f, m => mBE N e f m
  | .ptr b _, .ptr c _, m => mBlk NB b c m
  | .eptr b _ _ i _ _, .eptr c _ _ j _ _, m => mNum N i j (mBlk NB b c m)
  | .sl b _ _ l k, .sl c _ _ l' k', m => mNum N k k' (mNum N l l' (mBlk NB b c m))
  | .agg l, .agg l', m => mAVL N NB l l' m
  | .tup l, .tup l', m => mAVL N NB l l' m
  | .fn _ l, .fn _ l', m => mAVL N NB l l' m
  | .ifc _ a, .ifc _ b, m => mAV N NB a b m
  | .osl _ l, .osl _ l', m => mNum N l l' m
  | _, _, m => m
def mAVL (N NB : Nat) : List AV → List AV → MM → MM
  | a :: l, b :: l', m => mAVL N NB l l' (mAV N NB a b m)
  | _, _, m => m
end
def mNew (N NB : Nat) (J p : St) : Nat → Nat → MM → MM
  | _, 0, m => m
  | c, k + 1, m => mNew N NB J p (c + 1) k (match m.bm.get c with
      | some b => (match p.H.hp.get b, J.H.hp.get (NB + c) with
        | some x, some y => trFold2 (mAV N NB) x.t y.t m
        | _, _ => m)
      | none => m)
def mOld (NB : Nat) (N : Nat) (J p : St) : Nat → Nat → MM → MM
  | _, 0, m => m
  | b, k + 1, m => mOld NB N J p (b + 1) k (match p.H.hp.get b, J.H.hp.get b with
      | some x, some y => trFold2 (mAV N NB) x.t y.t m
      | _, _ => m)
/-- What J's number is in the round, as far as it is bound. -/
def lookM (N : Nat) (m : MM) (y : Num) : Option Num := match y.s with
  | none => some y
  | some i => bif Nat.blt i N then some y else match m.fm.get (i - N) with
    | some (.num z) => some ⟨z.s, z.c + y.c⟩
    | _ => none
def mFx (N : Nat) (H : AH) : List Fx → MM → MM
  | [], m => m
  | .op op k x y r :: l, m => mFx N H l (match lookM N m x, lookM N m y, lookM N m r with
    | some x', some y', none => (match findOp op k x' y' H.fx with
      | some r' => mNum N r' r m
      | none => m)
    | _, _, _ => m)
  | _ :: l, m => mFx N H l m
def rbOf (J p : St) (N NB : Nat) : RB :=
  let m := mNew N NB J p 0 (J.H.nb - NB) (mOld NB N J p 0 NB (trFold2 (mAV N NB) p.F J.F ⟨.leaf, .leaf⟩))
  let m := mFx N p.H J.H.fx.reverse m
  { N, NB, fm := (List.range (J.H.nn - N)).map fun i => match m.fm.get i with
      | some v => v
      | none => .num ⟨none, match J.H.rng.get (N + i) with | some r => r.1 | none => 0⟩,
    bm := (List.range (J.H.nb - NB)).map fun i => match m.bm.get i with
      | some b => b
      | none => 0 }
/-- The join, with room for rounds to come. -/
structure WS where
  n : Nat
  ps : List (Num × Num × Nat)
  es : List (BE × BE × Nat)
  rg : List (Int × Int)
  bs : List (Nat × Nat × Nat)
  nb : Nat
structure WC where
  N : Nat
  NB : Nat
  hi : Int
  H1 : AH
  H2 : AH
def findP (x y : Num) : List (Num × Num × Nat) → Option Nat
  | [] => none
  | p :: l => bif decide (p.1 = x) && decide (p.2.1 = y) then some p.2.2 else findP x y l
def findE (x y : BE) : List (BE × BE × Nat) → Option Nat
  | [] => none
  | p :: l => bif decide (p.1 = x) && decide (p.2.1 = y) then some p.2.2 else findE x y l
def findB (x y : Nat) : List (Nat × Nat × Nat) → Option Nat
  | [] => none
  | p :: l => bif Nat.beq p.1 x && Nat.beq p.2.1 y then some p.2.2 else findB x y l
def wHi (C : WC) (k : IntKind) (h1 h2 : Int) : Int := bif decide (h2 ≤ h1) then h1 else min k.max (bif decide (h2 ≤ C.hi) then C.hi else k.max)
def wLo (C : WC) (k : IntKind) (l1 l2 : Int) : Int := bif decide (l1 ≤ l2) then l1 else bif decide (0 ≤ l2) then 0 else max k.min (bif decide (-1 ≤ l2) then -1 else k.min)
def wNum (C : WC) (k : IntKind) (x y : Num) (s : WS) : Option Num × WS :=
  bif decide (x = y) && oldN C.N x then (some x, s)
  else match findP x y s.ps with
    | some i => (some ⟨some i, 0⟩, s)
    | none => match C.H1.range x, C.H2.range y with
      | some (a, b), some (c, d) => (some ⟨some s.n, 0⟩, { s with n := s.n + 1, ps := (x, y, s.n) :: s.ps, rg := (wLo C k a c, wHi C k b d) :: s.rg })
      | _, _ => (none, s)
def wBE (C : WC) (e f : BE) (s : WS) : BE × WS :=
  bif decide (e = f) && oldE C.N e then (e, s)
  else match findE e f s.es with
    | some i => (.s i true, s)
    | none => (.s s.n true, { s with n := s.n + 1, es := (e, f, s.n) :: s.es, rg := (0, 1) :: s.rg })
def wB (C : WC) (b c : Nat) (s : WS) : Nat × WS :=
  bif Nat.beq b c && Nat.blt b C.NB then (b, s)
  else match findB b c s.bs with
    | some i => (i, s)
    | none => (s.nb, { s with nb := s.nb + 1, bs := (b, c, s.nb) :: s.bs })
mutual
def wAV (C : WC) : AV → AV → WS → AV × WS
  | .int k x, .int k' y, s => bif decide (k = k') then (match wNum C k x y s with | (some z, s') => (.int k z, s') | (none, s') => (.top, s')) else (.top, s)
  | .bool e, .bool f, s => match wBE C e f s with | (z, s') => (.bool z, s')
  | .str l, .str l', s => bif decide (l = l') then (.str l, s) else (.any .str, s)
  | .lit v, .lit v', s => bif litEq v v' then (.lit v, s) else (.top, s)
  | .ptr b o, .ptr b' o', s => bif decide (o = o') then (match wB C b b' s with | (c, s') => (.ptr c o, s')) else (.top, s)
  | .sl b o e l c, .sl b' o' e' l' c', s => bif decide (o = o') && decide (e = e') then
      (match wB C b b' s with
        | (bn, s0) => match wNum C .i64 l l' s0 with
          | (some z, s1) => (match wNum C .i64 c c' s1 with | (some y, s2) => (.sl bn o e z y, s2) | (none, s2) => (.top, s2))
          | (none, s1) => (.top, s1)) else (.top, s)
  | .agg l, .agg l', s => match wAVL C l l' s with | (some z, s') => (.agg z, s') | (none, s') => (.top, s')
  | .tup l, .tup l', s => match wAVL C l l' s with | (some z, s') => (.tup z, s') | (none, s') => (.top, s')
  | .fn f l, .fn f' l', s => bif decide (f = f') then (match wAVL C l l' s with | (some z, s') => (.fn f z, s') | (none, s') => (.top, s')) else (.top, s)
  | .ifc t a, .ifc t' a', s => bif decide (t = t') then (match wAV C a a' s with | (z, s') => (.ifc t z, s')) else (.top, s)
  | .osl cs l, .osl cs' l', s => bif Sh.beqL cs cs' then (match wNum C .i64 l l' s with | (some z, s') => (.osl cs z, s') | (none, s') => (.top, s')) else (.top, s)
  | .oaddr cs, .oaddr cs', s => bif Sh.beqL cs cs' then (.oaddr cs, s) else (.top, s)
  | .int k x, .any (.int k' lo hi), s => bif fitN C.H1 k x k' lo hi then (.any (.int k' lo hi), s) else (.top, s)
  | .any (.int k' lo hi), .int k x, s => bif fitN C.H2 k x k' lo hi then (.any (.int k' lo hi), s) else (.top, s)
  | .bool _, .any .bool, s => (.any .bool, s)
  | .any .bool, .bool _, s => (.any .bool, s)
  | .lit v, .any a, s => bif zeroOk v a then (.any a, s) else (.top, s)
  | .osl cs l, .any (.slice cs' lo hi), s => bif fitSl C.H1 cs l cs' lo hi then (.any (.slice cs' lo hi), s) else (.top, s)
  | .any (.slice cs' lo hi), .osl cs l, s => bif fitSl C.H2 cs l cs' lo hi then (.any (.slice cs' lo hi), s) else (.top, s)
  | .any a, .lit v, s => bif zeroOk v a then (.any a, s) else (.top, s)
  | .any a, .any b, s => bif shLe a b then (.any b, s) else bif shLe b a then (.any a, s) else (.top, s)
  | _, _, s => (.top, s)
def wAVL (C : WC) : List AV → List AV → WS → Option (List AV) × WS
  | [], [], s => (some [], s)
  | a :: l, b :: l', s => match wAV C a b s with
    | (z, s') => match wAVL C l l' s' with
      | (some r, s'') => (some (z :: r), s'')
      | (none, s'') => (none, s'')
  | _, _, s => (none, s)
end
def wTr (kp : Bool) (C : WC) : Tr AV → Tr AV → WS → Tr AV × WS
  | .node l v r, .node l' v' r', s =>
    match (match v, v' with
      | some x, some y => (match wAV C x y s with | (.top, j') => (bif kp then some .top else none, j') | (z, j') => (some z, j'))
      | _, _ => (none, s)) with
    | (z, j1) => match wTr kp C l l' j1 with
      | (tl, j2) => match wTr kp C r r' j2 with
        | (tr, j3) => (.node tl z tr, j3)
  | _, _, s => (.leaf, s)
def wAB (C : WC) (x y : AB) (s : WS) : Option AB × WS :=
  bif decide (x.e = y.e) && Sh.beqL x.d y.d then match wTr (!x.d.isEmpty) C x.t y.t s with
    | (t, s') => (some { t := t, d := x.d, n := min x.n y.n, e := x.e }, s')
  else (none, s)
def wOld (C : WC) : Nat → Nat → Tr AB → WS → Tr AB × WS
  | _, 0, t, s => (t, s)
  | b, k + 1, t, s => match (match C.H1.hp.get b, C.H2.hp.get b with
      | some x, some y => wAB C x y s
      | _, _ => (none, s)) with
    | (some z, s') => wOld C (b + 1) k (t.set b (some z)) s'
    | (none, s') => wOld C (b + 1) k t s'
def wNew (C : WC) : Nat → Nat → Tr AB → WS → Tr AB × WS
  | 0, _, t, s => (t, s)
  | f + 1, c, t, s => match s.bs.find? (fun p => Nat.beq p.2.2 c) with
    | none => (t, s)
    | some p => match (match C.H1.hp.get p.1, C.H2.hp.get p.2.1 with
        | some x, some y => wAB C x y s
        | _, _ => (none, s)) with
      | (some z, s') => wNew C f (c + 1) (t.set c (some z)) s'
      | (none, s') => wNew C f (c + 1) t s'
def dropNew (NB : Nat) (t : Tr AB) : List (Nat × Nat × Nat) → Tr AB
  | [] => t
  | p :: l => dropNew NB (match bif Nat.blt p.2.1 NB then t.set p.2.1 none else t with | t => bif Nat.blt p.1 NB then t.set p.1 none else t) l
def oldRg (H1 H2 : AH) : Nat → Nat → Tr (Int × Int) → Tr (Int × Int)
  | _, 0, t => t
  | i, k + 1, t => oldRg H1 H2 (i + 1) k (match H1.rng.get i, H2.rng.get i with
      | some a, some b => t.set i (some (min a.1 b.1, max a.2 b.2))
      | _, _ => t)
def widen (hi : Int) (N NB : Nat) (J p : St) : St :=
  let C : WC := ⟨N, NB, hi, J.H, p.H⟩
  match wTr false C J.F p.F ⟨N, [], [], [], [], NB⟩ with
  | (F, s1) => match wOld C 0 NB .leaf s1 with
    | (hp, s2) => match wNew C 32 NB hp s2 with
      | (hp, s3) => ⟨F, { rng := setL (oldRg J.H p.H 0 N .leaf) N s3.rg.reverse, nn := s3.n, lts := J.H.lts.filter (fun q => oldN N q.1 && oldN N q.2 && (match p.H.mkLt q.1 q.2 with | .c b => b | _ => false)), hp := dropNew NB hp s3.bs, nb := s3.nb, fx := [], fm := J.H.fm, n0 := J.H.n0 }⟩
def propW (hi : FuncId → Int) (f : FuncId) (N NB : Nat) (J : St) (ps : List St) : Option St := some (ps.foldl (widen (hi f) N NB) J)
end
end Go.Proofs.YtgkoghgiclkbhaaGreatDoor.Sx
namespace Go.Proofs.YtgkoghgiclkbhaaGreatDoor.Sx
open Go
noncomputable section
set_option linter.unusedVariables false
def u8 : Sh := .int .u8 0 255
def u16 : Sh := .int .u16 0 65535
def i64 : Sh := .int .i64 (-9223372036854775808) 9223372036854775807
def bo : Sh := .bool
def u8s : Sh := .slice [u8] 0 9223372036854775807
def obj : List Sh := [u8, u8, u8, u8, u8]
def videoL : List Sh := [u8, u8, u8, u8, u8, u8, u8, u8, u8s, u8s]
def video : Sh := .agg videoL
def drawn : List Sh := [u8, u8, u8, u8, u8, u8, u8]
def trMap {α β : Type} (f : α → β) : Tr α → Tr β
  | .leaf => .leaf
  | .node l v r => .node (trMap f l) (match v with | some a => some (f a) | none => none) (trMap f r)
/-- The numbers of a contract, in the walk's own: the first K are given, those behind are laid anew. -/
structure RN where
  K : Nat
  nn : Nat
  fm : List MV
  bm : List Nat
def rnNum (r : RN) (x : Num) : Option Num :=
  match x.s with
  | none => some x
  | some i => bif Nat.blt i r.K then (match r.fm[i]? with | some (.num z) => some ⟨z.s, z.c + x.c⟩ | _ => none) else some ⟨some (r.nn + (i - r.K)), x.c⟩
def rnBE (r : RN) : BE → Option BE
  | .c b => some (.c b)
  | .s i p => bif Nat.blt i r.K then (match r.fm[i]? with
      | some (.be e) => some (bif p then e else e.not)
      | _ => none) else some (.s (r.nn + (i - r.K)) p)
  | _ => none
mutual
def rnAV (r : RN) : AV → AV
  | .int k x => (match rnNum r x with | some y => .int k y | none => .top)
  | .bool e => (match rnBE r e with | some f => .bool f | none => .top)
  | .lit v => .lit v
  | .str l => .str l
  | .any s => .any s
  | .ptr b o => (match r.bm[b]? with | some c => .ptr c o | none => .top)
  | .sl b o e l c => (match r.bm[b]?, rnNum r l, rnNum r c with | some b', some l', some c' => .sl b' o e l' c' | _, _, _ => .top)
  | .agg l => .agg (rnAVL r l)
  | .tup l => .tup (rnAVL r l)
  | _ => .top
def rnAVL (r : RN) : List AV → List AV
  | [] => []
  | a :: l => rnAV r a :: rnAVL r l
end
def rnAB (r : RN) (x : AB) : AB := { x with t := trMap (rnAV r) x.t }
/-- A contract: from where, with what, where to, what is answered; which blocks are written. -/
structure MC where
  f : FuncId
  H0 : AH
  args : List AV
  H1 : AH
  res : AV
  wr : List Nat
def MC.ro (M : MC) (b : Nat) : Bool := Nat.ble M.H0.nb b || M.wr.contains b
/-- The blocks that are written, laid anew. -/
def putMs (r : RN) (H1 : AH) : List Nat → Tr AB → Tr AB
  | [], t => t
  | b :: l, t => match r.bm[b]?, H1.hp.get b with
    | some c, some x => putMs r H1 l (t.set c (some (rnAB r x)))
    | some c, none => putMs r H1 l (t.set c none)
    | _, _ => putMs r H1 l t
def rngMs (r : RN) (H1 : AH) : Nat → Nat → Tr (Int × Int) → Tr (Int × Int)
  | _, 0, t => t
  | i, n + 1, t => rngMs r H1 (i + 1) n (match H1.rng.get i with | some q => t.set (r.nn + (i - r.K)) (some q) | none => t)
def keepM (H : AH) (cs : List Nat) : Fx → Bool
  | .cell b _ _ _ => !(cs.contains b) && (H.hp.get b).isSome
  | .rd _ _ _ => (cs.all fun b => !(Nat.ble 1 b && Nat.ble b 6)) && (H.hp.get 1).isSome && (H.hp.get 2).isSome && (H.hp.get 3).isSome && (H.hp.get 4).isSome && (H.hp.get 5).isSome && (H.hp.get 6).isSome
  | .iter _ _ _ => false
  | _ => true
def beDen (H : AH) : BE → Bool
  | .c _ => true
  | .s i _ => (H.rng.get i).isSome
  | .lt a b _ => (H.range a).isSome && (H.range b).isSome
  | .eq a b _ => (H.range a).isSome && (H.range b).isSome
def mvDen (H : AH) : MV → Bool
  | .num x => (H.range x).isSome
  | .be e => beDen H e
def wrOf (r : RN) (wr : List Nat) : List Nat := wr.filterMap fun b => r.bm[b]?
def hookM (M : MC) : Call1 := fun ro H f args =>
  bif Nat.beq f M.f && Nat.beq args.length M.args.length && Nat.ble args.length 100 then
    let S : St := ⟨argsF 0 args, H⟩
    let J : St := ⟨argsF 0 M.args, M.H0⟩
    let B := rbOf J S 0 0
    bif Nat.beq B.N 0 && Nat.beq B.NB 0 && reSt (fun _ => true) B S J && B.fm.all (mvDen H) && (wrOf ⟨M.H0.nn, H.nn, B.fm, B.bm⟩ M.wr).all (fun c => ro c && (H.hp.get c).isSome) then
      let r : RN := ⟨M.H0.nn, H.nn, B.fm, B.bm⟩
      let H' : AH := { rng := rngMs r M.H1 M.H0.nn (M.H1.nn - M.H0.nn) H.rng, nn := H.nn + (M.H1.nn - M.H0.nn), lts := H.lts, hp := putMs r M.H1 M.wr H.hp, nb := H.nb, fx := H.fx.filter (keepM H (wrOf r M.wr)), fm := H.fm, n0 := H.n0 }
      some [(.ret (rnAV r M.res), H')]
    else none
  else none
/-- Does the walk end where the contract says? -/
def mcChk (X : Env1) (M : MC) : Bool :=
  match callX X 400 M.ro M.H0 M.f M.args with
  | some outs => outs.all fun p => match p.1 with
    | .ret v => let S : St := ⟨(Tr.leaf : Tr AV).set 0 (some v), p.2⟩
      let J : St := ⟨(Tr.leaf : Tr AV).set 0 (some M.res), M.H1⟩
      let B := rbOf J S M.H0.nn M.H0.nb
      Nat.beq B.N M.H0.nn && Nat.beq B.NB M.H0.nb && reSt M.ro B S J
    | .pan _ => false
  | none => false
end
end Go.Proofs.YtgkoghgiclkbhaaGreatDoor.Sx
namespace Go.Proofs.YtgkoghgiclkbhaaGreatDoor.Sx
open Go
noncomputable section
set_option linter.unusedVariables false
set_option linter.unusedSimpArgs false

theorem trMap_get {α β : Type} (f : α → β) : ∀ (t : Tr α) (k : Nat), (trMap f t).get k = (t.get k).map f
  | .leaf, k => by simp [trMap, Tr.get_leaf]
  | .node l v r, k => by
    simp only [trMap, Tr.get_node]
    split
    · cases v <;> rfl
    · split
      · exact trMap_get f l _
      · exact trMap_get f r _
theorem argsF_get : ∀ (l : List AV) (k : Nat), k + l.length + 2 ≤ 1099511627776 → ∀ (i : Nat) (a : AV), l[i]? = some a → (argsF k l).get (k + i) = some a
  | [], k, _, i, a, h => by simp at h
  | b :: l, k, hk, i, a, h => by
    simp only [List.length_cons] at hk
    simp only [argsF]
    rw [Tr.get_set _ _ _ _ (by omega)]
    cases i with
    | zero => simp at h; simp [h]
    | succ i =>
      have : ¬ k + (i + 1) = k := by omega
      simp only [this, if_false]
      have := argsF_get l (k + 1) (by omega) i a (by simpa using h)
      rw [show k + (i + 1) = k + 1 + i by omega]; exact this
def addrs (σ : Env) : List Nat := σ.b.filterMap fun q => q.map (·.1)
theorem Rel.self {ro : Nat → Bool} {g : Gh} {σ : Env} {H : AH} {w : World} (R : Rel ro g σ H w) : Rel (fun _ => true) ⟨w, addrs σ, σ.imm⟩ σ H w :=
  ⟨R.nlen, R.rng, R.lts, R.blen, R.blk, R.inj, R.imm, R.immd, fun _ _ _ => rfl, SzOk.refl _, fun b n sz _ h => .inr (by
    unfold addrs
    rw [List.mem_filterMap]
    exact ⟨some (n, sz), List.mem_of_getElem? h, rfl⟩), R.bnd, fun _ _ h _ _ => h, R.fx⟩
theorem rngMs_get {r : RN} {H1 : AH} : ∀ (n i : Nat) (t : Tr (Int × Int)) (m : Nat) (q : Int × Int), (rngMs r H1 i n t).get m = some q →
    t.get m = some q ∨ ∃ j, i ≤ j ∧ m = r.nn + (j - r.K) ∧ H1.rng.get j = some q
  | 0, i, t, m, q, h => .inl h
  | n + 1, i, t, m, q, h => by
    simp only [rngMs] at h
    rcases rngMs_get n (i + 1) _ m q h with h | ⟨j, h1, h2, h3⟩
    · split at h
      · rename_i p hp
        rcases Tr.get_set_some h with ⟨rfl, he⟩ | ⟨_, h⟩
        · cases he; exact .inr ⟨i, Nat.le_refl _, rfl, hp⟩
        · exact .inl h
      · exact .inl h
    · exact .inr ⟨j, by omega, h2, h3⟩
theorem putMs_get {r : RN} {H1 : AH} : ∀ (wr : List Nat) (t : Tr AB) (b' : Nat) (ab : AB), (putMs r H1 wr t).get b' = some ab →
    (b' ∉ wrOf r wr ∧ t.get b' = some ab) ∨ ∃ b ∈ wr, r.bm[b]? = some b' ∧ ∃ x, H1.hp.get b = some x ∧ ab = rnAB r x
  | [], t, b', ab, h => .inl ⟨by simp [wrOf], h⟩
  | b :: l, t, b', ab, h => by
    have step : ∀ t', (putMs r H1 l t').get b' = some ab → (∀ c, r.bm[b]? = some c → t'.get b' = some ab → (b' = c ∧ ∃ x, H1.hp.get b = some x ∧ ab = rnAB r x) ∨ (b' ≠ c ∧ t.get b' = some ab)) → (r.bm[b]? = none → t' = t) →
        (b' ∉ wrOf r (b :: l) ∧ t.get b' = some ab) ∨ ∃ b0 ∈ b :: l, r.bm[b0]? = some b' ∧ ∃ x, H1.hp.get b0 = some x ∧ ab = rnAB r x := by
      intro t' h hs hn
      rcases putMs_get l t' b' ab h with ⟨h1, h2⟩ | ⟨b0, m0, h1, h2⟩
      · cases hc : r.bm[b]? with
        | none =>
          rw [hn hc] at h2
          refine .inl ⟨?_, h2⟩
          unfold wrOf at *
          simp only [List.filterMap_cons, hc]; exact h1
        | some c =>
          rcases hs c hc h2 with ⟨rfl, hx⟩ | ⟨hne, h3⟩
          · exact .inr ⟨b, List.mem_cons_self .., hc, hx⟩
          · refine .inl ⟨?_, h3⟩
            unfold wrOf at *
            simp only [List.filterMap_cons, hc, List.mem_cons, not_or]; exact ⟨hne, h1⟩
      · exact .inr ⟨b0, List.mem_cons_of_mem _ m0, h1, h2⟩
    simp only [putMs] at h
    split at h
    · rename_i c x hc hx
      refine step _ h (fun c' hc' h2 => ?_) (fun hn => by rw [hn] at hc; cases hc)
      rw [hc] at hc'; cases hc'
      rcases Tr.get_set_some h2 with ⟨h0, he⟩ | ⟨h0, h2⟩
      · cases he; exact .inl ⟨h0, x, hx, rfl⟩
      · exact .inr ⟨h0, h2⟩
    · rename_i c hc hx
      refine step _ h (fun c' hc' h2 => ?_) (fun hn => by rw [hn] at hc; cases hc)
      rw [hc] at hc'; cases hc'
      rcases Tr.get_set_some h2 with ⟨h0, he⟩ | ⟨h0, h2⟩
      · cases he
      · exact .inr ⟨h0, h2⟩
    · rename_i hno1 hno2
      refine step t h (fun c hc h2 => ?_) (fun _ => rfl)
      cases hx : H1.hp.get b with
      | some x => exact absurd hx (hno1 c x hc)
      | none => exact absurd hx (hno2 c hc)
/-- The numbers and blocks of the one are those of the other, by what r says. -/
structure RN.Ok (r : RN) (τ σ' : Env) : Prop where
  old : ∀ (i : Nat) (mv : MV), i < r.K → r.fm[i]? = some mv → ∃ n, mv.den σ' = some n ∧ τ.n[i]? = some n
  new : ∀ (i : Nat), r.K ≤ i → ∀ (n : Int), τ.n[i]? = some n → σ'.n[r.nn + (i - r.K)]? = some n
  blk : ∀ (b c : Nat) (q : Option (Nat × Nat)), r.bm[b]? = some c → τ.b[b]? = some q → σ'.b[c]? = some q
  imm : σ'.imm = τ.imm
theorem rnNum_ok {r : RN} {τ σ' : Env} (h : r.Ok τ σ') {x y : Num} {n : Int} (he : rnNum r x = some y) (hx : x.den τ = some n) : y.den σ' = some n := by
  unfold rnNum at he
  split at he
  · rename_i hs; cases he; simpa only [Num.den, hs] using hx
  · rename_i i hi
    rw [cond_eq_ite] at he
    simp only [Num.den, hi, Option.map_eq_some_iff] at hx
    obtain ⟨q, hq, rfl⟩ := hx
    split at he
    · rename_i hlt
      rw [Nat.blt_eq] at hlt
      split at he
      · rename_i z hz
        cases he
        obtain ⟨m, h1, h2⟩ := h.old i _ hlt hz
        rw [hq] at h2; cases h2
        simp only [MV.den, Num.den] at h1 ⊢
        split at h1
        · cases h1; rfl
        · simp only [Option.map_eq_some_iff] at h1 ⊢
          obtain ⟨p, hp, rfl⟩ := h1
          exact ⟨p, hp, by omega⟩
      · cases he
    · rename_i hlt
      rw [Nat.blt_eq] at hlt
      cases he
      have := h.new i (by omega) q hq
      simp [Num.den, this]
theorem rnBE_ok {r : RN} {τ σ' : Env} (h : r.Ok τ σ') {e f : BE} {b : Bool} (he : rnBE r e = some f) (hx : e.den τ = some b) : f.den σ' = some b := by
  unfold rnBE at he
  split at he
  · cases he; exact hx
  · rename_i i p
    simp only [BE.den, Option.map_eq_some_iff] at hx
    obtain ⟨q, hq, rfl⟩ := hx
    rw [cond_eq_ite] at he
    split at he
    · rename_i hlt
      rw [Nat.blt_eq] at hlt
      split at he
      · rename_i e' hz
        cases he
        obtain ⟨m, h1, h2⟩ := h.old i _ hlt hz
        rw [hq] at h2; cases h2
        simp only [MV.den, Option.map_eq_some_iff] at h1
        obtain ⟨c, hc, rfl⟩ := h1
        cases p
        · simp only [cond_false]; rw [BE.den_not hc]; cases c <;> simp
        · simp only [cond_true]; rw [hc]; cases c <;> simp
      · cases he
    · rename_i hlt
      rw [Nat.blt_eq] at hlt
      cases he
      have := h.new i (by omega) q hq
      simp [BE.den, this]
  · cases he
mutual
theorem rnAV_ok {r : RN} {τ σ' : Env} (h : r.Ok τ σ') : ∀ (a : AV) (v : Value), Sat τ a v → Sat σ' (rnAV r a) v
  | .int k x, v, hs => by
    simp only [rnAV]
    split
    · rename_i y hy
      simp only [Sat] at hs ⊢
      obtain ⟨n, h1, rfl⟩ := hs
      exact ⟨n, rnNum_ok h hy h1, rfl⟩
    · simp [Sat]
  | .bool e, v, hs => by
    simp only [rnAV]
    split
    · rename_i y hy
      simp only [Sat] at hs ⊢
      obtain ⟨n, h1, rfl⟩ := hs
      exact ⟨n, rnBE_ok h hy h1, rfl⟩
    · simp [Sat]
  | .lit u, v, hs => by simpa only [rnAV, Sat] using hs
  | .str l, v, hs => by simpa only [rnAV, Sat] using hs
  | .any s, v, hs => by simp only [rnAV, Sat] at hs ⊢; rw [h.imm]; exact hs
  | .ptr b o, v, hs => by
    simp only [rnAV]
    split
    · rename_i c hc
      simp only [Sat] at hs ⊢
      obtain ⟨n, sz, h1, h2⟩ := hs
      exact ⟨n, sz, h.blk b c _ hc h1, h2⟩
    · simp [Sat]
  | .sl b o e l c, v, hs => by
    simp only [rnAV]
    split
    · rename_i b' l' c' hb hl hc
      simp only [Sat] at hs ⊢
      obtain ⟨n, sz, ln, cp, h1, h2, h3, h4⟩ := hs
      exact ⟨n, sz, ln, cp, h.blk b b' _ hb h1, rnNum_ok h hl h2, rnNum_ok h hc h3, h4⟩
    · simp [Sat]
  | .agg l, v, hs => by
    simp only [rnAV, Sat] at hs ⊢
    obtain ⟨vs, e, hl⟩ := hs
    exact ⟨vs, e, rnAVL_ok h l vs hl⟩
  | .tup l, v, hs => by
    simp only [rnAV, Sat] at hs ⊢
    obtain ⟨vs, e, hl⟩ := hs
    exact ⟨vs, e, rnAVL_ok h l vs hl⟩
  | .top, v, hs => by simp [rnAV, Sat]
  | .eptr .., v, hs => by simp [rnAV, Sat]
  | .fn .., v, hs => by simp [rnAV, Sat]
  | .ifc .., v, hs => by simp [rnAV, Sat]
  | .osl .., v, hs => by simp [rnAV, Sat]
  | .oaddr .., v, hs => by simp [rnAV, Sat]
theorem rnAVL_ok {r : RN} {τ σ' : Env} (h : r.Ok τ σ') : ∀ (l : List AV) (vs : List Value), SatL τ l vs → SatL σ' (rnAVL r l) vs
  | [], vs, hs => by simpa only [rnAVL, SatL] using hs
  | a :: l, vs, hs => by
    simp only [rnAVL, SatL] at hs ⊢
    obtain ⟨v, vs', rfl, h1, h2⟩ := hs
    exact ⟨v, vs', rfl, rnAV_ok h a v h1, rnAVL_ok h l vs' h2⟩
end
theorem rnAB_ok {r : RN} {τ σ' : Env} (h : r.Ok τ σ') {w : World} {x : AB} {n sz : Nat} (hb : BlkOk τ w x n sz) : BlkOk σ' w (rnAB r x) n sz := by
  obtain ⟨c, h1, h2, h3, h4⟩ := hb
  refine ⟨c, h1, h2, h3, fun j v hv => ?_⟩
  have := h4 j v hv
  unfold CellOk at *
  have e : (rnAB r x).t.get j = (x.t.get j).map (rnAV r) := trMap_get _ _ _
  rw [e]
  cases hx : x.t.get j with
  | none => rw [hx] at this; simp only [Option.map_none]; rw [h.imm]; exact this
  | some a => rw [hx] at this; simp only [Option.map_some]; exact rnAV_ok h a v this
theorem beDen_ok {ro : Nat → Bool} {g : Gh} {σ : Env} {H : AH} {w : World} (R : Rel ro g σ H w) {e : BE} (h : beDen H e = true) : ∃ b, e.den σ = some b := by
  have num : ∀ x : Num, (H.range x).isSome = true → ∃ n, x.den σ = some n := fun x hx => by
    obtain ⟨q, hq⟩ := Option.isSome_iff_exists.1 hx
    exact R.range_den hq
  cases e with
  | c b => exact ⟨b, rfl⟩
  | s i p =>
    simp only [beDen] at h
    obtain ⟨q, hq⟩ := Option.isSome_iff_exists.1 h
    obtain ⟨n, hn, _⟩ := R.rng i q hq
    exact ⟨(n != 0) == p, by simp only [BE.den, hn, Option.map_some]⟩
  | lt a b p =>
    simp only [beDen, Bool.and_eq_true] at h
    obtain ⟨n, hn⟩ := num a h.1
    obtain ⟨m, hm⟩ := num b h.2
    exact ⟨decide (n < m) == p, by simp only [BE.den, hn, hm, Option.bind_some, Option.map_some]⟩
  | eq a b p =>
    simp only [beDen, Bool.and_eq_true] at h
    obtain ⟨n, hn⟩ := num a h.1
    obtain ⟨m, hm⟩ := num b h.2
    exact ⟨decide (n = m) == p, by simp only [BE.den, hn, hm, Option.bind_some, Option.map_some]⟩
theorem mvDen_ok {ro : Nat → Bool} {g : Gh} {σ : Env} {H : AH} {w : World} (R : Rel ro g σ H w) {mv : MV} (h : mvDen H mv = true) : ∃ n, mv.den σ = some n := by
  cases mv with
  | num x =>
    obtain ⟨q, hq⟩ := Option.isSome_iff_exists.1 h
    exact R.range_den hq
  | be e =>
    obtain ⟨b, hb⟩ := beDen_ok R h
    exact ⟨if b then 1 else 0, by simp only [MV.den, hb, Option.map_some]⟩

/-- What a contract says. -/
def MC.Ok (P : Program) (M : MC) : Prop :=
  ∀ (g : Gh) (τ : Env) (w : World) (vs : List Value), Rel M.ro g τ M.H0 w → SatL τ M.args vs →
    (∀ w1 : World, (callFunc M.f ⟨vs⟩).run P w1 = .ok (.enter M.f ⟨vs⟩) w1) ∧
    Calls P M.f ⟨vs⟩ w fun e w' => ∃ τ2 V, τ.le τ2 ∧ Rel M.ro g τ2 M.H1 w' ∧ Sat τ2 M.res V ∧ e = .returned V
theorem mc_ok {X : Env1} (hX : X.Ok) {M : MC} (h : mcChk X M = true) : M.Ok X.P := by
  intro g τ w vs R hs
  unfold mcChk at h
  split at h
  · rename_i outs ho
    rw [List.all_eq_true] at h
    obtain ⟨s, hc, hcall⟩ := (exec_sound hX 400).2 M.ro g τ M.H0 w M.f M.args vs outs (fun e w' => ∃ τ2 V, τ.le τ2 ∧ Rel M.ro g τ2 M.H1 w' ∧ Sat τ2 M.res V ∧ e = .returned V) ho R hs (by
      intro p hp σ1 w' e l1 R1 h1
      have hk := h p hp
      split at hk
      · rename_i v hv
        rw [hv] at h1
        obtain ⟨V, sV, rfl⟩ := h1
        simp only [Bool.and_eq_true, Nat.beq_eq] at hk
        obtain ⟨⟨k1, k2⟩, k3⟩ := hk
        have hf : Fr 1 [] σ1 ((Tr.leaf : Tr AV).set 0 (some v)) { tmps := #[V], defers := [] } := ⟨fun i av hi => by
          rcases Tr.get_set_some hi with ⟨rfl, h⟩ | ⟨_, h⟩
          · cases h; exact ⟨V, rfl, sV⟩
          · simp [Tr.get] at h, rfl, rfl⟩
        obtain ⟨τ2, _, R2, f2, hle⟩ := reSt_sound k3 R1 hf
        obtain ⟨V', e1, e2⟩ := f2.ok 0 M.res (by rw [Tr.get_set _ _ _ _ (by omega)]; simp)
        simp at e1; subst e1
        exact ⟨τ2, V, hle τ l1 (by rw [R.nlen, k1]; exact Nat.le_refl _) (by rw [R.blen, k2]; exact Nat.le_refl _), R2, e2, rfl⟩
      · cases hk)
    exact ⟨hc, hcall⟩
  · cases h
theorem hookM_ok {P : Program} {M : MC} (hM : M.Ok P) : CallOk P (hookM M) := by
  intro ro g σ H w f args vs outs Q h R hs hQ
  unfold hookM at h
  dsimp only at h
  rw [cond_eq_ite] at h
  split at h
  · rename_i hc0
    simp only [Bool.and_eq_true, Nat.beq_eq, Nat.ble_eq] at hc0
    obtain ⟨⟨rfl, hlen⟩, hsm⟩ := hc0
    generalize hB : rbOf ⟨argsF 0 M.args, M.H0⟩ ⟨argsF 0 args, H⟩ 0 0 = B at h
    rw [cond_eq_ite] at h
    split at h
    · rename_i hc1
      simp only [Bool.and_eq_true, Nat.beq_eq, List.all_eq_true, Option.isSome_iff_exists] at hc1
      obtain ⟨⟨⟨⟨hN, hNB⟩, hre⟩, hmv⟩, hwr⟩ := hc1
      cases h
      generalize hr : (⟨M.H0.nn, H.nn, B.fm, B.bm⟩ : RN) = r at *
      have rK : r.K = M.H0.nn := by rw [← hr]
      have rnn : r.nn = H.nn := by rw [← hr]
      have rfm : r.fm = B.fm := by rw [← hr]
      have rbm : r.bm = B.bm := by rw [← hr]
      have hvl := hs.length
      -- into the contract's start
      have hf : Fr vs.length [] σ (argsF 0 args) { tmps := ⟨vs⟩, defers := [] } := ⟨fun i av hi => by
        obtain ⟨v, _, e2, e3⟩ := argsF_ok args vs 0 hs i av hi
        rw [Nat.sub_zero] at e2
        exact ⟨v, by simpa using e2, e3⟩, rfl, rfl⟩
      obtain ⟨τ, hm, R1, f1, _⟩ := reSt_sound hre R.self hf
      have hre' := hre
      unfold reSt at hre'
      simp only [Bool.and_eq_true, Nat.beq_eq, List.all_eq_true, Nat.blt_eq] at hre'
      obtain ⟨⟨⟨⟨⟨⟨⟨⟨⟨⟨q1, q2⟩, _⟩, _⟩, _⟩, _⟩, _⟩, _⟩, _⟩, _⟩, q11⟩ := hre'
      have hbl : ∀ (b c : Nat), r.bm[b]? = some c → ∃ q, σ.b[c]? = some q ∧ τ.b[b]? = some q := by
        intro b c hbc
        rw [rbm] at hbc
        have hlt := (q11 c (List.mem_of_getElem? hbc)).1.2
        have : c < σ.b.length := by rw [R.blen]; exact hlt
        obtain ⟨q, hq⟩ : ∃ q, σ.b[c]? = some q := ⟨_, List.getElem?_eq_getElem this⟩
        have := hm.bm b c q hbc hq
        rw [hNB, Nat.zero_add] at this
        exact ⟨q, hq, this⟩
      have hbn : ∀ (b : Nat) q, τ.b[b]? = some q → ∃ c, r.bm[b]? = some c ∧ σ.b[c]? = some q := by
        intro b q hb
        have hlt := (List.getElem?_eq_some_iff.1 hb).1
        rw [R1.blen] at hlt
        have hlt : b < M.H0.nb := hlt
        have hlt : b < B.bm.length := by
          have q2' : M.H0.nb = B.NB + B.bm.length := q2
          omega
        refine ⟨B.bm[b], by rw [rbm]; exact List.getElem?_eq_getElem hlt, ?_⟩
        obtain ⟨q', h1, h2⟩ := hbl b B.bm[b] (by rw [rbm]; exact List.getElem?_eq_getElem hlt)
        rw [hb] at h2; cases h2; exact h1
      let pre : List Nat := (wrOf r M.wr).filterMap fun c => ((σ.b[c]?).bind id).map (·.1)
      have mem_pre : ∀ n, n ∈ pre → ∃ c sz, c ∈ wrOf r M.wr ∧ σ.b[c]? = some (some (n, sz)) := by
        intro n hn
        rw [List.mem_filterMap] at hn
        obtain ⟨c, hc, he⟩ := hn
        cases hq : σ.b[c]? with
        | none => rw [hq] at he; cases he
        | some q =>
          rw [hq] at he
          cases q with
          | none => cases he
          | some p => obtain ⟨n', sz⟩ := p; simp at he; subst he; exact ⟨c, sz, hc, hq⟩
      have pre_mem : ∀ c n sz, c ∈ wrOf r M.wr → σ.b[c]? = some (some (n, sz)) → n ∈ pre := by
        intro c n sz hc hq
        rw [List.mem_filterMap]
        exact ⟨c, hc, by rw [hq]; rfl⟩
      have wr_mem : ∀ b c, b ∈ M.wr → r.bm[b]? = some c → c ∈ wrOf r M.wr := by
        intro b c hb hc
        unfold wrOf
        rw [List.mem_filterMap]
        exact ⟨b, hb, hc⟩
      have Rin : Rel M.ro ⟨w, pre, σ.imm⟩ τ M.H0 w := by
        refine ⟨R1.nlen, R1.rng, R1.lts, R1.blen, R1.blk, R1.inj, R1.imm, R1.immd, fun _ _ _ => rfl, SzOk.refl _, fun b n sz hb hq => .inr ?_, R1.bnd, fun m o h _ _ => by rw [hm.imm] at h; exact h, R1.fx⟩
        unfold MC.ro at hb
        rw [Bool.or_eq_true, Nat.ble_eq] at hb
        obtain ⟨c, hc, hcq⟩ := hbn b _ hq
        rcases hb with hb | hb
        · have hlt := (List.getElem?_eq_some_iff.1 hq).1
          rw [R1.blen] at hlt
          have : M.H0.nb ≤ b := hb
          have h2 : b < M.H0.nb := hlt
          omega
        · exact pre_mem c n sz (wr_mem b c (by simpa using hb) hc) hcq
      have hargs : SatL τ M.args vs := by
        refine SatL.of_get (by rw [hvl, hlen]) (fun i a v hi hv => ?_)
        have hlt := (List.getElem?_eq_some_iff.1 hi).1
        obtain ⟨v', e1, e2⟩ := f1.ok i a (by
          have := argsF_get M.args 0 (by omega) i a hi
          rwa [Nat.zero_add] at this)
        have : v' = v := by
          have e1 : vs[i]? = some v' := by simpa using e1
          rw [hv] at e1; cases e1; rfl
        subst this
        exact e2
      obtain ⟨hcf, hcall⟩ := hM ⟨w, pre, σ.imm⟩ τ w vs Rin hargs
      refine ⟨true, hcf, hcall.mono ?_⟩
      rintro e w' ⟨τ2, V, l2, R2, sV, rfl⟩
      -- and back
      have himm : σ.imm.le τ2.imm := by rw [← hm.imm]; exact l2.imm
      let σ' : Env := { n := σ.n ++ τ2.n.drop M.H0.nn, b := σ.b, imm := τ2.imm }
      have hle : σ.le σ' := ⟨List.prefix_append _ _, List.prefix_refl _, himm⟩
      have hRN : r.Ok τ2 σ' := by
        refine ⟨fun i mv hi hmv' => ?_, fun i hi n hn => ?_, fun b c q hbc hq => ?_, rfl⟩
        · rw [rfm] at hmv'
          obtain ⟨n, hn⟩ := mvDen_ok R (hmv mv (List.mem_of_getElem? hmv'))
          have := hm.fm i mv n hmv' hn
          rw [hN, Nat.zero_add] at this
          refine ⟨n, ?_, prefix_get l2.n this⟩
          cases mv with
          | num x => exact Num.den_mono hle hn
          | be e =>
            simp only [MV.den, Option.map_eq_some_iff] at hn ⊢
            obtain ⟨b, hb, rfl⟩ := hn
            exact ⟨b, BE.den_mono hle hb, rfl⟩
        · show (σ.n ++ τ2.n.drop M.H0.nn)[r.nn + (i - r.K)]? = some n
          rw [rnn, rK] at *
          rw [List.getElem?_append_right (by rw [R.nlen]; omega), List.getElem?_drop, R.nlen]
          rw [show M.H0.nn + (H.nn + (i - M.H0.nn) - H.nn) = i by omega]
          exact hn
        · show σ.b[c]? = some q
          obtain ⟨q', h1, h2⟩ := hbl b c hbc
          have := prefix_get l2.b h2
          rw [hq] at this; cases this; exact h1
      have notpre : ∀ b ab n sz, H.hp.get b = some ab → σ.b[b]? = some (some (n, sz)) → b ∉ wrOf r M.wr → n ∉ pre := by
        intro b ab n sz hb hq hnb hn
        obtain ⟨c, sz', hc, hcq⟩ := mem_pre n hn
        obtain ⟨_, ab', hab'⟩ := hwr c hc
        exact hnb (R.inj b c ab ab' n sz sz' hb hab' hq hcq ▸ hc)
      have prepre : ∀ m, m < g.w0.heap.size → m ∉ g.pre → m ∉ pre := by
        intro m hm1 hm2 hmp
        obtain ⟨c, sz', hc, hcq⟩ := mem_pre m hmp
        rcases R.own c m sz' (hwr c hc).1 hcq with h | h
        · omega
        · exact hm2 h
      have live : ∀ b ab, (putMs r M.H1 M.wr H.hp).get b = some ab → ∃ q, H.hp.get b = some q := by
        intro b ab hb
        rcases putMs_get _ _ _ _ hb with ⟨_, h⟩ | ⟨b0, m0, h1, _⟩
        · exact ⟨_, h⟩
        · exact (hwr b (wr_mem b0 b m0 h1)).2
      have blkeq : ∀ b ab n sz, H.hp.get b = some ab → σ.b[b]? = some (some (n, sz)) → b ∉ wrOf r M.wr → w'.heap[n]? = w.heap[n]? := fun b ab n sz hb hq hnb =>
        R2.frame n (R.blk_lt hb hq) (notpre b ab n sz hb hq hnb)
      refine hQ _ (List.mem_singleton.2 rfl) σ' w' _ hle ?_ ⟨V, rnAV_ok hRN _ _ sV, rfl⟩
      refine ⟨?_, ?_, ?_, R.blen, ?_, ?_, R2.imm, ?_, ?_, R.sz.trans R2.sz, R.own, ?_, ?_, ?_⟩
      · show (σ.n ++ τ2.n.drop M.H0.nn).length = H.nn + (M.H1.nn - M.H0.nn)
        rw [List.length_append, List.length_drop, R.nlen, R2.nlen]
      · intro i q hi
        rcases rngMs_get _ _ _ _ _ hi with h | ⟨j, j1, j2, j3⟩
        · obtain ⟨n, hn, h2⟩ := R.rng i q h
          exact ⟨n, prefix_get hle.n hn, h2⟩
        · obtain ⟨n, hn, h2⟩ := R2.rng j q j3
          exact ⟨n, by rw [j2]; exact hRN.new j (by rw [rK]; exact j1) n hn, h2⟩
      · intro p hp
        obtain ⟨a, b, h1, h2, h3⟩ := R.lts p hp
        exact ⟨a, b, Num.den_mono hle h1, Num.den_mono hle h2, h3⟩
      · intro b ab hb
        rcases putMs_get _ _ _ _ hb with ⟨h0, h⟩ | ⟨b0, m0, h1, x, hx, rfl⟩
        · obtain ⟨n, sz, k1, k2⟩ := R.blk b ab h
          refine ⟨n, sz, k1, ?_⟩
          obtain ⟨c, c1, c2, c3, c4⟩ := k2
          exact ⟨c, by rw [blkeq b ab n sz h k1 h0]; exact c1, c2, c3, fun j v hv => (c4 j v hv).mono hle⟩
        · obtain ⟨n, sz, k1, k2⟩ := R2.blk b0 x hx
          obtain ⟨q, e1, e2⟩ := hbl b0 b h1
          have := prefix_get l2.b e2
          rw [k1] at this; cases this
          exact ⟨n, sz, e1, rnAB_ok hRN k2⟩
      · intro b b' ab ab' n sz sz' hb hb' e1 e2
        obtain ⟨x, hx⟩ := live b ab hb
        obtain ⟨x', hx'⟩ := live b' ab' hb'
        exact R.inj b b' x x' n sz sz' hx hx' e1 e2
      · intro b ab n sz hb e1
        rcases putMs_get _ _ _ _ hb with ⟨h0, h⟩ | ⟨b0, m0, h1, x, hx, rfl⟩
        · cases hi : τ2.imm n with
          | none => rfl
          | some o =>
            have h2 := R2.immo n o hi (R.blk_lt h e1) (notpre b ab n sz h e1 h0)
            have h3 := R.immd b ab n sz h e1
            have h2 : σ.imm n = some o := h2
            rw [h3] at h2; cases h2
        · obtain ⟨q, k1, k2⟩ := hbl b0 b h1
          have e1 : σ.b[b]? = some (some (n, sz)) := e1
          rw [e1] at k1; cases k1
          exact R2.immd b0 x n sz hx (prefix_get l2.b k2)
      · intro m hm1 hm2
        have h1 := R2.frame m (Nat.lt_of_lt_of_le hm1 R.size) (prepre m hm1 hm2)
        exact h1.trans (R.frame m hm1 hm2)
      · intro b n sz hq
        exact Nat.lt_of_lt_of_le (R.bnd b n sz hq) R2.size
      · intro m o hi hm1 hm2
        exact R.immo m o (R2.immo m o hi (Nat.lt_of_lt_of_le hm1 R.size) (prepre m hm1 hm2)) hm1 hm2
      · intro fc hfc
        rw [List.mem_filter] at hfc
        have hk := hfc.2
        have h0 := (R.fx fc hfc.1).mono hle (.inl (by cases fc <;> first | rfl | (simp [keepM] at hk; done)))
        cases fc with
        | iter b l k => simp [keepM] at hk
        | cell b i k v =>
          simp only [keepM, Bool.and_eq_true, Bool.not_eq_true', Option.isSome_iff_exists] at hk
          obtain ⟨hnc, q, hq⟩ := hk
          obtain ⟨n, sz, c, e2, fr, mv, j, k1, k2, k3, k4, k5⟩ := h0
          exact ⟨n, sz, c, e2, fr, mv, j, k1, by rw [blkeq b q n sz hq k1 (by simpa using hnc)]; exact k2, k3, k4, k5⟩
        | rd k' x v =>
          simp only [keepM, Bool.and_eq_true, Option.isSome_iff_exists, List.all_eq_true, Bool.not_eq_true'] at hk
          obtain ⟨⟨⟨⟨⟨⟨hne, g1⟩, g2⟩, g3⟩, g4⟩, g5⟩, g6⟩ := hk
          obtain ⟨a, bv, n0, ns, sz0, k1, k2, k3, k4, k5, k6⟩ := h0
          refine ⟨a, bv, n0, ns, sz0, k1, k2, k3, k4, fun i p hp => ⟨(k5 i p hp).1, ?_⟩, k6⟩
          obtain ⟨⟨psz, q1⟩, q2⟩ := k5 i p hp
          have hi : i < 6 := by have := (List.getElem?_eq_some_iff.1 hp).1; omega
          have hq : ∃ q, H.hp.get (i + 1) = some q := by
            have : i = 0 ∨ i = 1 ∨ i = 2 ∨ i = 3 ∨ i = 4 ∨ i = 5 := by omega
            rcases this with rfl | rfl | rfl | rfl | rfl | rfl <;> assumption
          obtain ⟨q, hq⟩ := hq
          rw [blkeq (i + 1) q p.1 psz hq q1 (fun hc => by
            have := hne (i + 1) hc
            have e1 : Nat.ble 1 (i + 1) = true := by rw [Nat.ble_eq]; omega
            have e2 : Nat.ble (i + 1) 6 = true := by rw [Nat.ble_eq]; omega
            rw [e1, e2] at this
            cases this)]
          exact q2
        | _ => exact h0
    · cases h
  · cases h
end
end Go.Proofs.YtgkoghgiclkbhaaGreatDoor.Sx
namespace Go.Proofs.YtgkoghgiclkbhaaGreatDoor.Sx
open Go
noncomputable section
set_option linter.unusedVariables false
set_option linter.unusedSimpArgs false

/-- Each round from J ends in one of the states, and number i goes on. -/
def jChk (ro : Nat → Bool) (NB i : Nat) (Js : List St) (l : Outs) : Bool :=
  (normals l).all fun p => Js.any fun J' => Nat.beq (rbOf J' p 0 NB).N 0 && reSt ro (rbOf J' p 0 NB) p J' && msrOk 0 i (rbOf J' p 0 NB) p.H
theorem Env.nil_le (σ : Env) : (⟨[], [], fun _ => none⟩ : Env).le σ := ⟨List.nil_prefix, List.nil_prefix, fun _ _ h => by cases h⟩
theorem roundsM {ks : List Nat} {ro : Nat → Bool} {g : Gh} {nt : Nat} {d : List Deferred} {P : Program} {body : Code} {f : St → Option Outs}
    (ih : ∀ S outs, f S = some outs → ∀ σ a w (Q : Exit → Act → World → Prop), PF ks Q → Rel ro g σ S.H w → Fr nt d σ S.F a → GoodQ nt d ro g σ outs Q → body.wp P Q a w)
    {Q : Exit → Act → World → Prop} (hQ : PF ks Q) {Js : List St} {NB i : Nat} {hi : Int} (hb : ∀ J ∈ Js, ∃ l, f J = some l ∧ jChk ro NB i Js l = true ∧ GoodQ nt d ro g ⟨[], [], fun _ => none⟩ (exits l) Q)
    (hr : ∀ J ∈ Js, ∃ lo, J.H.rng.get i = some (lo, hi)) :
    ∀ (m : Nat) (J : St) (σ : Env) (a : Act) (w : World) (n : Int), J ∈ Js → Rel ro g σ J.H w → Fr nt d σ J.F a → σ.n[i]? = some n → hi - n < m → Unr P body Q (m + 1) a w := by
  intro m
  induction m with
  | zero =>
    intro J σ a w n hJ R hf hn hm
    obtain ⟨lo, hr⟩ := hr J hJ
    obtain ⟨n', e1, e2, e3⟩ := R.rng _ _ hr
    rw [hn] at e1; cases e1
    simp only [] at e3; omega
  | succ m ihm =>
    intro J σ a w n hJ R hf hn hm
    obtain ⟨l, hl, hc, hq⟩ := hb J hJ
    simp only [jChk, List.all_eq_true, List.any_eq_true, Bool.and_eq_true, Nat.beq_eq] at hc
    refine ih J l hl σ a w _ hQ.then R hf fun p hp σ' a' w' e l1 R1 f1 x1 => ?_
    by_cases hnorm : p.1 = .normal
    · rw [hnorm] at x1
      simp only [XOk] at x1
      subst x1
      obtain ⟨J', hJ', ⟨b1, b3⟩, b4⟩ := hc p.2 (normals_mem hp hnorm)
      obtain ⟨τ, hm', R2, f2, _⟩ := reSt_sound b3 R1 f1
      obtain ⟨lo', hr'⟩ := hr J' hJ'
      unfold msrOk at b4
      simp only [Nat.zero_add] at b4
      split at b4
      · rename_i x hx
        have key : ∃ n', x.den σ' = some n' ∧ n < n' := by
          simp only [Bool.or_eq_true, Bool.and_eq_true, decide_eq_true_eq] at b4
          rcases b4 with ⟨c1, c2⟩ | b4
          · exact ⟨n + x.c, by simp only [Num.den, c1, prefix_get l1.n hn, Option.map_some], by omega⟩
          · split at b4
            · rename_i q r hq hr'
              simp only [decide_eq_true_eq] at b4
              obtain ⟨n', hn'⟩ := R1.range_den hq
              have h1 := R1.range hn' hq
              obtain ⟨m1, e1, e2, e3⟩ := R1.rng _ _ hr'
              rw [prefix_get l1.n hn] at e1; cases e1
              exact ⟨n', hn', by omega⟩
            · cases b4
        obtain ⟨n', hd, hlt⟩ := key
        have := hm'.fm i _ _ hx (show (MV.num x).den σ' = some n' from hd)
        rw [b1, Nat.zero_add] at this
        exact ihm J' τ a' w' n' hJ' R2 f2 this (by omega)
      · cases b4
    · have := hq p (exits_mem hp hnorm) σ' a' w' e (Env.nil_le _) R1 f1 x1
      cases e with
      | normal => cases hx : p.1 <;> rw [hx] at x1 <;> simp only [XOk] at x1 <;> first | (exact absurd hx hnorm) | (cases x1; done) | (obtain ⟨_, _, h⟩ := x1; cases h)
      | _ => exact this
end
end Go.Proofs.YtgkoghgiclkbhaaGreatDoor.Sx
namespace Go.Proofs.YtgkoghgiclkbhaaGreatDoor.Sx
open Go
noncomputable section
def nm (k : IntKind) (i : Nat) : AV := .int k ⟨some i, 0⟩
def bl (i : Nat) : AV := .bool (.s i true)
def rep {α : Type} : Nat → α → List α
  | 0, _ => []
  | n + 1, x => x :: rep n x
def cat (l : List (List AV)) : List AV := l.flatten
def catR (l : List (List (Int × Int))) : List (Int × Int) := l.flatten
def vidP : Sh := .ptr videoL
def big : Int := 9223372036854775807
/-- The machine's cells: all but the transfer's. -/
def mCells (dma : List AV) : List AV := cat [[.ptr 1 0, .ptr 2 0], rep 8 (.any u8), [.any u16, .any u16], [.any bo, .any bo, .any bo, .any u8, .any u8, .any bo, .any u8, .any u8, .any u8], [.any u8, .any u8], [.any u16, .any u8, .any u8, .any u8, .any u8], rep 4 (.any u8), rep 2 (.any u8), [.any u8], [.any bo, .any u8, .any u16, .any u8, .any u8, .any bo, .any u16], dma, rep 8 (.any u8), [.any u8s, .any u8s]]
def cCells (regs : List AV) : List AV := cat [regs, [.any .str, .any u8, .any i64, .any bo, .any bo, .any bo, .any i64, .any i64, .any u8, .any u16, .sl 5 0 1 ⟨some 0, 0⟩ ⟨some 1, 0⟩, .sl 6 0 1 ⟨some 2, 0⟩ ⟨some 3, 0⟩, .any bo]]
def cAny : List AV := cat [[.any i64, .any bo, .any u8, .any u8, .any u8, .any bo], [.any u8, .any u8, .any u8, .any u16, .any bo, .any bo], [.any u8, .any u8, .any u8, .any u16, .any bo, .any bo], [.any u8]]
def bCells : List AV := cat [[.sl 3 0 1 (cNum 8192) (cNum 8192), .sl 4 0 1 (cNum 8192) (cNum 8192)]]
def memB (n : Nat) : AB := ⟨.leaf, [u8], n, 5⟩
/-- The machine, with its transfer's cells, its cartridge's, and what is known of numbers; the first four are the lengths of image and RAM. -/
def JM (dma regs : List AV) (more : List (Int × Int)) (fx : List Fx) (fm : Bool) : AH :=
  { rng := setL .leaf 0 ([(0, big), (0, big), (0, big), (0, big)] ++ more), nn := 4 + more.length, lts := [], hp := setL .leaf 0 [⟨setL (setL .leaf 0 (mCells dma)) 201 [.any i64, .any u8s], [vidP], 203, 68⟩, ⟨setL .leaf 0 (cCells regs), [], 32, 102⟩, ⟨setL .leaf 0 bCells, [u8], 289, 106⟩, memB 8192, memB 8192, memB 0, memB 0], nb := 7, fx, fm, n0 := 4 + more.length }
def dmaS (i : Nat) : List AV := [bl i, nm .u8 (i + 1), nm .u8 (i + 2), nm .u8 (i + 3), nm .u8 (i + 4)]
def dmaR : List (Int × Int) := [(0, 1), (0, 255), (0, 255), (0, 255), (0, 255)]
def m0 : AV := .ptr 0 0
def actA (i : Nat) : AV := .agg [nm .i64 i, nm .u16 (i + 1), nm .u8 (i + 2)]
def i64R : Int × Int := (-9223372036854775808, big)
/-- Reading, anywhere. -/
def mcRead : MC := { f := 16, H0 := JM (dmaS 4) cAny (catR [dmaR, [(0, 65535)]]) [] false, args := [m0, nm .u16 9], H1 := JM (dmaS 4) cAny (catR [dmaR, [(0, 65535), (0, 255)]]) [] false, res := nm .u8 10, wr := [] }
/-- What the processor does on the bus: a transfer's place, page and whether it goes on stay. -/
def mcAct : MC := { f := 22, H0 := JM (dmaS 4) cAny (catR [dmaR, [i64R, (0, 65535), (0, 255), (0, 255), (0, 65535), (0, 1)]]) [] false, args := [m0, actA 9, nm .u8 12, nm .u16 13, bl 14], H1 := JM [bl 4, nm .u8 5, nm .u8 6, nm .u8 15, nm .u8 16] cAny (catR [dmaR, [i64R, (0, 65535), (0, 255), (0, 255), (0, 65535), (0, 1)], [(0, 255), (0, 255), i64R, (0, 65535), (0, 255)]]) [] false, res := actA 17, wr := [0, 1, 2, 3, 4, 6] }
/-- The parts that go on by themselves. -/
def mcOthers : MC := { f := 25, H0 := JM (dmaS 4) cAny (catR [dmaR, [(0, 255), (0, 1), (0, 1), (0, 1)]]) [] false, args := [m0, .agg [nm .u8 9, bl 10, bl 11, bl 12]], H1 := JM (dmaS 4) cAny (catR [dmaR, [(0, 255), (0, 1), (0, 1), (0, 1)], [(0, 1)]]) [] false, res := bl 13, wr := [0, 1] }
end
end Go.Proofs.YtgkoghgiclkbhaaGreatDoor.Sx
namespace Go.Proofs.YtgkoghgiclkbhaaGreatDoor.Sx
open Go
noncomputable section
set_option linter.unusedVariables false
set_option linter.unusedSimpArgs false

/-! cells opened where they stand -/
def openCell (H : AH) (b j : Nat) : AH := match H.hp.get b with
  | some ab => (match ab.t.get j with
    | some a0 => bif Nat.blt j ab.n && Nat.blt j 100000 then { (openAt H a0).1 with hp := (openAt H a0).1.hp.set b (some { ab with t := ab.t.set j (some (openAt H a0).2) }) } else H
    | none => H)
  | none => H
def openCells (H : AH) : List (Nat × Nat) → AH
  | [] => H
  | p :: l => openCells (openCell H p.1 p.2) l
theorem openAt_hp (H : AH) (a : AV) : (openAt H a).1.hp = H.hp := by
  unfold openAt
  split <;> rfl
section
variable {ro : Nat → Bool} {g : Gh} {σ : Env} {H : AH} {w : World}
/-- A block of which other things are known. -/
theorem Rel.know (R : Rel ro g σ H w) {b : Nat} {ab ab' : AB} (hb : H.hp.get b = some ab) (he : ab'.e = ab.e) (hn : ab'.n = ab.n)
    (hc : ∀ n sz c, σ.b[b]? = some (some (n, sz)) → w.heap[n]? = some (.cells c ab.e (0, 0)) → ∀ j v, c[j]? = some v → CellOk σ ab j v → CellOk σ ab' j v) :
    Rel ro g σ { H with hp := H.hp.set b (some ab') } w := by
  have get : ∀ b' x, ({ H with hp := H.hp.set b (some ab') } : AH).hp.get b' = some x → (b' = b ∧ x = ab') ∨ H.hp.get b' = some x := by
    intro b' x h
    have h : (H.hp.set b (some ab')).get b' = some x := h
    rcases Tr.get_set_some h with ⟨h0, h⟩ | ⟨_, h⟩
    · cases h; exact .inl ⟨h0, rfl⟩
    · exact .inr h
  have live : ∀ b' x, ({ H with hp := H.hp.set b (some ab') } : AH).hp.get b' = some x → ∃ y, H.hp.get b' = some y := by
    intro b' x h
    rcases get b' x h with ⟨rfl, _⟩ | h
    · exact ⟨_, hb⟩
    · exact ⟨_, h⟩
  refine ⟨R.nlen, R.rng, R.lts, R.blen, ?_, ?_, R.imm, ?_, R.frame, R.sz, R.own, R.bnd, R.immo, R.fx⟩
  · intro b' x h
    rcases get b' x h with ⟨rfl, rfl⟩ | h
    · obtain ⟨n, sz, k1, c, k2, k3, k4, k5⟩ := R.blk b' ab hb
      exact ⟨n, sz, k1, c, by rw [he]; exact k2, k3, by omega, fun j v hv => hc n sz c k1 k2 j v hv (k5 j v hv)⟩
    · exact R.blk b' x h
  · intro b1 b2 a1 a2 n s s' h h' e1 e2
    obtain ⟨y1, h1⟩ := live _ _ h
    obtain ⟨y2, h2⟩ := live _ _ h'
    exact R.inj b1 b2 y1 y2 n s s' h1 h2 e1 e2
  · intro b' x n s h e
    obtain ⟨y, h1⟩ := live _ _ h
    exact R.immd b' y n s h1 e
theorem Rel.openCell (R : Rel ro g σ H w) (b j : Nat) : ∃ σ', σ.le σ' ∧ Rel ro g σ' (openCell H b j) w := by
  unfold Sx.openCell
  split
  · rename_i ab hab
    split
    · rename_i a0 ha
      rw [cond_eq_ite]
      split
      · rename_i hlt
        rw [Bool.and_eq_true, Nat.blt_eq, Nat.blt_eq] at hlt
        obtain ⟨hlt, hsm⟩ := hlt
        have hsm : j + 2 ≤ 1099511627776 := by omega
        obtain ⟨n, sz, k1, c, k2, k3, k4, k5⟩ := R.blk b ab hab
        obtain ⟨v, hv⟩ : ∃ v, c[j]? = some v := ⟨c[j]'(by omega), Array.getElem?_eq_getElem (by omega)⟩
        have hs := k5 j v hv
        unfold CellOk at hs
        rw [ha] at hs
        obtain ⟨σ', l1, R1, s1⟩ := R.openAt hs
        refine ⟨σ', l1, R1.know (ab := ab) (by rw [openAt_hp]; exact hab) rfl rfl fun n' sz' c' e1 e2 j' v' hv' hc' => ?_⟩
        have := prefix_get l1.b k1
        rw [e1] at this; cases this
        rw [k2] at e2; cases e2
        unfold CellOk
        cases hg : (ab.t.set j (some (Sx.openAt H a0).2)).get j' with
        | some a =>
          try dsimp only
          rcases Tr.get_set_some hg with ⟨rfl, h⟩ | ⟨_, h⟩
          · cases h
            rw [hv] at hv'; cases hv'; exact s1
          · unfold CellOk at hc'
            rw [h] at hc'
            exact hc'
        | none =>
          try dsimp only
          unfold CellOk at hc'
          rw [Tr.get_set _ _ _ _ hsm] at hg
          split at hg
          · cases hg
          · rw [hg] at hc'; exact hc'
      · exact ⟨σ, .refl σ, R⟩
    · exact ⟨σ, .refl σ, R⟩
  · exact ⟨σ, .refl σ, R⟩
theorem Rel.openCells : ∀ (l : List (Nat × Nat)) {σ : Env} {H : AH}, Rel ro g σ H w → ∃ σ', σ.le σ' ∧ Rel ro g σ' (openCells H l) w
  | [], σ, H, R => ⟨σ, .refl σ, R⟩
  | p :: l, σ, H, R => by
    obtain ⟨σ1, l1, R1⟩ := R.openCell p.1 p.2
    obtain ⟨σ2, l2, R2⟩ := Rel.openCells l R1
    exact ⟨σ2, l1.trans l2, R2⟩
end
/-! what does not look at what nobody writes any more -/
def noImmS : Sh → Bool
  | .int .. | .bool | .str | .any => true
  | _ => false
def noImm : AV → Bool
  | .top | .int .. | .bool _ | .str _ | .lit _ => true
  | .ptr b _ | .eptr b _ _ _ _ _ | .sl b _ _ _ _ => Nat.blt b 7
  | .any s => noImmS s
  | _ => false
def Env.bare (σ : Env) : Env := { n := σ.n, b := σ.b.take 7 ++ List.replicate (σ.b.length - 7) none, imm := fun _ => none }
theorem bare_b {σ : Env} {b : Nat} (h : b < 7) {q : Option (Nat × Nat)} (hq : σ.b[b]? = some q) : σ.bare.b[b]? = some q := by
  have hl := (List.getElem?_eq_some_iff.1 hq).1
  show (σ.b.take 7 ++ List.replicate (σ.b.length - 7) none)[b]? = some q
  rw [List.getElem?_append_left (by rw [List.length_take]; omega), List.getElem?_take_of_lt h]; exact hq
theorem bare_b' {σ : Env} {b n sz : Nat} (hq : σ.bare.b[b]? = some (some (n, sz))) : b < 7 ∧ σ.b[b]? = some (some (n, sz)) := by
  have hq : (σ.b.take 7 ++ List.replicate (σ.b.length - 7) none)[b]? = some (some (n, sz)) := hq
  by_cases h : b < (σ.b.take 7).length
  · rw [List.getElem?_append_left h] at hq
    rw [List.length_take] at h
    rw [List.getElem?_take_of_lt (by omega)] at hq
    exact ⟨by omega, hq⟩
  · rw [List.getElem?_append_right (by omega), List.getElem?_replicate] at hq
    split at hq <;> cases hq
theorem noImmS_ok {i j : Imm} {s : Sh} {v : Value} (h : noImmS s = true) (hs : SatSh i s v) : SatSh j s v := by
  cases s <;> simp only [noImmS] at h <;> first | (cases h; done) | (simp only [SatSh] at hs ⊢; done) | (simp only [SatSh] at hs ⊢; exact hs)
theorem noImm_ok {σ : Env} {a : AV} {v : Value} (h : noImm a = true) (hs : Sat σ a v) : Sat σ.bare a v := by
  cases a <;> simp only [noImm] at h <;> first | (cases h; done) | skip
  case any s => simp only [Sat] at hs ⊢; exact noImmS_ok h hs
  case ptr b o =>
    rw [Nat.blt_eq] at h
    simp only [Sat] at hs ⊢
    obtain ⟨n, sz, h1, h2⟩ := hs
    exact ⟨n, sz, bare_b h h1, h2⟩
  case eptr b o e i s l =>
    rw [Nat.blt_eq] at h
    simp only [Sat] at hs ⊢
    obtain ⟨n, sz, k, h1, h2⟩ := hs
    exact ⟨n, sz, k, bare_b h h1, h2⟩
  case sl b o e l c =>
    rw [Nat.blt_eq] at h
    simp only [Sat] at hs ⊢
    obtain ⟨n, sz, ln, cp, h1, h2⟩ := hs
    exact ⟨n, sz, ln, cp, bare_b h h1, h2⟩
  all_goals first | (simp only [Sat] at hs ⊢; done) | (simp only [Sat] at hs ⊢; exact hs)
theorem noImmAt {i j : Imm} : ∀ (d : List Sh) (q : Nat) (v : Value), d.all noImmS = true → SatShAt i d q v → SatShAt j d q v
  | [], _, _, _, _ => by simp [SatShAt]
  | s :: l, 0, v, h, hs => by
    simp only [List.all_cons, Bool.and_eq_true] at h
    simp only [SatShAt] at hs ⊢
    exact noImmS_ok h.1 hs
  | s :: l, q + 1, v, h, hs => by
    simp only [List.all_cons, Bool.and_eq_true] at h
    simp only [SatShAt] at hs ⊢
    exact noImmAt l q v h.2 hs
def abBare (ab : AB) : Bool := trAll (fun _ a => noImm a) ab.t 0 1 && ab.d.all noImmS
theorem abBare_ok {σ : Env} {w w' : World} {ab : AB} {n sz : Nat} (h : abBare ab = true) (hw : w'.heap[n]? = w.heap[n]?) (hb : BlkOk σ w ab n sz) : BlkOk σ.bare w' ab n sz := by
  unfold abBare at h
  rw [Bool.and_eq_true] at h
  obtain ⟨c, h1, h2, h3, h4⟩ := hb
  refine ⟨c, by rw [hw]; exact h1, h2, h3, fun j v hv => ?_⟩
  have := h4 j v hv
  unfold CellOk at *
  cases hx : ab.t.get j with
  | some a => rw [hx] at this; exact noImm_ok (trAll_get h.1 hx) this
  | none => rw [hx] at this; exact noImmAt _ _ _ h.2 this
def mach2 : AB := ⟨setL .leaf 0 [.ptr 1 0, .ptr 2 0], [], 203, 68⟩
def forgetFx : Fx → Bool
  | .cell b _ _ _ => Nat.ble 1 b && Nat.ble b 6
  | .iter _ _ _ => false
  | _ => true
def forget (H : AH) : AH := { H with hp := ((((((Tr.leaf.set 0 (some mach2)).set 1 (H.hp.get 1)).set 2 (H.hp.get 2)).set 3 (H.hp.get 3)).set 4 (H.hp.get 4)).set 5 (H.hp.get 5)).set 6 (H.hp.get 6), fx := H.fx.filter forgetFx }
theorem forget_get {H : AH} {b : Nat} {ab : AB} (h : (forget H).hp.get b = some ab) : (b = 0 ∧ ab = mach2) ∨ (1 ≤ b ∧ b ≤ 6 ∧ H.hp.get b = some ab) := by
  unfold forget at h
  dsimp only at h
  rcases Tr.get_set_some h with ⟨rfl, h⟩ | ⟨_, h⟩
  · exact .inr ⟨by omega, by omega, h⟩
  rcases Tr.get_set_some h with ⟨rfl, h⟩ | ⟨_, h⟩
  · exact .inr ⟨by omega, by omega, h⟩
  rcases Tr.get_set_some h with ⟨rfl, h⟩ | ⟨_, h⟩
  · exact .inr ⟨by omega, by omega, h⟩
  rcases Tr.get_set_some h with ⟨rfl, h⟩ | ⟨_, h⟩
  · exact .inr ⟨by omega, by omega, h⟩
  rcases Tr.get_set_some h with ⟨rfl, h⟩ | ⟨_, h⟩
  · exact .inr ⟨by omega, by omega, h⟩
  rcases Tr.get_set_some h with ⟨rfl, h⟩ | ⟨_, h⟩
  · exact .inr ⟨by omega, by omega, h⟩
  rcases Tr.get_set_some h with ⟨rfl, h⟩ | ⟨_, h⟩
  · cases h; exact .inl ⟨rfl, rfl⟩
  · simp [Tr.get] at h
def blks : List Nat := [1, 2, 3, 4, 5, 6]
def forgetOk (H : AH) : Bool := (H.hp.get 0).isSome && Nat.ble 7 H.nb && blks.all fun b => match H.hp.get b with | some ab => abBare ab | none => false
def roN (H : AH) : Nat → Bool := fun b => Nat.ble H.nb b
def fnK (k : Bool) : FuncId := bif k then 16 else 41
def argsK (k : Bool) (x : Num) : List AV := [.ptr (bif k then 0 else 1) 0, .int .u16 x]
def valsK (k : Bool) (n0 n1 : Nat) (a : Int) : List Value := [.pointer (some ⟨bif k then n0 else n1, 0, none⟩), .int .u16 a]
/-- What is answered, and that it is answered again. -/
def stRun (X : Env1) (k : Bool) (x : Num) (H : AH) : Bool :=
  Nat.ble 7 H.nb && match callX X 400 (roN H) H (fnK k) (argsK k x) with
  | some outs => outs.all fun p => match p.1 with
    | .ret (.int .u8 v) => byteN p.2 v && forgetOk p.2 && (match callX X 400 (roN p.2) (forget p.2) (fnK k) (argsK k x) with
        | some outs2 => outs2.all fun q => (match q.1 with | .ret (.int .u8 v') => decide (v' = v) | _ => false)
        | none => false)
    | _ => false
  | none => false
theorem satArgs {σ : Env} {k : Bool} {x : Num} {a : Int} {n0 sz0 n1 sz1 : Nat} (hx : x.den σ = some a) (h0 : σ.b[0]? = some (some (n0, sz0))) (h1 : σ.b[1]? = some (some (n1, sz1))) : SatL σ (argsK k x) (valsK k n0 n1 a) := by
  simp only [argsK, valsK, SatL]
  refine ⟨_, _, rfl, ?_, _, _, rfl, ?_, rfl⟩
  · simp only [Sat]
    cases k
    · exact ⟨n1, sz1, h1, rfl⟩
    · exact ⟨n0, sz0, h0, rfl⟩
  · simp only [Sat]; exact ⟨a, hx, rfl⟩
theorem stRun_ok {X : Env1} (hX : X.Ok) (hP : X.P = Tryz.prog) {k : Bool} {x : Num} {H : AH} (h : stRun X k x H = true) {w : World} {imm : Imm} {σ : Env}
    (R : Rel (roN H) ⟨w, [], imm⟩ σ H w) (himm : imm.le σ.imm) {a : Int} (hx : x.den σ = some a) {n0 sz0 n1 sz1 : Nat} (h0 : σ.b[0]? = some (some (n0, sz0))) (h1 : σ.b[1]? = some (some (n1, sz1))) :
    (∀ v1 : World, (callFunc (fnK k) ⟨valsK k n0 n1 a⟩).run Tryz.prog v1 = .ok (.enter (fnK k) ⟨valsK k n0 n1 a⟩) v1) ∧
    Calls Tryz.prog (fnK k) ⟨valsK k n0 n1 a⟩ w fun e w1 => ∃ b, e = .returned (.int .u8 b) ∧ Grown w w1 ∧
      (∃ imm' : Imm, imm.le imm' ∧ (∀ m o, imm' m = some o → w1.heap[m]? = some o) ∧ (∀ m o, imm' m = some o → m < w.heap.size → imm m = some o)) ∧
      ∃ ns : List (Nat × Obj), ns.length = 6 ∧ (∀ (i : Nat) (p : Nat × Obj), ns[i]? = some p → (∃ sz, σ.b[i + 1]? = some (some (p.1, sz))) ∧ w1.heap[p.1]? = some p.2) ∧ RdOk k n0 sz0 ns a b := by
  unfold stRun at h
  rw [Bool.and_eq_true, Nat.ble_eq] at h
  obtain ⟨hnb, h⟩ := h
  split at h
  · rename_i outs ho
    rw [List.all_eq_true] at h
    obtain ⟨_, hcf, hcall⟩ := (exec_sound hX 400).2 (roN H) ⟨w, [], imm⟩ σ H w (fnK k) (argsK k x) (valsK k n0 n1 a) outs (fun e w1 => ∃ b, e = .returned (.int .u8 b) ∧ Grown w w1 ∧
      (∃ imm' : Imm, imm.le imm' ∧ (∀ m o, imm' m = some o → w1.heap[m]? = some o) ∧ (∀ m o, imm' m = some o → m < w.heap.size → imm m = some o)) ∧
      ∃ ns : List (Nat × Obj), ns.length = 6 ∧ (∀ (i : Nat) (p : Nat × Obj), ns[i]? = some p → (∃ sz, σ.b[i + 1]? = some (some (p.1, sz))) ∧ w1.heap[p.1]? = some p.2) ∧ RdOk k n0 sz0 ns a b) ho R (satArgs hx h0 h1) (by
      intro p hp σ1 w1 e l1 R1 hc
      have hk := h p hp
      split at hk
      · rename_i v hv
        rw [hv] at hc
        obtain ⟨V, sV, rfl⟩ := hc
        simp only [Sat] at sV
        obtain ⟨b, hb, rfl⟩ := sV
        rw [Bool.and_eq_true, Bool.and_eq_true] at hk
        obtain ⟨⟨hbyte, hfo⟩, hk⟩ := hk
        have hbr := R1.byteN hb hbyte
        have hgr : Grown w w1 := ⟨R1.size, fun n hn => R1.frame n hn (by simp), R1.sz.os, R1.sz.out⟩
        unfold forgetOk at hfo
        rw [Bool.and_eq_true, Bool.and_eq_true, Nat.ble_eq, List.all_eq_true] at hfo
        obtain ⟨⟨hm0, hnb1⟩, hfo⟩ := hfo
        obtain ⟨m0, hm0⟩ := Option.isSome_iff_exists.1 hm0
        have each : ∀ b ∈ blks, ∃ n sz o ab, p.2.hp.get b = some ab ∧ abBare ab = true ∧ σ1.b[b]? = some (some (n, sz)) ∧ σ.b[b]? = some (some (n, sz)) ∧ w1.heap[n]? = some o ∧ BlkOk σ1 w1 ab n sz := by
          intro b hb
          have := hfo b hb
          split at this
          · rename_i ab hab
            obtain ⟨n, sz, k1, k2⟩ := R1.blk b ab hab
            have hlt : b < σ.b.length := by
              rw [R.blen]
              simp only [blks, List.mem_cons, List.not_mem_nil, or_false] at hb
              omega
            have e1 := prefix_get l1.b (List.getElem?_eq_getElem hlt)
            rw [k1] at e1
            have e2 := List.getElem?_eq_getElem hlt
            have k2' := k2
            obtain ⟨c, k3, _⟩ := k2'
            exact ⟨n, sz, _, ab, hab, this, k1, by rw [e2]; exact e1.symm, k3, k2⟩
          · cases this
        obtain ⟨a1, s1, o1, b1, p1, q1, t1, u1, v1, z1⟩ := each 1 (by simp [blks])
        obtain ⟨a2, s2, o2, b2, p2, q2, t2, u2, v2, z2⟩ := each 2 (by simp [blks])
        obtain ⟨a3, s3, o3, b3, p3, q3, t3, u3, v3, z3⟩ := each 3 (by simp [blks])
        obtain ⟨a4, s4, o4, b4, p4, q4, t4, u4, v4, z4⟩ := each 4 (by simp [blks])
        obtain ⟨a5, s5, o5, b5, p5, q5, t5, u5, v5, z5⟩ := each 5 (by simp [blks])
        obtain ⟨a6, s6, o6, b6, p6, q6, t6, u6, v6, z6⟩ := each 6 (by simp [blks])
        refine ⟨b, rfl, hgr, ⟨σ1.imm, fun m o hm => l1.imm m o (himm m o hm), R1.imm, fun m o hm hlt => R1.immo m o hm hlt (by simp)⟩,
          [(a1, o1), (a2, o2), (a3, o3), (a4, o4), (a5, o5), (a6, o6)], rfl, fun i q hq => ?_, hbr.1, hbr.2, ?_⟩
        · match i, hq with
          | 0, hq => simp at hq; subst hq; exact ⟨⟨_, u1⟩, v1⟩
          | 1, hq => simp at hq; subst hq; exact ⟨⟨_, u2⟩, v2⟩
          | 2, hq => simp at hq; subst hq; exact ⟨⟨_, u3⟩, v3⟩
          | 3, hq => simp at hq; subst hq; exact ⟨⟨_, u4⟩, v4⟩
          | 4, hq => simp at hq; subst hq; exact ⟨⟨_, u5⟩, v5⟩
          | 5, hq => simp at hq; subst hq; exact ⟨⟨_, u6⟩, v6⟩
          | i + 6, hq => simp at hq
        · intro w2 n1' n2' e1 e2 hob hma
          simp at e1 e2
          subst e1; subst e2
          have hob1 := hob _ (List.mem_cons_self ..)
          have hsame : ∀ b n sz, 1 ≤ b → b ≤ 6 → σ1.b[b]? = some (some (n, sz)) → w2.heap[n]? = w1.heap[n]? := by
            intro b n sz hb1 hb6 hq
            have : b = 1 ∨ b = 2 ∨ b = 3 ∨ b = 4 ∨ b = 5 ∨ b = 6 := by omega
            rcases this with rfl | rfl | rfl | rfl | rfl | rfl
            · rw [t1] at hq; cases hq; rw [v1]; exact hob (a1, o1) (by simp)
            · rw [t2] at hq; cases hq; rw [v2]; exact hob (a2, o2) (by simp)
            · rw [t3] at hq; cases hq; rw [v3]; exact hob (a3, o3) (by simp)
            · rw [t4] at hq; cases hq; rw [v4]; exact hob (a4, o4) (by simp)
            · rw [t5] at hq; cases hq; rw [v5]; exact hob (a5, o5) (by simp)
            · rw [t6] at hq; cases hq; rw [v6]; exact hob (a6, o6) (by simp)
          obtain ⟨c, c1, c2, c3, c4, c5⟩ := hma
          have h01 : σ1.b[0]? = some (some (n0, sz0)) := prefix_get l1.b h0
          have Rf : Rel (roN p.2) ⟨w2, [], fun _ => none⟩ σ1.bare (forget p.2) w2 := by
            refine ⟨R1.nlen, R1.rng, R1.lts, ?_, ?_, ?_, fun _ _ h => (by cases h), fun _ _ _ _ _ _ => rfl, fun _ _ _ => rfl, SzOk.refl _, ?_, ?_, fun _ _ h _ _ => (by cases h), ?_⟩
            · show (σ1.b.take 7 ++ List.replicate (σ1.b.length - 7) none).length = p.2.nb
              rw [List.length_append, List.length_take, List.length_replicate, R1.blen]; omega
            · intro b ab hb
              rcases forget_get hb with ⟨rfl, rfl⟩ | ⟨hb1, hb6, hb⟩
              · refine ⟨n0, sz0, bare_b (by omega) h01, c, c1, c2, c3, fun j u hu => ?_⟩
                have hg : ∀ j, mach2.t.get j = if 0 ≤ j ∧ j < 0 + 2 then ([.ptr 1 0, .ptr 2 0] : List AV)[j - 0]? else (Tr.leaf : Tr AV).get j := fun j => get_setL ([.ptr 1 0, .ptr 2 0] : List AV) .leaf 0 j (by simp)
                unfold CellOk
                rw [hg]
                match j with
                | 0 => rw [c4] at hu; cases hu; exact ⟨a1, s1, bare_b (by omega) t1, rfl⟩
                | 1 => rw [c5] at hu; cases hu; exact ⟨a2, s2, bare_b (by omega) t2, rfl⟩
                | j + 2 => simp [Tr.get, mach2, SatShAt]
              · obtain ⟨n, sz, k1, k2⟩ := R1.blk b ab hb
                have := hfo b (by simp only [blks, List.mem_cons, List.not_mem_nil, or_false]; omega)
                rw [hb] at this
                exact ⟨n, sz, bare_b (by omega) k1, abBare_ok this (hsame b n sz hb1 hb6 k1) k2⟩
            · intro b b' ab ab' n sz sz' hb hb' e1 e2
              have e1 := (bare_b' e1).2
              have e2 := (bare_b' e2).2
              have live : ∀ b ab, (forget p.2).hp.get b = some ab → ∃ q, p.2.hp.get b = some q := by
                intro b ab hb
                rcases forget_get hb with ⟨rfl, _⟩ | ⟨_, _, hb⟩
                · exact ⟨_, hm0⟩
                · exact ⟨_, hb⟩
              obtain ⟨y, hy⟩ := live b ab hb
              obtain ⟨y', hy'⟩ := live b' ab' hb'
              exact R1.inj b b' y y' n sz sz' hy hy' e1 e2
            · intro b n sz hro hq
              have := (bare_b' hq).1
              unfold roN at hro
              rw [Nat.ble_eq] at hro
              omega
            · intro b n sz hq
              obtain ⟨hb7, hq⟩ := bare_b' hq
              by_cases hb0 : b = 0
              · subst hb0
                rw [h01] at hq; cases hq
                exact (Array.getElem?_eq_some_iff.1 c1).1
              · have hs := hsame b n sz (by omega) (by omega) hq
                have : ∃ o, w1.heap[n]? = some o := by
                  have : b = 1 ∨ b = 2 ∨ b = 3 ∨ b = 4 ∨ b = 5 ∨ b = 6 := by omega
                  rcases this with rfl | rfl | rfl | rfl | rfl | rfl
                  · rw [t1] at hq; cases hq; exact ⟨_, v1⟩
                  · rw [t2] at hq; cases hq; exact ⟨_, v2⟩
                  · rw [t3] at hq; cases hq; exact ⟨_, v3⟩
                  · rw [t4] at hq; cases hq; exact ⟨_, v4⟩
                  · rw [t5] at hq; cases hq; exact ⟨_, v5⟩
                  · rw [t6] at hq; cases hq; exact ⟨_, v6⟩
                obtain ⟨o, ho⟩ := this
                rw [ho] at hs
                exact (Array.getElem?_eq_some_iff.1 hs).1
            · intro f hf
              have hf : f ∈ p.2.fx.filter forgetFx := hf
              rw [List.mem_filter] at hf
              have h0 := R1.fx f hf.1
              have hk := hf.2
              cases f with
              | cell b i kk v =>
                simp only [forgetFx, Bool.and_eq_true, Nat.ble_eq] at hk
                obtain ⟨n, sz, c, e, fr, m, j, k1, k2, k3, k4, k5⟩ := h0
                exact ⟨n, sz, c, e, fr, m, j, bare_b (by omega) k1, by rw [hsame b n sz hk.1 hk.2 k1]; exact k2, k3, k4, k5⟩
              | iter b l k => simp [forgetFx] at hk
              | rd k' x' v' =>
                obtain ⟨a', b', n0', ns', sz', r1, r2, r3, r4, r5, r6⟩ := h0
                refine ⟨a', b', n0', ns', sz', r1, r2, bare_b (by omega) r3, r4, fun i p hp => ?_, r6⟩
                obtain ⟨⟨sz2, r7⟩, r8⟩ := r5 i p hp
                have hi : i < 6 := by have := (List.getElem?_eq_some_iff.1 hp).1; omega
                exact ⟨⟨sz2, bare_b (by omega) r7⟩, by rw [hsame (i + 1) p.1 sz2 (by omega) (by omega) r7]; exact r8⟩
              | _ => exact h0
          split at hk
          · rename_i outs2 ho2
            rw [List.all_eq_true] at hk
            obtain ⟨_, _, hcall2⟩ := (exec_sound hX 400).2 (roN p.2) ⟨w2, [], fun _ => none⟩ σ1.bare (forget p.2) w2 (fnK k) (argsK k x) (valsK k n0 a1 a) outs2 (fun e w' => e = .returned (.int .u8 b) ∧ Grown w2 w') ho2 Rf
              (satArgs (Num.den_mono l1 hx) (bare_b (by omega) h01) (bare_b (by omega) t1)) (by
                intro q hq σ3 w3 e3 l3 R3 hc3
                have hk3 := hk q hq
                split at hk3
                · rename_i v' hv'
                  simp only [decide_eq_true_eq] at hk3
                  subst hk3
                  rw [hv'] at hc3
                  obtain ⟨V3, s3, rfl⟩ := hc3
                  simp only [Sat] at s3
                  obtain ⟨b', hb', rfl⟩ := s3
                  have := Num.den_mono l3 (show v'.den σ1.bare = some b from hb)
                  rw [this] at hb'; cases hb'
                  exact ⟨rfl, R3.size, fun n hn => R3.frame n hn (by simp), R3.sz.os, R3.sz.out⟩
                · cases hk3)
            rw [hP] at hcall2
            cases k <;> exact hcall2
          · cases hk
      · cases hk)
    rw [hP] at hcf hcall
    exact ⟨hcf, hcall⟩
  · cases h
end
end Go.Proofs.YtgkoghgiclkbhaaGreatDoor.Sx
namespace Go.Proofs.YtgkoghgiclkbhaaGreatDoor.Sx
open Go
noncomputable section
set_option linter.unusedVariables false
set_option linter.unusedSimpArgs false

theorem Rel.anyRo {ro ro' : Nat → Bool} {g : Gh} {σ : Env} {H : AH} {w : World} (R : Rel ro g σ H w) (h : ∀ b, ro' b = true → H.nb ≤ b) : Rel ro' g σ H w :=
  ⟨R.nlen, R.rng, R.lts, R.blen, R.blk, R.inj, R.imm, R.immd, R.frame, R.sz, fun b n sz hb hq => by
    have h1 := h b hb
    have h2 := (List.getElem?_eq_some_iff.1 hq).1
    rw [R.blen] at h2
    omega, R.bnd, R.immo, R.fx⟩
/-- From a machine, wherever: what is read is fixed. -/
def Stab (k : Bool) (JR : AH) : Prop :=
  ∀ (w : World) (imm : Imm) (τ : Env), Rel (roN JR) ⟨w, [], imm⟩ τ JR w → imm.le τ.imm → ∀ (a : Int), τ.n[9]? = some a → ∀ (n0 sz0 n1 sz1 : Nat), τ.b[0]? = some (some (n0, sz0)) → τ.b[1]? = some (some (n1, sz1)) →
    Calls Tryz.prog (fnK k) ⟨valsK k n0 n1 a⟩ w fun e w1 => ∃ b, e = .returned (.int .u8 b) ∧ Grown w w1 ∧
      (∃ imm' : Imm, imm.le imm' ∧ (∀ m o, imm' m = some o → w1.heap[m]? = some o) ∧ (∀ m o, imm' m = some o → m < w.heap.size → imm m = some o)) ∧
      ∃ ns : List (Nat × Obj), ns.length = 6 ∧ (∀ (i : Nat) (p : Nat × Obj), ns[i]? = some p → (∃ sz, τ.b[i + 1]? = some (some (p.1, sz))) ∧ w1.heap[p.1]? = some p.2) ∧ RdOk k n0 sz0 ns a b
/-- One class of numbers. -/
def stCls (X : Env1) (k : Bool) (J0 : AH) (c : (Int × Int) × (Int × Int)) : Bool :=
  match J0.tight2 ⟨some 10, 0⟩ c.1.1 c.1.2 ⟨some 9, 0⟩ c.2.1 c.2.2 with
  | some H => Nat.beq H.nb 7 && stRun X k ⟨some 9, 0⟩ H
  | none => true
theorem stab_of {X : Env1} (hX : X.Ok) (hP : X.P = Tryz.prog) {k : Bool} {JR : AH} {cl : List (Nat × Nat)} {cs : List ((Int × Int) × (Int × Int))}
    (h7 : JR.nb = 7) {klo khi alo ahi : Int} (hk : ((openCells JR cl).setFm true).rng.get 10 = some (klo, khi)) (ha : ((openCells JR cl).setFm true).rng.get 9 = some (alo, ahi)) (hnb : (openCells JR cl).nb = 7)
    (hcov : ∀ kv av : Int, klo ≤ kv → kv ≤ khi → alo ≤ av → av ≤ ahi → ∃ c ∈ cs, c.1.1 ≤ kv ∧ kv ≤ c.1.2 ∧ c.2.1 ≤ av ∧ av ≤ c.2.2)
    (hc : ∀ c ∈ cs, stCls X k ((openCells JR cl).setFm true) c = true) : Stab k JR := by
  intro w imm τ R himm a hta n0 sz0 n1 sz1 h0 h1
  obtain ⟨σ1, l1, R1⟩ := R.openCells cl
  have R1 := R1.setFm true
  obtain ⟨kv, hkv, hk1, hk2⟩ := R1.rng _ _ hk
  obtain ⟨av, hav, ha1, ha2⟩ := R1.rng _ _ ha
  have hta' := prefix_get l1.n hta
  rw [hav] at hta'; cases hta'
  obtain ⟨c, hcm, c1, c2, c3, c4⟩ := hcov kv a hk1 hk2 ha1 ha2
  have d1 : (⟨some 10, 0⟩ : Num).den σ1 = some kv := by simp [Num.den, hkv]
  have d2 : (⟨some 9, 0⟩ : Num).den σ1 = some a := by simp [Num.den, hav]
  obtain ⟨H', e1, s1, R2⟩ := R1.tight2 d1 c1 c2 d2 c3 c4
  have hchk := hc c hcm
  unfold stCls at hchk
  rw [e1] at hchk
  simp only [Bool.and_eq_true, Nat.beq_eq] at hchk
  have R3 : Rel (roN H') ⟨w, [], imm⟩ σ1 H' w := R2.anyRo fun b hb => by unfold roN at hb; rwa [Nat.ble_eq] at hb
  have hres := (stRun_ok hX hP hchk.2 R3 (fun m o h => l1.imm m o (himm m o h)) d2 (prefix_get l1.b h0) (prefix_get l1.b h1)).2
  refine hres.mono ?_
  rintro e w1 ⟨b, q1, q2, q3, ns, q4, q5, q6⟩
  refine ⟨b, q1, q2, q3, ns, q4, fun i p hp => ⟨?_, (q5 i p hp).2⟩, q6⟩
  obtain ⟨sz, hq⟩ := (q5 i p hp).1
  have hi : i < 6 := by have := (List.getElem?_eq_some_iff.1 hp).1; omega
  have hlt : i + 1 < τ.b.length := by rw [R.blen, h7]; omega
  have e3 := List.getElem?_eq_getElem hlt
  have e2 := prefix_get l1.b e3
  rw [hq] at e2
  exact ⟨sz, e3.trans e2.symm⟩
def machOk (H : AH) : Bool := match H.hp.get 0 with
  | some ab => decide (ab.e = 68) && Nat.ble 203 ab.n && (match ab.t.get 0 with | some (.ptr 1 0) => true | _ => false) && (match ab.t.get 1 with | some (.ptr 2 0) => true | _ => false)
  | none => false
def findRd (k : Bool) (x : Num) : List Fx → Option Num
  | [] => none
  | .rd k' x' v :: l => bif decide (k' = k) && decide (x' = x) then some v else findRd k x l
  | _ :: l => findRd k x l
theorem findRd_mem {k : Bool} {x v : Num} : ∀ {l : List Fx}, findRd k x l = some v → Fx.rd k x v ∈ l := by
  intro l
  fun_induction findRd k x l with
  | case1 => intro h; cases h
  | case2 k' x' v' l hc =>
    intro h
    simp only [Bool.and_eq_true, decide_eq_true_eq] at hc
    obtain ⟨rfl, rfl⟩ := hc
    cases h; exact List.mem_cons_self ..
  | case3 k' x' v' l hc ih => intro h; exact List.mem_cons_of_mem _ (ih h)
  | case4 _ _ _ ih => intro h; exact List.mem_cons_of_mem _ (ih h)
/-- The machine beside what is asked. -/
def argsH (k : Bool) (x : Num) : List AV := argsK k x ++ [.ptr 0 0]
def hookK (k : Bool) (JR : AH) : Call1 := fun ro H f args =>
  bif Nat.beq f (fnK k) then
    match args with
    | [.ptr b0 0, .int .u16 x] => bif Nat.beq b0 (bif k then 0 else 1) && machOk H then
        (match findRd k (H.norm x) H.fx with
          | some v => some [(.ret (.int .u8 v), H)]
          | none =>
            bif H.fm && Nat.beq (rbOf ⟨argsF 0 (argsH k ⟨some 9, 0⟩), JR⟩ ⟨argsF 0 (argsH k (H.norm x)), H⟩ 0 0).N 0 && Nat.beq (rbOf ⟨argsF 0 (argsH k ⟨some 9, 0⟩), JR⟩ ⟨argsF 0 (argsH k (H.norm x)), H⟩ 0 0).NB 0 &&
                decide ((rbOf ⟨argsF 0 (argsH k ⟨some 9, 0⟩), JR⟩ ⟨argsF 0 (argsH k (H.norm x)), H⟩ 0 0).bm = [0, 1, 2, 3, 4, 5, 6]) &&
                reSt (fun _ => true) (rbOf ⟨argsF 0 (argsH k ⟨some 9, 0⟩), JR⟩ ⟨argsF 0 (argsH k (H.norm x)), H⟩ 0 0) ⟨argsF 0 (argsH k (H.norm x)), H⟩ ⟨argsF 0 (argsH k ⟨some 9, 0⟩), JR⟩ then
              some [(.ret (.int .u8 ⟨some H.nn, 0⟩), (H.fresh 0 255).addFx (.rd k (H.norm x) ⟨some H.nn, 0⟩))]
            else none) else none
    | _ => none
  else none
theorem machAt_of {ro : Nat → Bool} {g : Gh} {σ : Env} {H : AH} {w : World} (R : Rel ro g σ H w) (h : machOk H = true) :
    ∃ n0 sz0 n1 sz1 n2 sz2, σ.b[0]? = some (some (n0, sz0)) ∧ σ.b[1]? = some (some (n1, sz1)) ∧ σ.b[2]? = some (some (n2, sz2)) ∧ MachAt w n0 sz0 n1 n2 := by
  unfold machOk at h
  split at h
  · rename_i ab hab
    simp only [Bool.and_eq_true, decide_eq_true_eq, Nat.ble_eq] at h
    obtain ⟨⟨⟨he, hn⟩, hp0⟩, hp1⟩ := h
    obtain ⟨n0, sz0, k1, c, k2, k3, k4, k5⟩ := R.blk 0 ab hab
    have g0 : c[0]? = some (c[0]'(by omega)) := Array.getElem?_eq_getElem (by omega)
    have g1 : c[1]? = some (c[1]'(by omega)) := Array.getElem?_eq_getElem (by omega)
    have s0 := k5 0 _ g0
    have s1 := k5 1 _ g1
    unfold CellOk at s0 s1
    split at hp0
    · rename_i hc0
      rw [hc0] at s0
      split at hp1
      · rename_i hc1
        rw [hc1] at s1
        simp only [Sat] at s0 s1
        obtain ⟨n1, sz1, u1, u2⟩ := s0
        obtain ⟨n2, sz2, v1, v2⟩ := s1
        exact ⟨n0, sz0, n1, sz1, n2, sz2, k1, u1, v1, c, by rw [← he]; exact k2, k3, by omega, by rw [g0, u2], by rw [g1, v2]⟩
      · cases hp1
    · cases hp0
  · cases h
theorem hookK_ok {k : Bool} {JR : AH} (hS : Stab k JR) (h7 : JR.nb = 7) {fi : FnI} (hfn : FnOk Tryz.prog (fnK k) fi) : CallOk Tryz.prog (hookK k JR) := by
  intro ro g σ H w f args vs outs Q h R hs hQ
  unfold hookK at h
  rw [cond_eq_ite] at h
  split at h
  · rename_i hf
    rw [Nat.beq_eq] at hf
    subst hf
    split at h
    · rename_i b0 x
      rw [cond_eq_ite] at h
      split at h
      · rename_i hc
        rw [Bool.and_eq_true, Nat.beq_eq] at hc
        obtain ⟨rfl, hma⟩ := hc
        obtain ⟨n0, sz0, n1, sz1, n2, sz2, b0, b1, b2, hmach⟩ := machAt_of R hma
        simp only [SatL] at hs
        obtain ⟨v0, _, rfl, s0, v1, _, rfl, s1, rfl⟩ := hs
        simp only [Sat] at s0 s1
        obtain ⟨m, msz, hm1, rfl⟩ := s0
        obtain ⟨a, hxa, rfl⟩ := s1
        have hm : m = bif k then n0 else n1 := by
          cases k
          · simp only [cond_false] at hm1 ⊢; rw [b1] at hm1; cases hm1; rfl
          · simp only [cond_true] at hm1 ⊢; rw [b0] at hm1; cases hm1; rfl
        subst hm
        have hxn := R.norm hxa
        refine ⟨true, fun w1 => callFunc_run hfn _ w1, ?_⟩
        split at h
        · rename_i v hv
          cases h
          obtain ⟨a', b, m0, ns, msz0, q1, q2, q3, q4, q5, hr1, hr2, hr3⟩ := R.fx _ (findRd_mem hv)
          rw [hxn] at q1; cases q1
          rw [b0] at q3; cases q3
          have ns0 : (ns[0]?).map (·.1) = some n1 := by
            have hlt : 0 < ns.length := by omega
            obtain ⟨⟨s, hs⟩, _⟩ := q5 0 ns[0] (List.getElem?_eq_getElem hlt)
            rw [b1] at hs
            simp only [List.getElem?_eq_getElem hlt, Option.map_some]
            simp at hs; rw [hs.1]
          have ns1 : (ns[1]?).map (·.1) = some n2 := by
            have hlt : 1 < ns.length := by omega
            obtain ⟨⟨s, hs⟩, _⟩ := q5 1 ns[1] (List.getElem?_eq_getElem hlt)
            rw [b2] at hs
            simp only [List.getElem?_eq_getElem hlt, Option.map_some]
            simp at hs; rw [hs.1]
          refine (hr3 w n1 n2 ns0 ns1 (fun p hp => by
            obtain ⟨i, hi, he⟩ := List.getElem_of_mem hp
            have := (q5 i p (by rw [List.getElem?_eq_getElem hi, he])).2
            exact this) hmach).mono ?_
          rintro e w' ⟨rfl, hg⟩
          obtain ⟨R2, l2⟩ := R.grown hg (fun _ _ h => h) (fun b o h => by rw [hg.2.1 b (R.imm_lt h)]; exact R.imm b o h) (fun b o h _ => h)
          exact hQ _ (List.mem_singleton.2 rfl) _ w' _ l2 R2 ⟨_, by simp only [Sat]; exact ⟨b, Num.den_mono l2 q2, rfl⟩, rfl⟩
        · rw [cond_eq_ite] at h
          split at h
          · rename_i hc
            simp only [Bool.and_eq_true, Nat.beq_eq, decide_eq_true_eq] at hc
            obtain ⟨⟨⟨⟨_, hN⟩, hNB⟩, hbm⟩, hre⟩ := hc
            cases h
            generalize rbOf ⟨argsF 0 (argsH k ⟨some 9, 0⟩), JR⟩ ⟨argsF 0 (argsH k (H.norm x)), H⟩ 0 0 = B at *
            have hsat : SatL σ (argsH k (H.norm x)) (valsK k n0 n1 a ++ [.pointer (some ⟨n0, 0, none⟩)]) :=
              SatL.append (satArgs hxn b0 b1) (by simp only [SatL, Sat]; exact ⟨_, _, rfl, ⟨n0, sz0, b0, rfl⟩, rfl⟩)
            have hf : Fr 3 [] σ (argsF 0 (argsH k (H.norm x))) { tmps := ⟨valsK k n0 n1 a ++ [.pointer (some ⟨n0, 0, none⟩)]⟩, defers := [] } := ⟨fun i av hi => by
              obtain ⟨v, _, e2, e3⟩ := argsF_ok (argsH k (H.norm x)) (valsK k n0 n1 a ++ [.pointer (some ⟨n0, 0, none⟩)]) 0 hsat i av hi
              rw [Nat.sub_zero] at e2
              exact ⟨v, by simpa using e2, e3⟩, rfl, rfl⟩
            obtain ⟨τ, hmp, R1, f1, _⟩ := reSt_sound hre R.self hf
            have hb : ∀ i q, i < 7 → σ.b[i]? = some q → τ.b[i]? = some q := by
              intro i q hi hq
              have : B.bm[i]? = some i := by
                rw [hbm]
                have : i = 0 ∨ i = 1 ∨ i = 2 ∨ i = 3 ∨ i = 4 ∨ i = 5 ∨ i = 6 := by omega
                rcases this with rfl | rfl | rfl | rfl | rfl | rfl | rfl <;> rfl
              have := hmp.bm i i q this hq
              rwa [hNB, Nat.zero_add] at this
            have hb' : ∀ (i : Nat) (q : Option (Nat × Nat)), i < 7 → τ.b[i]? = some q → σ.b[i]? = some q := by
              intro i q hi hq
              have hre2 := hre
              unfold reSt at hre2
              simp only [Bool.and_eq_true, List.all_eq_true, Nat.blt_eq] at hre2
              have h11 := hre2.2
              have hmem : i ∈ B.bm := by
                rw [hbm]
                have : i = 0 ∨ i = 1 ∨ i = 2 ∨ i = 3 ∨ i = 4 ∨ i = 5 ∨ i = 6 := by omega
                rcases this with rfl | rfl | rfl | rfl | rfl | rfl | rfl <;> simp
              have hlt : i < σ.b.length := by rw [R.blen]; exact (h11 i hmem).1.2
              have e1 := hb i _ hi (List.getElem?_eq_getElem hlt)
              rw [hq] at e1; cases e1
              exact List.getElem?_eq_getElem hlt
            have Rin : Rel (roN JR) ⟨w, [], σ.imm⟩ τ JR w := by
              have R1' : Rel (fun _ => true) ⟨w, addrs σ, σ.imm⟩ τ JR w := R1
              refine ⟨R1'.nlen, R1'.rng, R1'.lts, R1'.blen, R1'.blk, R1'.inj, R1'.imm, R1'.immd, fun _ _ _ => rfl, SzOk.refl _, fun b n sz hb hq => ?_, R1'.bnd, fun m o h _ _ => by rw [hmp.imm] at h; exact h, R1'.fx⟩
              unfold roN at hb
              rw [Nat.ble_eq] at hb
              have h2 := (List.getElem?_eq_some_iff.1 hq).1
              rw [R1'.blen] at h2
              omega
            have hta : τ.n[9]? = some a := by
              obtain ⟨v, e1, e2⟩ := f1.ok 1 (.int .u16 ⟨some 9, 0⟩) (by
                have := argsF_get (argsH k ⟨some 9, 0⟩) 0 (by simp [argsH, argsK]) 1 (.int .u16 ⟨some 9, 0⟩) rfl
                exact this)
              simp [valsK] at e1
              subst e1
              simp only [Sat] at e2
              obtain ⟨n, h1, h2⟩ := e2
              cases h2
              simp only [Num.den, Option.map_eq_some_iff] at h1
              obtain ⟨q, hq, he⟩ := h1
              have : q = a := by omega
              rw [this] at hq; exact hq
            refine (hS w σ.imm τ Rin (by rw [hmp.imm]; exact fun _ _ h => h) a hta n0 sz0 n1 sz1 (hb 0 _ (by omega) b0) (hb 1 _ (by omega) b1)).mono ?_
            rintro e w1 ⟨b, rfl, hg, ⟨imm', i1, i2, i3⟩, ns, q4, q5, q6⟩
            obtain ⟨R2, l2⟩ := R.grown hg i1 i2 i3
            have R3 := R2.fresh (lo := 0) (hi := 255) q6.1 q6.2.1
            have l3 := l2.trans (({ σ with imm := imm' } : Env).le_more b)
            have hd := R2.fresh_den b
            have R4 := R3.addFx (f := .rd k (H.norm x) ⟨some H.nn, 0⟩) ⟨a, b, n0, ns, sz0, Num.den_mono l3 hxn, hd, prefix_get l3.b b0, q4, fun i p hp => ⟨by
              obtain ⟨sz, hq⟩ := (q5 i p hp).1
              have hi : i < 6 := by have := (List.getElem?_eq_some_iff.1 hp).1; omega
              exact ⟨sz, prefix_get l3.b (hb' (i + 1) _ (by omega) hq)⟩, (q5 i p hp).2⟩, q6⟩
            exact hQ _ (List.mem_singleton.2 rfl) _ w1 _ l3 R4 ⟨_, by simp only [Sat]; exact ⟨b, hd, rfl⟩, rfl⟩
          · cases h
      · cases h
    · cases h
  · cases h
end
end Go.Proofs.YtgkoghgiclkbhaaGreatDoor.Sx
namespace Go.Proofs.YtgkoghgiclkbhaaGreatDoor.Sx
open Go
noncomputable section
set_option linter.unusedVariables false
def insMC (c : AX × St → AX × St → Bool) (p : AX × St) : Outs → Outs
  | [] => [p]
  | q :: r => bif sameX q.1 p.1 && c q p then (match jst q.2 p.2 with
      | (J, f1, f2) => bif (leSt q.2 J f1 && leSt p.2 J f2) && refOk q.2.F p.2.F J.F then (q.1, J) :: r else q :: insMC c p r)
    else q :: insMC c p r
def mrgC (c : AX × St → AX × St → Bool) (l : Outs) : Outs := l.foldl (fun acc p => insMC c p acc) []
theorem insMC_old {c : AX × St → AX × St → Bool} {p : AX × St} : ∀ {l : Outs}, ∀ q ∈ l, ∃ q' ∈ insMC c p l, q'.1 = q.1 ∧ LeS q.2 q'.2
  | [], q, h => by cases h
  | x :: r, q, h => by
    have old : q ∈ r → ∃ q' ∈ insMC c p r, q'.1 = q.1 ∧ LeS q.2 q'.2 := fun h => insMC_old q h
    have keep : ∃ q' ∈ x :: insMC c p r, q'.1 = q.1 ∧ LeS q.2 q'.2 := by
      rcases List.mem_cons.1 h with rfl | h
      · exact ⟨_, List.mem_cons_self .., rfl, .refl _⟩
      · obtain ⟨q', h1, h2⟩ := old h; exact ⟨q', List.mem_cons_of_mem _ h1, h2⟩
    simp only [insMC, cond_eq_ite, Bool.and_eq_true]
    split
    · split
      · rename_i hc
        rcases List.mem_cons.1 h with rfl | h
        · exact ⟨_, List.mem_cons_self .., rfl, leSt_sound hc.1.1⟩
        · exact ⟨q, List.mem_cons_of_mem _ h, rfl, .refl _⟩
      · exact keep
    · exact keep
theorem insMC_new {c : AX × St → AX × St → Bool} {p : AX × St} : ∀ {l : Outs}, ∃ q' ∈ insMC c p l, q'.1 = p.1 ∧ LeS p.2 q'.2
  | [] => ⟨p, List.mem_singleton.2 rfl, rfl, .refl _⟩
  | x :: r => by
    have rest : ∃ q' ∈ x :: insMC c p r, q'.1 = p.1 ∧ LeS p.2 q'.2 := by
      obtain ⟨q', h1, h2⟩ := insMC_new (p := p) (l := r); exact ⟨q', List.mem_cons_of_mem _ h1, h2⟩
    simp only [insMC, cond_eq_ite, Bool.and_eq_true]
    split
    · rename_i hx
      split
      · rename_i hc
        exact ⟨_, List.mem_cons_self .., sameX_eq hx.1, leSt_sound hc.1.2⟩
      · exact rest
    · exact rest
theorem foldMC {c : AX × St → AX × St → Bool} {l : Outs} : ∀ (acc : Outs), (∀ q ∈ acc, ∃ q' ∈ l.foldl (fun acc p => insMC c p acc) acc, q'.1 = q.1 ∧ LeS q.2 q'.2) ∧ (∀ p ∈ l, ∃ q' ∈ l.foldl (fun acc p => insMC c p acc) acc, q'.1 = p.1 ∧ LeS p.2 q'.2) := by
  induction l with
  | nil => intro acc; exact ⟨fun q hq => ⟨q, hq, rfl, .refl _⟩, fun p hp => by cases hp⟩
  | cons x r ih =>
    intro acc
    obtain ⟨h1, h2⟩ := ih (insMC c x acc)
    simp only [List.foldl_cons]
    refine ⟨fun q hq => ?_, fun p hp => ?_⟩
    · obtain ⟨q1, m1, e1, l1⟩ := insMC_old (p := x) q hq
      obtain ⟨q2, m2, e2, l2⟩ := h1 q1 m1
      exact ⟨q2, m2, e2.trans e1, l1.trans l2⟩
    · rcases List.mem_cons.1 hp with rfl | hp
      · obtain ⟨q1, m1, e1, l1⟩ := insMC_new (p := p) (l := acc)
        obtain ⟨q2, m2, e2, l2⟩ := h1 q1 m1
        exact ⟨q2, m2, e2.trans e1, l1.trans l2⟩
      · exact h2 p hp
theorem mrgC_ok (c : AX × St → AX × St → Bool) (l : Outs) : ∀ p ∈ l, ∃ q ∈ mrgC c l, q.1 = p.1 ∧ LeS p.2 q.2 := (foldMC []).2

def orHook (a b : Call1) : Call1 := fun ro H f args => match a ro H f args with
  | some o => some o
  | none => b ro H f args
theorem orHook_ok {P : Program} {a b : Call1} (ha : CallOk P a) (hb : CallOk P b) : CallOk P (orHook a b) := by
  intro ro g σ H w f args vs outs R h
  unfold orHook at h
  split at h
  · rename_i o ho; cases h; exact ha ro g σ H w f args vs _ R ho
  · exact hb ro g σ H w f args vs outs R h
/-- Only where the place may be anywhere. -/
def anyPlace (a : Call1) : Call1 := fun ro H f args => match args with
  | [.ptr 0 0, .int .u16 x] => (match H.range (H.norm x) with
    | some (lo, hi) => bif decide (lo = 0) && decide (hi = 65535) then a ro H f args else none
    | none => none)
  | _ => none
theorem anyPlace_ok {P : Program} {a : Call1} (ha : CallOk P a) : CallOk P (anyPlace a) := by
  intro ro g σ H w f args vs outs R h
  unfold anyPlace at h
  split at h
  · split at h
    · rw [cond_eq_ite] at h
      split at h
      · exact ha ro g σ H w f _ vs outs R h
      · cases h
    · cases h
  · cases h
/-- Reading below e000 (k) or the cartridge anywhere. -/
def JRd : AH := JM (dmaS 4) cAny (catR [dmaR, [(0, 57343)]]) [] false
def JRc1 : AH := JM (dmaS 4) cAny (catR [dmaR, [(0, 32767)]]) [] false
def JRc2 : AH := JM (dmaS 4) cAny (catR [dmaR, [(40960, 49151)]]) [] false
def hcC : Call1 := orHook (hookK false JRc1) (hookK false JRc2)
def hcL : Call1 := orHook (hookK true JRd) (orHook (anyPlace (hookM mcRead)) (orHook (hookM mcAct) (hookM mcOthers)))
def inSh : List Sh := [u8, bo, bo, bo]
def frL (last src : AV) : Tr AV := setL .leaf 4 [.bool (.c false), .ptr 0 0, .int .i64 (cNum 0), .osl inSh ⟨some 9, 0⟩, last, src, nm .i64 10]
def JL (dma : List AV) (at' : Int × Int) (more : List (Int × Int)) (fx : List Fx) (last src : AV) : St :=
  ⟨frL last src, JM dma cAny (catR [[(0, 1), (0, 255), at', (0, 255), (0, 255), (0, 3000), (0, 3000)], more]) fx true⟩
def offD : List AV := [.bool (.c false), nm .u8 5, nm .u8 6, nm .u8 7, nm .u8 8]
def newD : List AV := [.bool (.c true), nm .u8 5, .int .u8 (cNum 0), nm .u8 7, nm .u8 5]
def onD : List AV := [.bool (.c true), nm .u8 5, nm .u8 6, nm .u8 7, nm .u8 8]
def pgF : List Fx := [.op .or .u16 ⟨some 13, 0⟩ ⟨some 6, 0⟩ ⟨some 14, 0⟩, .op .mul .u16 ⟨some 5, 0⟩ ⟨none, 256⟩ ⟨some 13, 0⟩]
def lawJ0 : St := JL offD (0, 255) [(-1, -1), (0, 65535)] [] (nm .i64 11) (nm .u16 12)
def lawJ1 : St := JL offD (0, 255) [(159, 159), (0, 65535)] [] (nm .i64 11) (nm .u16 12)
def lawJ2 : St := JL newD (0, 255) [(-1, 159), (0, 65535)] [] (nm .i64 11) (nm .u16 12)
def lawJ3 : St := JL onD (1, 159) [(0, 0), (0, 0), (0, 57343), (1, 57247)] pgF (.int .i64 ⟨some 6, -1⟩) (.int .u16 ⟨some 14, -1⟩)
def lawJ4 : St := JL onD (1, 159) [(0, 0), (0, 0), (57344, 65280), (57345, 65439)] pgF (.int .i64 ⟨some 6, -1⟩) (.int .u16 ⟨some 14, -8193⟩)
/-- The states at the loop's head: no transfer, and the last byte was none, or the last one; one begins; one goes on, from a low page or from a high one. -/
def lawJs : List St := [lawJ0, lawJ1, lawJ2, lawJ3, lawJ4]
def loopBody : Code → Option Code
  | .loop b => some b
  | .seq a b => (match loopBody a with
    | some x => some x
    | none => loopBody b)
  | .block _ b => loopBody b
  | _ => none
def mrgLaw (f : FuncId) (l : Outs) : Outs := bif Nat.beq f 8 then
    (bif l.all (fun p => (p.2.F.get 98).isNone) then mrgIf 1 (l.map fun p => bif (p.2.F.get 90).isSome then clearS [5, 6] p else p) else l) else l
theorem mrgLaw_ok (f : FuncId) (l : Outs) : ∀ p ∈ l, ∃ q ∈ mrgLaw f l, q.1 = p.1 ∧ LeS p.2 q.2 := by
  intro p hp
  unfold mrgLaw
  rw [cond_eq_ite]
  split
  · rw [cond_eq_ite]
    split
    · have : (if (p.2.F.get 90).isSome = true then clearS [5, 6] p else p).1 = p.1 ∧ LeS p.2 (if (p.2.F.get 90).isSome = true then clearS [5, 6] p else p).2 := by
        split
        · exact clearS_ok _ p
        · exact ⟨rfl, .refl _⟩
      obtain ⟨q, hq, e1, l1⟩ := mrgIf_ok 1 (l.map fun p => bif (p.2.F.get 90).isSome then clearS [5, 6] p else p) _ (List.mem_map.2 ⟨p, hp, rfl⟩)
      rw [cond_eq_ite] at e1 l1
      exact ⟨q, hq, e1.trans this.1, this.2.trans l1⟩
    · exact ⟨p, hp, rfl, .refl _⟩
  · exact ⟨p, hp, rfl, .refl _⟩
/-- No transfer begins. -/
def notNew (p : AX × St) : Bool := match p.2.H.hp.get 0 with
  | some ab => (match ab.t.get 44 with
    | some (.int _ ⟨none, _⟩) => false
    | _ => true)
  | none => true
/-- Where no transfer begins it is of no account from which page one would be. -/
def mrgLawS (f : FuncId) (l : Outs) : Outs := bif Nat.beq f 3 then
    (bif Nat.ble 2 l.length && l.all (fun p => (p.2.F.get 42).isSome && (p.2.F.get 47).isNone && notNew p) then mrgK [4, 5, 6, 7, 8, 9, 10, 11] 1 l else l) else mrgLaw f l
theorem mrgLawS_ok (f : FuncId) (l : Outs) : ∀ p ∈ l, ∃ q ∈ mrgLawS f l, q.1 = p.1 ∧ LeS p.2 q.2 := by
  intro p hp
  unfold mrgLawS
  rw [cond_eq_ite]
  split
  · rw [cond_eq_ite]
    split
    · exact mrgK_ok _ _ l p hp
    · exact ⟨p, hp, rfl, .refl _⟩
  · exact mrgLaw_ok f l p hp
/-- The same answer of a transfer's step: it goes on at the same place, or not. -/
def sameAV : AV → AV → Bool
  | .bool (.c a), .bool (.c b) => a == b
  | .int _ x, .int _ y => decide (x = y)
  | _, _ => false
def sameD (p q : AX × St) : Bool := match p.2.F.get 0, q.2.F.get 0 with
  | some (.tup (.agg (a :: b :: c :: _) :: _)), some (.tup (.agg (a' :: b' :: c' :: _) :: _)) => sameAV a a' && sameAV b b' && sameAV c c'
  | _, _ => false
def mrrLaw (f : FuncId) (l : Outs) : Outs := bif Nat.beq f 20 then mrgC sameD l else l
theorem mrrLaw_ok (f : FuncId) (l : Outs) : ∀ p ∈ l, ∃ q ∈ mrrLaw f l, q.1 = p.1 ∧ LeS p.2 q.2 := by
  intro p hp
  unfold mrrLaw
  rw [cond_eq_ite]
  split
  · exact mrgC_ok sameD l p hp
  · exact ⟨p, hp, rfl, .refl _⟩
/-- A round from J ends in one of the states, or leaves. -/
def lawChk (X : Env1) (body : Code) (J : St) : Bool :=
  match exec X 400 3 (fun _ => true) 105 body J with
  | some l => jChk (fun _ => true) 7 10 lawJs l && (exits l).all fun p => (match p.1 with | .exit i => Nat.beq i 0 | _ => false)
  | none => false
end
end Go.Proofs.YtgkoghgiclkbhaaGreatDoor.Sx
namespace Go.Proofs.YtgkoghgiclkbhaaGreatDoor.Sx
open Go
noncomputable section
set_option linter.unusedVariables false
set_option linter.unusedSimpArgs false
def Env.base (i : Imm) : Env := ⟨[], [], i⟩
theorem Env.base_le {i : Imm} {σ : Env} (h : Imm.le i σ.imm) : (Env.base i).le σ := ⟨List.nil_prefix, List.nil_prefix, h⟩
theorem Imm.le_trans {i j k : Imm} (h : Imm.le i j) (h' : Imm.le j k) : Imm.le i k := fun b o hb => h' b o (h b o hb)
theorem roundsI {ks : List Nat} {ro : Nat → Bool} {g : Gh} {nt : Nat} {d : List Deferred} {P : Program} {body : Code} {f : St → Option Outs} {imm0 : Imm}
    (ih : ∀ S outs, f S = some outs → ∀ σ a w (Q : Exit → Act → World → Prop), PF ks Q → Rel ro g σ S.H w → Fr nt d σ S.F a → GoodQ nt d ro g σ outs Q → body.wp P Q a w)
    {Q : Exit → Act → World → Prop} (hQ : PF ks Q) {Js : List St} {NB i : Nat} {hi : Int} (hb : ∀ J ∈ Js, ∃ l, f J = some l ∧ jChk ro NB i Js l = true ∧ GoodQ nt d ro g (Env.base imm0) (exits l) Q)
    (hr : ∀ J ∈ Js, ∃ lo, J.H.rng.get i = some (lo, hi)) :
    ∀ (m : Nat) (J : St) (σ : Env) (a : Act) (w : World) (n : Int), J ∈ Js → Imm.le imm0 σ.imm → Rel ro g σ J.H w → Fr nt d σ J.F a → σ.n[i]? = some n → hi - n < m → Unr P body Q (m + 1) a w := by
  intro m
  induction m with
  | zero =>
    intro J σ a w n hJ hi0 R hf hn hm
    obtain ⟨lo, hr⟩ := hr J hJ
    obtain ⟨n', e1, e2, e3⟩ := R.rng _ _ hr
    rw [hn] at e1; cases e1
    simp only [] at e3; omega
  | succ m ihm =>
    intro J σ a w n hJ hi0 R hf hn hm
    obtain ⟨l, hl, hc, hq⟩ := hb J hJ
    simp only [jChk, List.all_eq_true, List.any_eq_true, Bool.and_eq_true, Nat.beq_eq] at hc
    refine ih J l hl σ a w _ hQ.then R hf fun p hp σ' a' w' e l1 R1 f1 x1 => ?_
    by_cases hnorm : p.1 = .normal
    · rw [hnorm] at x1
      simp only [XOk] at x1
      subst x1
      obtain ⟨J', hJ', ⟨b1, b3⟩, b4⟩ := hc p.2 (normals_mem hp hnorm)
      obtain ⟨τ, hm', R2, f2, _⟩ := reSt_sound b3 R1 f1
      obtain ⟨lo', hr'⟩ := hr J' hJ'
      unfold msrOk at b4
      simp only [Nat.zero_add] at b4
      split at b4
      · rename_i x hx
        have key : ∃ n', x.den σ' = some n' ∧ n < n' := by
          simp only [Bool.or_eq_true, Bool.and_eq_true, decide_eq_true_eq] at b4
          rcases b4 with ⟨c1, c2⟩ | b4
          · exact ⟨n + x.c, by simp only [Num.den, c1, prefix_get l1.n hn, Option.map_some], by omega⟩
          · split at b4
            · rename_i q r hq hr'
              simp only [decide_eq_true_eq] at b4
              obtain ⟨n', hn'⟩ := R1.range_den hq
              have h1 := R1.range hn' hq
              obtain ⟨m1, e1, e2, e3⟩ := R1.rng _ _ hr'
              rw [prefix_get l1.n hn] at e1; cases e1
              exact ⟨n', hn', by omega⟩
            · cases b4
        obtain ⟨n', hd, hlt⟩ := key
        have := hm'.fm i _ _ hx (show (MV.num x).den σ' = some n' from hd)
        rw [b1, Nat.zero_add] at this
        exact ihm J' τ a' w' n' hJ' (by rw [hm'.imm]; exact Imm.le_trans hi0 l1.imm) R2 f2 this (by omega)
      · cases b4
    · have := hq p (exits_mem hp hnorm) σ' a' w' e (Env.base_le (Imm.le_trans hi0 l1.imm)) R1 f1 x1
      cases e with
      | normal => cases hx : p.1 <;> rw [hx] at x1 <;> simp only [XOk] at x1 <;> first | (exact absurd hx hnorm) | (cases x1; done) | (obtain ⟨_, _, h⟩ := x1; cases h)
      | _ => exact this
/-- The walk, with loops given. -/
def execO (X : Env1) (lf : Code → St → Option Outs) (fid : FuncId) (ro : Nat → Bool) (nt : Nat) : Nat → Code → St → Option Outs
  | 0, _, _ => none
  | n + 1, c, S => match c with
    | .seq a b => (match execO X lf fid ro nt n a S with
      | some l => bindO (execO X lf fid ro nt n b) l
      | none => none)
    | .block id b => (execO X lf fid ro nt n b S).map (·.map (inBlk id))
    | .loop b => lf b S
    | c => exec X 400 fid ro nt c S
def loopsOf : Nat → Code → List Code
  | 0, _ => []
  | n + 1, c => match c with
    | .seq a b => loopsOf n a ++ loopsOf n b
    | .block _ b => loopsOf n b
    | .loop b => [b]
    | _ => []
theorem execO_sound {X : Env1} (hX : X.Ok) {lf : Code → St → Option Outs} {fid : FuncId} {ro : Nat → Bool} {nt : Nat} {g : Gh} {d : List Deferred} {imm0 : Imm} : ∀ (n : Nat) (c : Code),
    (∀ b ∈ loopsOf n c, ∀ S outs, lf b S = some outs → ∀ σ a w (Q : Exit → Act → World → Prop), PF X.pr Q → Imm.le imm0 σ.imm → Rel ro g σ S.H w → Fr nt d σ S.F a → GoodQ nt d ro g (Env.base imm0) outs Q → (Code.loop b).wp X.P Q a w) →
    ∀ S outs, execO X lf fid ro nt n c S = some outs → ∀ σ a w (Q : Exit → Act → World → Prop), PF X.pr Q → Imm.le imm0 σ.imm → Rel ro g σ S.H w → Fr nt d σ S.F a → GoodQ nt d ro g (Env.base imm0) outs Q → c.wp X.P Q a w := by
  intro n
  induction n with
  | zero => intro c _ S outs h; simp [execO] at h
  | succ n ih =>
    intro c hl S outs h σ a w Q hQ hi R hf hq
    cases c with
    | seq x y =>
      simp only [execO] at h
      simp only [loopsOf, List.mem_append] at hl
      split at h
      · rename_i l hx
        refine wp_seq (ih x (fun b hb => hl b (.inl hb)) S l hx σ a w _ hQ.then hi R hf ?_)
        intro p hp σ' a' w' e l1 R1 f1 x1
        rcases bindO_mem h p hp with ⟨hp1, r0, h0, hs⟩ | ⟨hp1, hm⟩
        · rw [hp1] at x1
          simp only [XOk] at x1
          subst x1
          exact ih y (fun b hb => hl b (.inr hb)) p.2 r0 h0 σ' a' w' Q hQ l1.imm R1 f1 (hq.sub hs)
        · have := hq p hm σ' a' w' e l1 R1 f1 x1
          cases hp2 : p.1 with
          | normal => exact absurd hp2 hp1
          | exit id => rw [hp2] at x1; simp only [XOk] at x1; subst x1; exact this
          | ret => rw [hp2] at x1; simp only [XOk] at x1; subst x1; exact this
          | panic v => rw [hp2] at x1; obtain ⟨V, _, rfl⟩ := x1; exact this
      · cases h
    | block id body =>
      simp only [execO, Option.map_eq_some_iff] at h
      obtain ⟨l, hl', rfl⟩ := h
      refine wp_block (ih body hl S l hl' σ a w _ (fun c a dst v w hd hh => hQ c a dst v w hd hh) hi R hf ?_)
      intro p hp σ' a' w' e l1 R1 f1 x1
      have hq' := hq (inBlk id p) (List.mem_map.2 ⟨p, hp, rfl⟩) σ' a' w'
      obtain ⟨x, S'⟩ := p
      cases x with
      | normal => simp only [XOk] at x1; subst x1; exact hq' .normal l1 R1 f1 rfl
      | ret => simp only [XOk] at x1; subst x1; exact hq' .ret l1 R1 f1 rfl
      | panic v => obtain ⟨V, hV, rfl⟩ := x1; exact hq' _ l1 R1 f1 ⟨V, hV, rfl⟩
      | exit id' =>
        simp only [XOk] at x1
        subst x1
        simp only [Exit.inBlock]
        simp only [inBlk, cond_eq_ite, Nat.beq_eq] at hq'
        by_cases hid : id' = id
        · rw [if_pos hid] at hq' ⊢
          exact hq' .normal l1 R1 f1 rfl
        · rw [if_neg hid] at hq' ⊢
          exact hq' (.exit id') l1 R1 f1 rfl
    | loop b => exact hl b (by simp [loopsOf]) S outs h σ a w Q hQ hi R hf hq
    | _ =>
      simp only [execO] at h
      exact (exec_sound hX 400).1 fid ro nt _ S outs h g d σ a w Q hQ R hf (hq.mono (Env.base_le hi))
/-- Does a state fit one of them? -/
def fitsJ (ro : Nat → Bool) (NB i : Nat) (Js : List St) (S : St) : Bool :=
  Js.any fun J => Nat.beq (rbOf J S 0 NB).N 0 && reSt ro (rbOf J S 0 NB) S J
def lfJ (ro : Nat → Bool) (NB i : Nat) (Js : List St) (E : Outs) : Code → St → Option Outs := fun _ S => bif fitsJ ro NB i Js S then some E else none
/-- A loop by its states; E is what stands behind it. -/
theorem lfJ_ok {X : Env1} {ks : List Nat} {ro : Nat → Bool} {g : Gh} {nt : Nat} {d : List Deferred} {P : Program} {body : Code} {f : St → Option Outs} {imm0 : Imm} {NB NB0 i : Nat} {hi : Int} {Js : List St} {E : Outs}
    (ih : ∀ S outs, f S = some outs → ∀ σ a w (Q : Exit → Act → World → Prop), PF ks Q → Rel ro g σ S.H w → Fr nt d σ S.F a → GoodQ nt d ro g σ outs Q → body.wp P Q a w)
    (hb : ∀ J ∈ Js, ∃ l, f J = some l ∧ jChk ro NB i Js l = true ∧ ∀ Q, GoodQ nt d ro g (Env.base imm0) E Q → GoodQ nt d ro g (Env.base imm0) (exits l) Q)
    (hr : ∀ J ∈ Js, ∃ lo, J.H.rng.get i = some (lo, hi))
    (S : St) (outs : Outs) (h : lfJ ro NB0 i Js E body S = some outs) (σ : Env) (a : Act) (w : World) (Q : Exit → Act → World → Prop) (hQ : PF ks Q) (hi0 : Imm.le imm0 σ.imm) (R : Rel ro g σ S.H w) (hf : Fr nt d σ S.F a)
    (hq : GoodQ nt d ro g (Env.base imm0) outs Q) : (Code.loop body).wp P Q a w := by
  unfold lfJ at h
  rw [cond_eq_ite] at h
  split at h
  · rename_i hfit
    cases h
    simp only [fitsJ, List.any_eq_true, Bool.and_eq_true, Nat.beq_eq] at hfit
    obtain ⟨J, hJ, b1, b3⟩ := hfit
    obtain ⟨τ, hm', R2, f2, _⟩ := reSt_sound b3 R hf
    obtain ⟨lo, hlo⟩ := hr J hJ
    obtain ⟨n, e1, e2, e3⟩ := R2.rng _ _ hlo
    refine wp_unr (roundsI (imm0 := imm0) (NB := NB) (i := i) ih hQ (fun J hJ => ?_) hr (hi - n + 1).toNat J τ a w n hJ (by rw [hm'.imm]; exact hi0) R2 f2 e1 (by simp only [] at e3; omega))
    obtain ⟨l, h1, h2, h3⟩ := hb J hJ
    exact ⟨l, h1, h2, h3 Q hq⟩
  · cases h
end
end Go.Proofs.YtgkoghgiclkbhaaGreatDoor.Sx
namespace Go.Proofs.YtgkoghgiclkbhaaGreatDoor.Sx
open Go
noncomputable section
set_option linter.unusedVariables false
set_option linter.unusedSimpArgs false
/-- Each way out of a round fits one of those of E. -/
def exChk (ro : Nat → Bool) (E : Outs) (l : Outs) : Bool := (exits l).all fun p => E.any fun q => sameX q.1 p.1 && Nat.beq (rbOf q.2 p.2 0 0).N 0 && Nat.beq (rbOf q.2 p.2 0 0).NB 0 && reSt ro (rbOf q.2 p.2 0 0) p.2 q.2
theorem exChk_ok {ro : Nat → Bool} {E l : Outs} (h : exChk ro E l = true) {nt : Nat} {d : List Deferred} {g : Gh} {imm0 : Imm} (Q : Exit → Act → World → Prop) (hq : GoodQ nt d ro g (Env.base imm0) E Q) : GoodQ nt d ro g (Env.base imm0) (exits l) Q := by
  unfold exChk at h
  intro p hp σ' a' w' e l1 R1 f1 x1
  rw [List.all_eq_true] at h
  have h := h p hp
  rw [List.any_eq_true] at h
  obtain ⟨q, hqm, h⟩ := h
  simp only [Bool.and_eq_true, Nat.beq_eq] at h
  obtain ⟨⟨⟨b0, b1⟩, b2⟩, b3⟩ := h
  obtain ⟨τ, hm, R2, f2, hle⟩ := reSt_sound b3 R1 f1
  refine hq q hqm τ a' w' e (hle _ l1 (by simp [Env.base]) (by simp [Env.base])) R2 f2 ?_
  have hx := sameX_eq b0
  rw [hx]
  cases hp1 : p.1 with
  | panic v =>
    exfalso
    rw [hp1] at b0
    cases hq1 : q.1 <;> rw [hq1] at b0 <;> simp [sameX] at b0
  | _ => rw [hp1] at x1; exact x1
/-- A loop by its states: each round's check, and what is behind it. -/
def lfChk (X : Env1) (fid nt : Nat) (ro : Nat → Bool) (NB i : Nat) (Js : List St) (E : Outs) (body : Code) (J : St) : Bool :=
  match exec X 400 fid ro nt body J with
  | some l => jChk ro NB i Js l && exChk ro E l
  | none => false
theorem lf_ok {X : Env1} (hX : X.Ok) {fid : FuncId} {nt : Nat} {ro : Nat → Bool} {NB NB0 i : Nat} {hi : Int} {Js : List St} {E : Outs} {body : Code} {g : Gh} {d : List Deferred} {imm0 : Imm}
    (hc : ∀ J ∈ Js, lfChk X fid nt ro NB i Js E body J = true) (hr : ∀ J ∈ Js, ∃ lo, J.H.rng.get i = some (lo, hi))
    (S : St) (outs : Outs) (h : lfJ ro NB0 i Js E body S = some outs) (σ : Env) (a : Act) (w : World) (Q : Exit → Act → World → Prop) (hQ : PF X.pr Q) (hi0 : Imm.le imm0 σ.imm) (R : Rel ro g σ S.H w) (hf : Fr nt d σ S.F a)
    (hq : GoodQ nt d ro g (Env.base imm0) outs Q) : (Code.loop body).wp X.P Q a w := by
  refine lfJ_ok (X := X) (NB := NB) (f := exec X 400 fid ro nt body) (hi := hi) (fun S outs h σ a w Q hQ R hf hq => (exec_sound hX 400).1 fid ro nt body S outs h g d σ a w Q hQ R hf hq) (fun J hJ => ?_) hr S outs h σ a w Q hQ hi0 R hf hq
  have := hc J hJ
  unfold lfChk at this
  split at this
  · rename_i l hl
    rw [Bool.and_eq_true] at this
    exact ⟨l, hl, this.1, fun Q hQ => exChk_ok this.2 Q hQ⟩
  · cases this
/-- A function whose loops are given. -/
theorem callO {X : Env1} (hX : X.Ok) (hpr : X.pr = []) {f : FuncId} {fi : FnI} (hfi : X.tbl f = some fi) {ro : Nat → Bool} {g : Gh} {σ : Env} {H : AH} {w : World} {args : List AV} {vs : List Value} {lf : Code → St → Option Outs} {imm0 : Imm} {n : Nat}
    (hl : ∀ b ∈ loopsOf n fi.body, ∀ S outs, lf b S = some outs → ∀ σ a w (Q : Exit → Act → World → Prop), PF X.pr Q → Imm.le imm0 σ.imm → Rel ro g σ S.H w → Fr fi.nt [] σ S.F a → GoodQ fi.nt [] ro g (Env.base imm0) outs Q → (Code.loop b).wp X.P Q a w)
    {outs : Outs} (ho : execO X lf f ro fi.nt n fi.body ⟨argsF 0 args, H⟩ = some outs) (hle : args.length ≤ fi.nt) (R : Rel ro g σ H w) (hs : SatL σ args vs) (himm : Imm.le imm0 σ.imm) (K : Ending → World → Prop)
    (hq : ∀ p ∈ outs, (p.1 = .normal ∨ p.1 = .ret) ∧ ∃ v, resV X.P p.2.H p.2.F fi.res = some v ∧ ∀ (σ' : Env) (w' : World), (Env.base imm0).le σ' → Rel ro g σ' p.2.H w' → ∀ V, Sat σ' v V → K (.returned V) w') :
    Calls X.P f ⟨vs⟩ w K := by
  have hok := hX.tbl f fi hfi
  obtain ⟨fn, f1, f2, f3, f4, f5⟩ := hok
  have hlen := hs.length
  have hPF : PF X.pr (bodyPost X.P fn K) := by
    intro c a dst v w _ hh
    obtain ⟨h1, h2⟩ := hh
    refine ⟨?_, h2⟩
    cases dst <;> exact h1
  refine calls_of_wp f1 f2 (execO_sound hX n fi.body hl _ outs ho σ _ w _ hPF himm R ?_ ?_)
  · refine ⟨fun i av hi => ?_, ?_, rfl⟩
    · obtain ⟨v, _, e2, e3⟩ := argsF_ok args vs 0 hs i av hi
      rw [Nat.sub_zero] at e2
      have hlt := (List.getElem?_eq_some_iff.1 e2).1
      refine ⟨v, ?_, e3⟩
      rw [Array.getElem?_append_left (by simpa using hlt)]
      simpa using e2
    · simp; omega
  · intro p hp σ' a' w' e l1 R1 fr1 x1
    obtain ⟨hx, v, hv, hk⟩ := hq p hp
    rw [← f4] at hv
    obtain ⟨V, s1, hrun⟩ := resV_sound R1 fr1.ok hv
    have ret : a'.defers = [] ∧ ∃ v, (results fn a'.tmps).run X.P w' = .ok v w' ∧ K (.returned v) w' := ⟨fr1.defers, V, hrun, hk σ' w' l1 R1 V s1⟩
    rcases hx with hx | hx <;> rw [hx] at x1 <;> simp only [XOk] at x1 <;> subst x1 <;> exact ret
end
end Go.Proofs.YtgkoghgiclkbhaaGreatDoor.Sx
namespace Go.Proofs.YtgkoghgiclkbhaaGreatDoor.Sx
open Go
noncomputable section
set_option linter.unusedVariables false
set_option linter.unusedSimpArgs false
theorem leaves_congr {P : Program} {fn : Func} {tmps tmps' : Array Value} (h : results fn tmps = results fn tmps') (R : Ending → World → Prop) :
    ∀ (ds : List Deferred), Leaves P fn tmps R ds = Leaves P fn tmps' R ds := by
  intro ds
  induction ds with
  | nil => funext u w; cases u <;> simp only [Leaves, h]
  | cons d ds ih =>
    funext u w
    simp only [Leaves, ih]
def resIn (ks : List Nat) : ResultVar → Bool
  | .tmp t => ks.contains t
  | .cell a _ => ks.contains a
theorem mapM_same {α β : Type} {f g : α → Sem β} : ∀ l : List α, (∀ x ∈ l, f x = g x) → l.mapM f = l.mapM g
  | [], _ => by simp
  | a :: l, h => by
    simp only [List.mapM_cons, h a (List.mem_cons_self ..), mapM_same l fun x hx => h x (List.mem_cons_of_mem _ hx)]
theorem results_put {fn : Func} {ks : List Nat} (hr : fn.results.toList.all (resIn ks) = true) (a : Act) (dst : Option Tmp) (v : Value) (hd : ∀ t : Nat, dst = some t → t ∉ ks) :
    results fn (a.put dst v).tmps = results fn a.tmps := by
  cases dst with
  | none => rfl
  | some t =>
    have ht := hd t rfl
    have hg : ∀ s : Nat, s ∈ ks → (a.put (some t) v).tmps.getD s undef = a.tmps.getD s undef := by
      intro s hs
      have hne : t ≠ s := fun e => ht (e ▸ hs)
      simp only [Act.put]
      simp [Array.getD_eq_getD_getElem?, Array.getElem?_setIfInBounds, hne]
    rw [List.all_eq_true] at hr
    unfold results
    congr 1
    rw [Array.mapM_eq_mapM_toList, Array.mapM_eq_mapM_toList]
    congr 1
    refine mapM_same _ fun r hr' => ?_
    have := hr r hr'
    cases r with
    | tmp s => simp only [resIn, List.contains_eq_mem, decide_eq_true_eq] at this; simp only [hg s this]
    | cell s t => simp only [resIn, List.contains_eq_mem, decide_eq_true_eq] at this; simp only [hg s this]
theorem pf_postD {P : Program} {fn : Func} {ks : List Nat} (hr : fn.results.toList.all (resIn ks) = true) (R : Ending → World → Prop) : PF ks (bodyPostD P fn R) := by
  intro c a dst v w hd hh
  have hh : Leaves P fn (a.put dst v).tmps R (a.put dst v).defers (.panicking c) w := hh
  show Leaves P fn a.tmps R a.defers (.panicking c) w
  rw [leaves_congr (results_put hr a dst v hd)] at hh
  cases dst <;> exact hh
/-- A function that defers: its number, the closure's, the slot of what it captures, the slot of the closure. -/
structure DI where
  f : FuncId
  g : FuncId
  te : Nat
  tc : Nat
/-- The operations that lay the closure by. -/
def opsD (D : DI) (ops : List Oper) : Bool := match ops with
  | [o1, o2] => (match o1.op with
      | .makeFunc (.func g) first caps => Nat.beq g D.g && first.toList.isEmpty && (match caps.toList with | [.tmp t] => Nat.beq t D.te | _ => false)
      | _ => false) && (match o1.dst with | some t => Nat.beq t D.tc | none => false) && o1.guard.isNone &&
    (match o2.op with
      | .defer c => (match c.callee with | .value (.tmp t) => Nat.beq t D.tc | _ => false) && c.args.toList.isEmpty
      | _ => false) && o2.dst.isNone && o2.guard.isNone
  | _ => false
/-- What stands ahead of the closure, and behind it. -/
def splitD : Code → Option (Code × List Oper × Code)
  | .seq r0 (.seq (.region _ ops false) rest) => some (r0, ops.toList, rest)
  | _ => none
/-- How such a function ends: as it returns, or with the number that it panicked with laid where the closure lays it. -/
def finD (P : Program) (ro : Nat → Bool) (res : List ResultVar) (be : Nat) (p : AX × St) : Option (CO × AH) :=
  match p.1 with
  | .normal | .ret => (match resV P p.2.H p.2.F res with
    | some v => some (.ret v, p.2.H)
    | none => none)
  | .panic (.ifc 25 (.int .i64 x)) => (match storeC ro p.2.H (.ptr be 0) [.int .i64 x] with
    | some H' => (match resV P H' p.2.F res with
      | some v => some (.ret v, H')
      | none => none)
    | none => none)
  | _ => none
def hookD (X : Env1) (D : DI) : Call1 := fun ro H f args =>
  bif Nat.beq f D.f then match X.tbl f with
    | some fi => (match splitD fi.body with
      | some (r0, ops, rest) => bif Nat.ble args.length fi.nt && opsD D ops && fi.res.all (resIn X.pr) && Nat.blt D.tc fi.nt then
          (match exec X 400 f ro fi.nt r0 ⟨argsF 0 args, H⟩ with
            | some [(.normal, S1)] => (match S1.F.get D.te with
              | some (.ptr be 0) => (match exec X 400 f ro fi.nt rest ⟨S1.F.set D.tc (some (.fn D.g [.ptr be 0])), S1.H⟩ with
                | some outs => optAll (finD X.P ro fi.res be) outs
                | none => none)
              | _ => none)
            | _ => none)
        else none
      | none => none)
    | none => none
  else none
def DOk (P : Program) (g : FuncId) : Prop :=
  (∀ w : World, ∀ p : Addr, (callFunc g #[.pointer (some p)]).run P w = .ok (.enter g #[.pointer (some p)]) w) ∧
  (∀ (p : Addr) (w : World), CallsD P g #[.pointer (some p)] .returning w fun e u' w' => e = .returned (.tuple #[]) ∧ u' = .returning ∧ w' = w) ∧
  (∀ (p : Addr) (n : Int) (older : List PanicEntry) (w w1 : World), (storeCells p [.int .i64 n]).run P w = .ok () w1 →
    CallsD P g #[.pointer (some p)] (.panicking ({ v := .iface 25 (.int .i64 n), recovered := false } :: older)) w fun e u' w' =>
      e = .returned (.tuple #[]) ∧ u' = .panicking ({ v := .iface 25 (.int .i64 n), recovered := true } :: older) ∧ w' = w1)
theorem hookD_ok {X : Env1} (hX : X.Ok) {D : DI} (hg : DOk X.P D.g) : CallOk X.P (hookD X D) := by
  intro ro g σ H w f args vs outs R h Rl hs hR
  unfold hookD at h
  rw [cond_eq_ite] at h
  split at h
  · rename_i hf
    rw [Nat.beq_eq] at hf
    subst hf
    split at h
    · rename_i fi hfi
      split at h
      · rename_i r0 ops rest hsp
        rw [cond_eq_ite] at h
        split at h
        · rename_i hc
          simp only [Bool.and_eq_true, Nat.ble_eq, Nat.blt_eq] at hc
          obtain ⟨⟨⟨hle, hops⟩, hres⟩, htc⟩ := hc
          split at h
          · rename_i S1 hr0
            split at h
            · rename_i be hbe
              split at h
              · rename_i outs1 hrest
                have hok := hX.tbl D.f fi hfi
                refine ⟨true, fun w1 => callFunc_run hok _ w1, ?_⟩
                obtain ⟨fn, f1, f2, f3, f4, f5⟩ := hok
                have hlen := hs.length
                -- the body's shape
                have hbody : ∃ id opsA, fi.body = .seq r0 (.seq (.region id opsA false) rest) ∧ opsA.toList = ops := by
                  unfold splitD at hsp
                  split at hsp
                  · rename_i e; cases hsp; exact ⟨_, _, e, rfl⟩
                  · cases hsp
                obtain ⟨id, opsA, hb, hopsA⟩ := hbody
                have hexec := (exec_sound hX 400).1
                rw [← f4] at hres
                have hPF : PF X.pr (bodyPostD X.P fn R) := pf_postD hres R
                -- the two operations
                unfold opsD at hops
                split at hops
                · rename_i o1 o2
                  simp only [Bool.and_eq_true] at hops
                  obtain ⟨⟨⟨⟨⟨h1, h2⟩, h3⟩, h4⟩, h5⟩, h6⟩ := hops
                  obtain ⟨c1, c2, c3⟩ := hg
                  have e0 : opsA[0]? = some o1 := by rw [← Array.getElem?_toList, hopsA]; rfl
                  have e1 : opsA[1]? = some o2 := by rw [← Array.getElem?_toList, hopsA]; rfl
                  have esz : opsA.size = 2 := by rw [← Array.length_toList, hopsA]; rfl
                  -- behind the closure
                  have hbehind : ∀ (σ1 : Env) (a1 : Act) (w1 : World) (n sz : Nat), σ.le σ1 → Rel ro g σ1 S1.H w1 → Fr fi.nt [{ target := .fn (.func D.g) #[.pointer (some ⟨n, 0, none⟩)], args := #[] }] σ1 (S1.F.set D.tc (some (.fn D.g [.ptr be 0]))) a1 →
                      σ1.b[be]? = some (some (n, sz)) → rest.wp X.P (bodyPostD X.P fn R) a1 w1 := by
                    intro σ1 a1 w1 n sz l1 R1 fr1 hn
                    refine hexec D.f ro fi.nt rest _ _ hrest g _ σ1 a1 w1 _ hPF R1 fr1 ?_
                    intro p hp σ2 a2 w2 e l2 R2 fr2 x2
                    have hn2 := prefix_get l2.b hn
                    obtain ⟨q, hq, he⟩ := optAll_mem h p hp
                    -- a return
                    have ret : e = .normal ∨ e = .ret → (∃ v, resV X.P p.2.H p.2.F fi.res = some v ∧ q = (.ret v, p.2.H)) → bodyPostD X.P fn R e a2 w2 := by
                      intro he' ⟨v, hv, hqe⟩
                      subst hqe
                      rw [← f4] at hv
                      obtain ⟨V, s1, hrun⟩ := resV_sound R2 fr2.ok hv
                      have key : Leaves X.P fn a2.tmps R a2.defers .returning w2 := by
                        rw [fr2.defers]
                        refine leaves_cons (f := D.g) (args := #[.pointer (some ⟨n, 0, none⟩)]) (by simp) (by simpa [invoke] using c1 w2 ⟨n, 0, none⟩) ((c2 ⟨n, 0, none⟩ w2).mono ?_)
                        rintro e3 u3 w3 ⟨rfl, rfl, rfl⟩
                        simp only [settle, Leaves]
                        exact ⟨V, hrun, hR _ hq σ2 w3 _ (l1.trans l2) R2 ⟨V, s1, rfl⟩⟩
                      rcases he' with rfl | rfl <;> exact key
                    obtain ⟨x, S2⟩ := p
                    unfold finD at he
                    cases x with
                    | normal =>
                      simp only [XOk] at x2; subst x2
                      dsimp only at he
                      split at he
                      · rename_i v hv; cases he; exact ret (.inl rfl) ⟨v, hv, rfl⟩
                      · cases he
                    | ret =>
                      simp only [XOk] at x2; subst x2
                      dsimp only at he
                      split at he
                      · rename_i v hv; cases he; exact ret (.inr rfl) ⟨v, hv, rfl⟩
                      · cases he
                    | exit id => cases he
                    | panic v =>
                      obtain ⟨V, hV, rfl⟩ := x2
                      dsimp only at he
                      split at he <;> try (cases he; done)
                      all_goals try (rename_i hx; cases hx; done)
                      rename_i x hx
                      cases hx
                      simp only [Sat] at hV
                      obtain ⟨u, rfl, m, hm, rfl⟩ := hV
                      split at he
                      · rename_i H3 hst
                        split at he
                        · rename_i v hv
                          cases he
                          obtain ⟨ad, σ3, w3, ead, l3, R3, hrun3⟩ := storeC_sound (P := X.P) R2 (a := .ptr be 0) (u := .pointer (some ⟨n, 0, none⟩)) (by simp only [Sat]; exact ⟨n, sz, hn2, rfl⟩)
                            (l := [.int .i64 x]) (vs := [.int .i64 m]) (by simp only [SatL, Sat]; exact ⟨_, _, rfl, ⟨m, hm, rfl⟩, rfl⟩) (by rfl) hst
                          cases ead
                          rw [← f4] at hv
                          obtain ⟨V, s1, hrun⟩ := resV_sound R3 (fr2.ok.mono l3) hv
                          show Leaves X.P fn a2.tmps R a2.defers (.panicking _) w2
                          rw [fr2.defers]
                          refine leaves_cons (f := D.g) (args := #[.pointer (some ⟨n, 0, none⟩)]) (by simp) (by simpa [invoke] using c1 w2 ⟨n, 0, none⟩) ((c3 ⟨n, 0, none⟩ m [] w2 w3 hrun3).mono ?_)
                          rintro e4 u4 w4 ⟨rfl, rfl, rfl⟩
                          simp only [settle, List.dropWhile_nil, Leaves]
                          exact ⟨V, hrun, hR _ hq σ3 w4 _ ((l1.trans l2).trans l3) R3 ⟨V, s1, rfl⟩⟩
                        · cases he
                      · cases he
                  refine calls_of_wp_defers f1 f2 ?_
                  rw [hb]
                  refine wp_seq (hexec D.f ro fi.nt r0 _ _ hr0 g [] σ _ w _ hPF.then Rl ?_ ?_)
                  · refine ⟨fun i av hi => ?_, ?_, rfl⟩
                    · obtain ⟨v, _, e2, e3⟩ := argsF_ok args vs 0 hs i av hi
                      rw [Nat.sub_zero] at e2
                      have hlt := (List.getElem?_eq_some_iff.1 e2).1
                      refine ⟨v, ?_, e3⟩
                      rw [Array.getElem?_append_left (by simpa using hlt)]
                      simpa using e2
                    · simp; omega
                  · intro p hp σ1 a1 w1 e l1 R1 fr1 x1
                    rw [List.mem_singleton] at hp
                    subst hp
                    simp only [XOk] at x1
                    subst x1
                    obtain ⟨vbe, q1, q2⟩ := fr1.ok D.te _ hbe
                    simp only [Sat] at q2
                    obtain ⟨n, sz, hn, rfl⟩ := q2
                    refine wp_seq (wp_region ?_)
                    have wanted : ∀ (o : Oper) x, o.guard.isNone = true → Region.wanted o x = true := by
                      intro o x ho
                      have : o.guard = none := by simpa using ho
                      simp [Region.wanted, this]
                    rw [esz]
                    show wpOps X.P opsA _ [0, 1] a1 w1
                    simp only [wpOps, e0, e1]
                    rw [if_pos (wanted o1 _ h3)]
                    refine .inl ?_
                    split at h1
                    · rename_i gg first caps hop
                      simp only [Bool.and_eq_true, Nat.beq_eq] at h1
                      obtain ⟨⟨rfl, hfst⟩, hcaps⟩ := h1
                      have hfirst : first = #[] := by
                        have : first.toList = [] := by simpa using hfst
                        exact Array.toList_eq_nil_iff.1 this
                      split at hcaps
                      · rename_i t hct
                        rw [Nat.beq_eq] at hcaps
                        subst hcaps
                        have hcap : caps = #[.tmp D.te] := by rw [← Array.toList_inj, hct]
                        split at h2
                        · rename_i tcc hdst
                          rw [Nat.beq_eq] at h2
                          have hv1 : a1.eval (.tmp D.te) = .pointer (some ⟨n, 0, none⟩) := by simp [Act.eval, Array.getD_eq_getD_getElem?, q1]
                          have hrun1 : (execOp a1.eval o1).run X.P w1 = .ok (.value (.func (.func D.g) #[] #[.pointer (some ⟨n, 0, none⟩)])) w1 := by
                            simp [execOp, hop, hfirst, hcap, Instr.makeFunc, hv1]
                          unfold Oper.wp
                          rw [hrun1, Oper.upon_value, hdst, h2]
                          rw [if_pos (wanted o2 _ h6)]
                          refine .inl ?_
                          split at h4
                          · rename_i c hop2
                            rw [Bool.and_eq_true] at h4
                            obtain ⟨h4, hargs⟩ := h4
                            have hargs : c.args = #[] := by
                              have : c.args.toList = [] := by simpa using hargs
                              exact Array.toList_eq_nil_iff.1 this
                            split at h4
                            · rename_i tt hcal
                              rw [Nat.beq_eq] at h4
                              subst h4
                              have hsz : D.tc < a1.tmps.size := by rw [fr1.size]; exact htc
                              have hv2 : (a1.put (some D.tc) (.func (.func D.g) #[] #[.pointer (some ⟨n, 0, none⟩)])).eval (.tmp D.tc) = .func (.func D.g) #[] #[.pointer (some ⟨n, 0, none⟩)] := by
                                simp [Act.eval, Act.put, Array.getD_eq_getD_getElem?, hsz]
                              have hrun2 : (execOp (a1.put (some D.tc) (.func (.func D.g) #[] #[.pointer (some ⟨n, 0, none⟩)])).eval o2).run X.P w1 = .ok (.defer { target := .fn (.func D.g) #[.pointer (some ⟨n, 0, none⟩)], args := #[] }) w1 := by
                                simp [execOp, hop2, resolve, hcal, hargs, hv2, Deferred.ofValue]
                              rw [hrun2, Oper.upon_defer]
                              have hdst2 : o2.dst = none := by simpa using h5
                              rw [hdst2]
                              refine hbehind σ1 _ w1 n sz l1 R1 ⟨fun i av hi => ?_, ?_, ?_⟩ hn
                              · rcases Tr.get_set_some hi with ⟨rfl, hx⟩ | ⟨hne, hx⟩
                                · cases hx
                                  refine ⟨.func (.func D.g) #[] #[.pointer (some ⟨n, 0, none⟩)], by simp [Act.put, hsz], ?_⟩
                                  simp only [Sat, SatL]
                                  exact ⟨[.pointer (some ⟨n, 0, none⟩)], rfl, _, _, rfl, ⟨n, sz, hn, rfl⟩, rfl⟩
                                · obtain ⟨v, k1, k2⟩ := fr1.ok i av hx
                                  exact ⟨v, by simp [Act.put, Array.getElem?_setIfInBounds, Ne.symm hne, k1], k2⟩
                              · simp [Act.put, fr1.size]
                              · simp [Act.put, fr1.defers]
                            · cases h4
                          · cases h4
                        · cases h2
                      · cases hcaps
                    · cases h1
                · cases hops
              · cases h
            · cases h
          · cases h
        · cases h
      · cases h
    · cases h
  · cases h
end
end Go.Proofs.YtgkoghgiclkbhaaGreatDoor.Sx
namespace Go.Proofs.YtgkoghgiclkbhaaGreatDoor.Sx
open Go
noncomputable section
set_option linter.unusedVariables false
set_option linter.unusedSimpArgs false
/-- Names in turn. -/
def upFrom : Nat → Nat → List Nat
  | _, 0 => []
  | b, n + 1 => b :: upFrom (b + 1) n
theorem upFrom_length : ∀ (n b : Nat), (upFrom b n).length = n
  | 0, b => rfl
  | n + 1, b => by simp [upFrom, upFrom_length n (b + 1)]
theorem upFrom_get : ∀ (n b i : Nat), i < n → (upFrom b n)[i]? = some (b + i)
  | 0, b, i, h => by omega
  | n + 1, b, 0, h => by simp [upFrom]
  | n + 1, b, i + 1, h => by
    simp only [upFrom, List.getElem?_cons_succ]
    rw [upFrom_get n (b + 1) i (by omega)]
    congr 1; omega
theorem upFrom_mem {n b x : Nat} (h : x ∈ upFrom b n) : b ≤ x ∧ x < b + n := by
  obtain ⟨i, hi⟩ := List.mem_iff_getElem?.1 h
  have hlt := (List.getElem?_eq_some_iff.1 hi).1
  rw [upFrom_length] at hlt
  rw [upFrom_get n b i hlt] at hi
  cases hi; omega
/-- As hookM, and the contract's new blocks are new ones here. -/
def hookN (M : MC) : Call1 := fun ro H f args =>
  bif Nat.beq f M.f && Nat.beq args.length M.args.length && Nat.ble args.length 100 then
    let S : St := ⟨argsF 0 args, H⟩
    let J : St := ⟨argsF 0 M.args, M.H0⟩
    let B := rbOf J S 0 0
    let k := M.H1.nb - M.H0.nb
    bif Nat.beq B.N 0 && Nat.beq B.NB 0 && Nat.ble M.H0.nb M.H1.nb && reSt (fun _ => true) B S J && B.fm.all (mvDen H) && (wrOf ⟨M.H0.nn, H.nn, B.fm, B.bm⟩ M.wr).all (fun c => ro c && (H.hp.get c).isSome) then
      let r : RN := ⟨M.H0.nn, H.nn, B.fm, B.bm ++ upFrom H.nb k⟩
      let H' : AH := { rng := rngMs r M.H1 M.H0.nn (M.H1.nn - M.H0.nn) H.rng, nn := H.nn + (M.H1.nn - M.H0.nn), lts := H.lts, hp := putMs r M.H1 (M.wr ++ upFrom M.H0.nb k) H.hp, nb := H.nb + k, fx := H.fx.filter (keepM H (wrOf ⟨M.H0.nn, H.nn, B.fm, B.bm⟩ M.wr)), fm := H.fm, n0 := H.n0 }
      some [(.ret (rnAV r M.res), H')]
    else none
  else none
theorem hookN_ok {P : Program} {M : MC} (hM : M.Ok P) : CallOk P (hookN M) := by
  intro ro g σ H w f args vs outs Q h R hs hQ
  unfold hookN at h
  dsimp only at h
  rw [cond_eq_ite] at h
  split at h
  · rename_i hc0
    simp only [Bool.and_eq_true, Nat.beq_eq, Nat.ble_eq] at hc0
    obtain ⟨⟨rfl, hlen⟩, hsm⟩ := hc0
    generalize hB : rbOf ⟨argsF 0 M.args, M.H0⟩ ⟨argsF 0 args, H⟩ 0 0 = B at h
    rw [cond_eq_ite] at h
    split at h
    · rename_i hc1
      simp only [Bool.and_eq_true, Nat.beq_eq, List.all_eq_true, Option.isSome_iff_exists] at hc1
      obtain ⟨⟨⟨⟨⟨hN, hNB⟩, hk⟩, hre⟩, hmv⟩, hwr⟩ := hc1
      rw [Nat.ble_eq] at hk
      cases h
      generalize hr1 : (⟨M.H0.nn, H.nn, B.fm, B.bm ++ upFrom H.nb (M.H1.nb - M.H0.nb)⟩ : RN) = r1 at *
      generalize hr : (⟨M.H0.nn, H.nn, B.fm, B.bm⟩ : RN) = r at *
      have rK : r.K = M.H0.nn := by rw [← hr]
      have rnn : r.nn = H.nn := by rw [← hr]
      have rfm : r.fm = B.fm := by rw [← hr]
      have rbm : r.bm = B.bm := by rw [← hr]
      have hvl := hs.length
      -- into the contract's start
      have hf : Fr vs.length [] σ (argsF 0 args) { tmps := ⟨vs⟩, defers := [] } := ⟨fun i av hi => by
        obtain ⟨v, _, e2, e3⟩ := argsF_ok args vs 0 hs i av hi
        rw [Nat.sub_zero] at e2
        exact ⟨v, by simpa using e2, e3⟩, rfl, rfl⟩
      obtain ⟨τ, hm, R1, f1, _⟩ := reSt_sound hre R.self hf
      have hre' := hre
      unfold reSt at hre'
      simp only [Bool.and_eq_true, Nat.beq_eq, List.all_eq_true, Nat.blt_eq] at hre'
      obtain ⟨⟨⟨⟨⟨⟨⟨⟨⟨⟨q1, q2⟩, _⟩, _⟩, _⟩, _⟩, _⟩, _⟩, _⟩, _⟩, q11⟩ := hre'
      have hbl : ∀ (b c : Nat), r.bm[b]? = some c → ∃ q, σ.b[c]? = some q ∧ τ.b[b]? = some q := by
        intro b c hbc
        rw [rbm] at hbc
        have hlt := (q11 c (List.mem_of_getElem? hbc)).1.2
        have : c < σ.b.length := by rw [R.blen]; exact hlt
        obtain ⟨q, hq⟩ : ∃ q, σ.b[c]? = some q := ⟨_, List.getElem?_eq_getElem this⟩
        have := hm.bm b c q hbc hq
        rw [hNB, Nat.zero_add] at this
        exact ⟨q, hq, this⟩
      have hbn : ∀ (b : Nat) q, τ.b[b]? = some q → ∃ c, r.bm[b]? = some c ∧ σ.b[c]? = some q := by
        intro b q hb
        have hlt := (List.getElem?_eq_some_iff.1 hb).1
        rw [R1.blen] at hlt
        have hlt : b < M.H0.nb := hlt
        have hlt : b < B.bm.length := by
          have q2' : M.H0.nb = B.NB + B.bm.length := q2
          omega
        refine ⟨B.bm[b], by rw [rbm]; exact List.getElem?_eq_getElem hlt, ?_⟩
        obtain ⟨q', h1, h2⟩ := hbl b B.bm[b] (by rw [rbm]; exact List.getElem?_eq_getElem hlt)
        rw [hb] at h2; cases h2; exact h1
      let pre : List Nat := (wrOf r M.wr).filterMap fun c => ((σ.b[c]?).bind id).map (·.1)
      have mem_pre : ∀ n, n ∈ pre → ∃ c sz, c ∈ wrOf r M.wr ∧ σ.b[c]? = some (some (n, sz)) := by
        intro n hn
        rw [List.mem_filterMap] at hn
        obtain ⟨c, hc, he⟩ := hn
        cases hq : σ.b[c]? with
        | none => rw [hq] at he; cases he
        | some q =>
          rw [hq] at he
          cases q with
          | none => cases he
          | some p => obtain ⟨n', sz⟩ := p; simp at he; subst he; exact ⟨c, sz, hc, hq⟩
      have pre_mem : ∀ c n sz, c ∈ wrOf r M.wr → σ.b[c]? = some (some (n, sz)) → n ∈ pre := by
        intro c n sz hc hq
        rw [List.mem_filterMap]
        exact ⟨c, hc, by rw [hq]; rfl⟩
      have wr_mem : ∀ b c, b ∈ M.wr → r.bm[b]? = some c → c ∈ wrOf r M.wr := by
        intro b c hb hc
        unfold wrOf
        rw [List.mem_filterMap]
        exact ⟨b, hb, hc⟩
      have Rin : Rel M.ro ⟨w, pre, σ.imm⟩ τ M.H0 w := by
        refine ⟨R1.nlen, R1.rng, R1.lts, R1.blen, R1.blk, R1.inj, R1.imm, R1.immd, fun _ _ _ => rfl, SzOk.refl _, fun b n sz hb hq => .inr ?_, R1.bnd, fun m o h _ _ => by rw [hm.imm] at h; exact h, R1.fx⟩
        unfold MC.ro at hb
        rw [Bool.or_eq_true, Nat.ble_eq] at hb
        obtain ⟨c, hc, hcq⟩ := hbn b _ hq
        rcases hb with hb | hb
        · have hlt := (List.getElem?_eq_some_iff.1 hq).1
          rw [R1.blen] at hlt
          have : M.H0.nb ≤ b := hb
          have h2 : b < M.H0.nb := hlt
          omega
        · exact pre_mem c n sz (wr_mem b c (by simpa using hb) hc) hcq
      have hargs : SatL τ M.args vs := by
        refine SatL.of_get (by rw [hvl, hlen]) (fun i a v hi hv => ?_)
        have hlt := (List.getElem?_eq_some_iff.1 hi).1
        obtain ⟨v', e1, e2⟩ := f1.ok i a (by
          have := argsF_get M.args 0 (by omega) i a hi
          rwa [Nat.zero_add] at this)
        have : v' = v := by
          have e1 : vs[i]? = some v' := by simpa using e1
          rw [hv] at e1; cases e1; rfl
        subst this
        exact e2
      obtain ⟨hcf, hcall⟩ := hM ⟨w, pre, σ.imm⟩ τ w vs Rin hargs
      refine ⟨true, hcf, hcall.mono ?_⟩
      rintro e w' ⟨τ2, V, l2, R2, sV, rfl⟩
      -- and back
      have himm : σ.imm.le τ2.imm := by rw [← hm.imm]; exact l2.imm
      let σ' : Env := { n := σ.n ++ τ2.n.drop M.H0.nn, b := σ.b ++ τ2.b.drop M.H0.nb, imm := τ2.imm }
      have hle : σ.le σ' := ⟨List.prefix_append _ _, List.prefix_append _ _, himm⟩
      have r1K : r1.K = M.H0.nn := by rw [← hr1]
      have r1nn : r1.nn = H.nn := by rw [← hr1]
      have r1fm : r1.fm = B.fm := by rw [← hr1]
      have r1bm : r1.bm = B.bm ++ upFrom H.nb (M.H1.nb - M.H0.nb) := by rw [← hr1]
      have hbml : B.bm.length = M.H0.nb := by
        have q2' : M.H0.nb = B.NB + B.bm.length := q2
        omega
      have oldbm : ∀ b c : Nat, r.bm[b]? = some c → r1.bm[b]? = some c := by
        intro b c h
        rw [rbm] at h
        rw [r1bm, List.getElem?_append_left (List.getElem?_eq_some_iff.1 h).1]
        exact h
      have splitbm : ∀ b c : Nat, r1.bm[b]? = some c → (b < M.H0.nb ∧ r.bm[b]? = some c) ∨ (M.H0.nb ≤ b ∧ c = H.nb + (b - M.H0.nb)) := by
        intro b c h
        rw [r1bm] at h
        by_cases hlt : b < B.bm.length
        · rw [List.getElem?_append_left hlt] at h
          exact .inl ⟨by omega, by rw [rbm]; exact h⟩
        · rw [List.getElem?_append_right (by omega)] at h
          have h2 := (List.getElem?_eq_some_iff.1 h).1
          rw [upFrom_length] at h2
          rw [upFrom_get _ _ _ h2] at h
          cases h
          exact .inr ⟨by omega, by omega⟩
      have hRN : r1.Ok τ2 σ' := by
        refine ⟨fun i mv hi hmv' => ?_, fun i hi n hn => ?_, fun b c q hbc hq => ?_, rfl⟩
        · rw [r1fm] at hmv'
          obtain ⟨n, hn⟩ := mvDen_ok R (hmv mv (List.mem_of_getElem? hmv'))
          have := hm.fm i mv n hmv' hn
          rw [hN, Nat.zero_add] at this
          refine ⟨n, ?_, prefix_get l2.n this⟩
          cases mv with
          | num x => exact Num.den_mono hle hn
          | be e =>
            simp only [MV.den, Option.map_eq_some_iff] at hn ⊢
            obtain ⟨b, hb, rfl⟩ := hn
            exact ⟨b, BE.den_mono hle hb, rfl⟩
        · show (σ.n ++ τ2.n.drop M.H0.nn)[r1.nn + (i - r1.K)]? = some n
          rw [r1nn, r1K] at *
          rw [List.getElem?_append_right (by rw [R.nlen]; omega), List.getElem?_drop, R.nlen]
          rw [show M.H0.nn + (H.nn + (i - M.H0.nn) - H.nn) = i by omega]
          exact hn
        · rcases splitbm b c hbc with ⟨_, h⟩ | ⟨h1, rfl⟩
          · obtain ⟨q', h1, h2⟩ := hbl b c h
            have := prefix_get l2.b h2
            rw [hq] at this; cases this
            exact prefix_get hle.b h1
          · show (σ.b ++ τ2.b.drop M.H0.nb)[H.nb + (b - M.H0.nb)]? = some q
            rw [List.getElem?_append_right (by rw [R.blen]; omega), List.getElem?_drop, R.blen]
            rw [show M.H0.nb + (H.nb + (b - M.H0.nb) - H.nb) = b by omega]
            exact hq
      have rob : ∀ b0 b : Nat, b0 ∈ M.wr ++ upFrom M.H0.nb (M.H1.nb - M.H0.nb) → M.ro b0 = true := by
        intro b0 b h
        unfold MC.ro
        rw [Bool.or_eq_true, Nat.ble_eq]
        rcases List.mem_append.1 h with h | h
        · exact .inr (by simpa using h)
        · exact .inl (upFrom_mem h).1
      have wrsub : ∀ b, b ∈ wrOf r M.wr → b ∈ wrOf r1 (M.wr ++ upFrom M.H0.nb (M.H1.nb - M.H0.nb)) := by
        intro b h
        unfold wrOf at h ⊢
        rw [List.mem_filterMap] at h ⊢
        obtain ⟨b0, h1, h2⟩ := h
        exact ⟨b0, List.mem_append_left _ h1, oldbm _ _ h2⟩
      have notpre : ∀ b ab n sz, H.hp.get b = some ab → σ.b[b]? = some (some (n, sz)) → b ∉ wrOf r M.wr → n ∉ pre := by
        intro b ab n sz hb hq hnb hn
        obtain ⟨c, sz', hc, hcq⟩ := mem_pre n hn
        obtain ⟨_, ab', hab'⟩ := hwr c hc
        exact hnb (R.inj b c ab ab' n sz sz' hb hab' hq hcq ▸ hc)
      have prepre : ∀ m, m < g.w0.heap.size → m ∉ g.pre → m ∉ pre := by
        intro m hm1 hm2 hmp
        obtain ⟨c, sz', hc, hcq⟩ := mem_pre m hmp
        rcases R.own c m sz' (hwr c hc).1 hcq with h | h
        · omega
        · exact hm2 h
      have blkeq : ∀ b ab n sz, H.hp.get b = some ab → σ.b[b]? = some (some (n, sz)) → b ∉ wrOf r M.wr → w'.heap[n]? = w.heap[n]? := fun b ab n sz hb hq hnb =>
        R2.frame n (R.blk_lt hb hq) (notpre b ab n sz hb hq hnb)
      refine hQ _ (List.mem_singleton.2 rfl) σ' w' _ hle ?_ ⟨V, rnAV_ok hRN _ _ sV, rfl⟩
      have backb : ∀ (b : Nat) (q : AB) (n sz : Nat), H.hp.get b = some q → σ'.b[b]? = some (some (n, sz)) → σ.b[b]? = some (some (n, sz)) := by
        intro b q n sz h e1
        obtain ⟨n', sz', k1, _⟩ := R.blk b q h
        have := prefix_get hle.b k1
        rw [e1] at this; cases this
        exact k1
      -- what stands there: an old block that is not written, or one of the contract's
      have cls : ∀ (b : Nat) (ab : AB) (n sz : Nat), (putMs r1 M.H1 (M.wr ++ upFrom M.H0.nb (M.H1.nb - M.H0.nb)) H.hp).get b = some ab → σ'.b[b]? = some (some (n, sz)) →
          (H.hp.get b = some ab ∧ b ∉ wrOf r M.wr ∧ σ.b[b]? = some (some (n, sz))) ∨ (∃ b0 x, r1.bm[b0]? = some b ∧ M.H1.hp.get b0 = some x ∧ τ2.b[b0]? = some (some (n, sz)) ∧ M.ro b0 = true) := by
        intro b ab n sz hb e1
        rcases putMs_get _ _ _ _ hb with ⟨h0, h⟩ | ⟨b0, m0, h1, x, hx, rfl⟩
        · obtain ⟨n', sz', k1, _⟩ := R.blk b ab h
          have := prefix_get hle.b k1
          rw [e1] at this; cases this
          exact .inl ⟨h, fun hw => h0 (wrsub b hw), k1⟩
        · obtain ⟨n', sz', k1, _⟩ := R2.blk b0 x hx
          have := hRN.blk b0 b _ h1 k1
          rw [e1] at this; cases this
          exact .inr ⟨b0, x, h1, hx, k1, rob b0 b m0⟩
      have far : ∀ b0 n sz : Nat, M.ro b0 = true → τ2.b[b0]? = some (some (n, sz)) → w.heap.size ≤ n ∨ n ∈ pre := fun b0 n sz h e => R2.own b0 n sz h e
      refine ⟨?_, ?_, ?_, ?_, ?_, ?_, R2.imm, ?_, ?_, R.sz.trans R2.sz, ?_, ?_, ?_, ?_⟩
      · show (σ.n ++ τ2.n.drop M.H0.nn).length = H.nn + (M.H1.nn - M.H0.nn)
        rw [List.length_append, List.length_drop, R.nlen, R2.nlen]
      · intro i q hi
        rcases rngMs_get _ _ _ _ _ hi with h | ⟨j, j1, j2, j3⟩
        · obtain ⟨n, hn, h2⟩ := R.rng i q h
          exact ⟨n, prefix_get hle.n hn, h2⟩
        · obtain ⟨n, hn, h2⟩ := R2.rng j q j3
          exact ⟨n, by rw [j2]; exact hRN.new j (by rw [r1K]; exact j1) n hn, h2⟩
      · intro p hp
        obtain ⟨a, b, h1, h2, h3⟩ := R.lts p hp
        exact ⟨a, b, Num.den_mono hle h1, Num.den_mono hle h2, h3⟩
      · show (σ.b ++ τ2.b.drop M.H0.nb).length = H.nb + (M.H1.nb - M.H0.nb)
        rw [List.length_append, List.length_drop, R.blen, R2.blen]
      · intro b ab hb
        rcases putMs_get _ _ _ _ hb with ⟨h0, h⟩ | ⟨b0, m0, h1, x, hx, rfl⟩
        · obtain ⟨n, sz, k1, k2⟩ := R.blk b ab h
          refine ⟨n, sz, prefix_get hle.b k1, ?_⟩
          obtain ⟨c, c1, c2, c3, c4⟩ := k2
          exact ⟨c, by rw [blkeq b ab n sz h k1 (fun hw => h0 (wrsub b hw))]; exact c1, c2, c3, fun j v hv => (c4 j v hv).mono hle⟩
        · obtain ⟨n, sz, k1, k2⟩ := R2.blk b0 x hx
          exact ⟨n, sz, hRN.blk b0 b _ h1 k1, rnAB_ok hRN k2⟩
      · intro b b' ab ab' n sz sz' hb hb' e1 e2
        rcases cls b ab n sz hb e1 with ⟨h1, h2, h3⟩ | ⟨b0, x, h1, h2, h3, h4⟩ <;> rcases cls b' ab' n sz' hb' e2 with ⟨g1, g2, g3⟩ | ⟨b1, y, g1, g2, g3, g4⟩
        · exact R.inj b b' ab ab' n sz sz' h1 g1 h3 g3
        · exfalso
          rcases far b1 n sz' g4 g3 with h | h
          · have := R.bnd b n sz h3; omega
          · exact notpre b ab n sz h1 h3 h2 h
        · exfalso
          rcases far b0 n sz h4 h3 with h | h
          · have := R.bnd b' n sz' g3; omega
          · exact notpre b' ab' n sz' g1 g3 g2 h
        · have := R2.inj b0 b1 x y n sz sz' h2 g2 h3 g3
          subst this
          rw [h1] at g1; cases g1; rfl
      · intro b ab n sz hb e1
        rcases cls b ab n sz hb e1 with ⟨h, h0, e1⟩ | ⟨b0, x, h1, hx, e1, _⟩
        · cases hi : τ2.imm n with
          | none => rfl
          | some o =>
            have h2 := R2.immo n o hi (R.blk_lt h e1) (notpre b ab n sz h e1 h0)
            have h3 := R.immd b ab n sz h e1
            have h2 : σ.imm n = some o := h2
            rw [h3] at h2; cases h2
        · exact R2.immd b0 x n sz hx e1
      · intro m hm1 hm2
        have h1 := R2.frame m (Nat.lt_of_lt_of_le hm1 R.size) (prepre m hm1 hm2)
        exact h1.trans (R.frame m hm1 hm2)
      · intro b n sz hro hq
        have hq : (σ.b ++ τ2.b.drop M.H0.nb)[b]? = some (some (n, sz)) := hq
        by_cases hlt : b < σ.b.length
        · rw [List.getElem?_append_left hlt] at hq
          exact R.own b n sz hro hq
        · rw [List.getElem?_append_right (by omega), List.getElem?_drop] at hq
          rcases far _ n sz (by unfold MC.ro; rw [Bool.or_eq_true, Nat.ble_eq]; exact .inl (Nat.le_add_right _ _)) hq with h | h
          · exact .inl (Nat.le_trans R.size h)
          · obtain ⟨c, sz', hc, hcq⟩ := mem_pre n h
            exact R.own c n sz' (hwr c hc).1 hcq
      · intro b n sz hq
        have hq : (σ.b ++ τ2.b.drop M.H0.nb)[b]? = some (some (n, sz)) := hq
        by_cases hlt : b < σ.b.length
        · rw [List.getElem?_append_left hlt] at hq
          exact Nat.lt_of_lt_of_le (R.bnd b n sz hq) R2.size
        · rw [List.getElem?_append_right (by omega), List.getElem?_drop] at hq
          exact R2.bnd _ n sz hq
      · intro m o hi hm1 hm2
        exact R.immo m o (R2.immo m o hi (Nat.lt_of_lt_of_le hm1 R.size) (prepre m hm1 hm2)) hm1 hm2
      · intro fc hfc
        rw [List.mem_filter] at hfc
        have hk := hfc.2
        have h0 := (R.fx fc hfc.1).mono hle (.inl (by cases fc <;> first | rfl | (simp [keepM] at hk; done)))
        cases fc with
        | iter b l k => simp [keepM] at hk
        | cell b i k v =>
          simp only [keepM, Bool.and_eq_true, Bool.not_eq_true', Option.isSome_iff_exists] at hk
          obtain ⟨hnc, q, hq⟩ := hk
          obtain ⟨n, sz, c, e2, fr, mv, j, k1, k2, k3, k4, k5⟩ := h0
          exact ⟨n, sz, c, e2, fr, mv, j, k1, by rw [blkeq b q n sz hq (backb b q n sz hq k1) (by simpa using hnc)]; exact k2, k3, k4, k5⟩
        | rd k' x v =>
          simp only [keepM, Bool.and_eq_true, Option.isSome_iff_exists, List.all_eq_true, Bool.not_eq_true'] at hk
          obtain ⟨⟨⟨⟨⟨⟨hne, g1⟩, g2⟩, g3⟩, g4⟩, g5⟩, g6⟩ := hk
          obtain ⟨a, bv, n0, ns, sz0, k1, k2, k3, k4, k5, k6⟩ := h0
          refine ⟨a, bv, n0, ns, sz0, k1, k2, k3, k4, fun i p hp => ⟨(k5 i p hp).1, ?_⟩, k6⟩
          obtain ⟨⟨psz, q1⟩, q2⟩ := k5 i p hp
          have hi : i < 6 := by have := (List.getElem?_eq_some_iff.1 hp).1; omega
          have hq : ∃ q, H.hp.get (i + 1) = some q := by
            have : i = 0 ∨ i = 1 ∨ i = 2 ∨ i = 3 ∨ i = 4 ∨ i = 5 := by omega
            rcases this with rfl | rfl | rfl | rfl | rfl | rfl <;> assumption
          obtain ⟨q, hq⟩ := hq
          rw [blkeq (i + 1) q p.1 psz hq (backb (i + 1) q p.1 psz hq q1) (fun hc => by
            have := hne (i + 1) hc
            have e1 : Nat.ble 1 (i + 1) = true := by rw [Nat.ble_eq]; omega
            have e2 : Nat.ble (i + 1) 6 = true := by rw [Nat.ble_eq]; omega
            rw [e1, e2] at this
            cases this)]
          exact q2
        | _ => exact h0
    · cases h
  · cases h
end
end Go.Proofs.YtgkoghgiclkbhaaGreatDoor.Sx
