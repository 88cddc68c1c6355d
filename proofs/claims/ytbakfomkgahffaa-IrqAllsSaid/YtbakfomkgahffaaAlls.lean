/- The walk of whirligiglaw14.IrqAlls. No condition but the bounds that stand in it. -/
import Derived.Test.YtbakfomkgahffaaFirst
import Derived.Test.YtbakfomkgahffaaPx8
import Derived.Test.YtbakfomkgahffaaPx11
namespace Go.Proofs.Ytbakfomkgahffaa.It
open Go.RowKit Go.Shelf Go.Proofs.Ytbakfomkgahffaa.P Go.Proofs.YtbakfomkgahffaaW.PrintWords
set_option linter.unusedVariables false
set_option linter.unusedSimpArgs false
attribute [local go_sem] Oper.semAt_some
set_option maxRecDepth 100000
set_option maxHeartbeats 8000000
theorem shown_true : whirligiglaw14_shown.f = some true := by decide +kernel
theorem all_ref : ∀ p : Nat, p < 256 → whirligigref14_All.f 20 (p : Int) = some (bits (p : Int) 5) := by decide +kernel
/-- What a slice of numbers tells. -/
structure LAt (gl : Nat) (A : Option Addr) (xs : List Int) (W : World) : Prop where
  ad : 0 < xs.length → A = some ⟨gl, 0, none⟩
  at_ : ∀ j, j < xs.length → W.cell? ⟨gl, j, none⟩ = some (.int .i64 (xs[j]?.getD 0))
theorem lat_of {W : World} {base : Nat} {ok : Nat → Prop} {v : Value} {xs : List Int} (h : Kd.R (Kd.int .i64) 3 W base ok v xs) : ∃ gl A cap, v = .slice A xs.length cap ∧ LAt gl A xs W := by
  have hown := Kd.own_of_R h
  obtain ⟨hl, ho⟩ := hown
  rcases ho with ⟨rfl, h0⟩ | ⟨g, cap, cur, rfl, hb, hh, hn, hm, hs, ht⟩
  · exact ⟨0, none, 0, by rw [h0], ⟨fun h => absurd h (by omega), fun j hj => absurd hj (by omega)⟩⟩
  · refine ⟨g, _, cap, rfl, ⟨fun _ => rfl, fun j hj => ?_⟩⟩
    rw [cell_of_row W g j cur 3 (0, 0) hh]
    have h1 : (cur.toList.take (xs.length * 1))[j]? = (encs (Value.int .i64) xs)[j]? := by rw [ht]
    rw [List.getElem?_take_of_lt (by omega)] at h1
    rw [← Array.getElem?_toList, h1]
    simp [encs, hj]
theorem pre_iff {xs pre : List Int} {x : Int} (h : pre <+: xs) : pre ++ [x] <+: xs ↔ pre.length < xs.length ∧ xs[pre.length]?.getD 0 = x := by
  obtain ⟨t, rfl⟩ := h
  rw [List.prefix_append_right_inj]
  cases t with
  | nil => simp
  | cons y t => simp [List.cons_prefix_cons, eq_comm]
def codeSnd : Code → Code
  | .seq _ b => b
  | c => c
def codeFst : Code → Code
  | .seq a _ => a
  | c => c
def codeIn : Code → Code
  | .block _ c => c
  | .loop c => c
  | c => c
noncomputable def allsBody : Code := codeIn (codeIn (codeSnd (codeFst (codeSnd (codeSnd (codeSnd (codeSnd (Try.f4.body.getD .skip))))))))
/-- What lies between two rounds of the outer loop. -/
structure AllsAt (w : World) (bm br bl bt gl : Nat) (A : Option Addr) (cap : Nat) (xs : List Int) (most : Nat) (time : Int) (Ds : List Nat) (W : World) : Prop where
  cm : W.cell? ⟨bm, 0, none⟩ = some (.int .u8 (most : Int))
  cr : W.cell? ⟨br, 0, none⟩ = some (.bool false)
  fr : W.frozen? ⟨br, 0, none⟩ = false
  cl : W.cell? ⟨bl, 0, none⟩ = some (.slice A xs.length cap)
  ct : W.cell? ⟨bt, 0, none⟩ = some (.int .i64 time)
  ft : W.frozen? ⟨bt, 0, none⟩ = false
  hat : LAt gl A xs W
  hB : Below w.heap.size w W
  hD : ∀ d ∈ Ds, W.heap[d]? = some (.deferred (some []))
  hr : w.heap.size ≤ br
  ht : w.heap.size ≤ bt
  lt : bt < W.heap.size
  hd : ∀ d ∈ Ds, w.heap.size ≤ d
structure AllsLt (bi bm br bl bt gl : Nat) (xs : List Int) (Ds : List Nat) : Prop where
  m : bm < bi
  r : br < bi
  l : bl < bi
  t : bt < bi
  g : 0 < xs.length → gl < bi
  d : ∀ d ∈ Ds, d < bi
theorem AllsAt.lts {w : World} {bm br bl bt gl : Nat} {A : Option Addr} {cap : Nat} {xs : List Int} {most : Nat} {time : Int} {Ds : List Nat} {W : World} (h : AllsAt w bm br bl bt gl A cap xs most time Ds W) : AllsLt W.heap.size bm br bl bt gl xs Ds where
  m := World.block_lt_of_cell? W _ h.cm
  r := World.block_lt_of_cell? W _ h.cr
  l := World.block_lt_of_cell? W _ h.cl
  t := h.lt
  g := fun h0 => World.block_lt_of_cell? W _ (h.hat.at_ 0 h0)
  d := fun d hd => (Array.getElem?_eq_some_iff.1 (h.hD d hd)).1
theorem AllsAt.mono {w : World} {bi bm br bl bt gl : Nat} {A : Option Addr} {cap : Nat} {xs : List Int} {most : Nat} {time : Int} {Ds : List Nat} {W W' : World} (h : AllsAt w bm br bl bt gl A cap xs most time Ds W) (hl : AllsLt bi bm br bl bt gl xs Ds) (hb : Below bi W W') (hw : w.heap.size ≤ bi) : AllsAt w bm br bl bt gl A cap xs most time Ds W' where
  cm := (hb.cell (p := ⟨bm, 0, none⟩) hl.m).trans h.cm
  cr := (hb.cell (p := ⟨br, 0, none⟩) hl.r).trans h.cr
  fr := (World.frozen?_of_block (hb.block br hl.r)).trans h.fr
  cl := (hb.cell (p := ⟨bl, 0, none⟩) hl.l).trans h.cl
  ct := (hb.cell (p := ⟨bt, 0, none⟩) hl.t).trans h.ct
  ft := (World.frozen?_of_block (hb.block bt hl.t)).trans h.ft
  hat := ⟨h.hat.ad, fun j hj => (hb.cell (p := ⟨gl, j, none⟩) (hl.g (by omega))).trans (h.hat.at_ j hj)⟩
  hB := h.hB.trans (hb.mono hw)
  hD := fun d hd => (hb.block d (hl.d d hd)).trans (h.hD d hd)
  hr := h.hr
  ht := h.ht
  lt := Nat.lt_of_lt_of_le h.lt hb.size
  hd := h.hd
theorem AllsAt.next {w : World} {bm br bl bt bt' gl D : Nat} {A : Option Addr} {cap : Nat} {xs : List Int} {most : Nat} {time time' : Int} {Ds : List Nat} {W : World} (h : AllsAt w bm br bl bt gl A cap xs most time Ds W)
    (ct : W.cell? ⟨bt', 0, none⟩ = some (.int .i64 time')) (ft : W.frozen? ⟨bt', 0, none⟩ = false) (ht : w.heap.size ≤ bt') (hD : W.heap[D]? = some (.deferred (some []))) (hd : w.heap.size ≤ D) : AllsAt w bm br bl bt' gl A cap xs most time' (D :: Ds) W :=
  ⟨h.cm, h.cr, h.fr, h.cl, ct, ft, h.hat, h.hB, fun d hd => by rcases List.mem_cons.1 hd with rfl | hd; exact hD; exact h.hD d hd, h.hr, ht, World.block_lt_of_cell? W _ ct, fun d hd' => by rcases List.mem_cons.1 hd' with rfl | hd'; exact hd; exact h.hd d hd'⟩
theorem alls_round0 (Q : Exit → Act → World → Prop) (m : Nat) (w W : World) (p most : Nat) (hp : p < 256) (hm : most < 256) (bm br bl bt gl : Nat) (A : Option Addr) (cap : Nat) (xs : List Int) (hxs : bits (p : Int) 5 = xs) (Ds : List Nat) (u1 u2 u8 u9 u11 u12 u13 u14 u15 u16 u17 u18 u19 u20 u21 u22 u23 u24 u25 u26 u27 u28 u29 u30 u31 u32 u33 u34 u35 u36 u37 u38 u39 u40 u41 u42 u43 u44 u45 u46 u47 u48 u49 u50 u51 u52 u53 u54 u55 u56 u57 u58 u59 u60 u61 u62 u63 : Value)
    (h : AllsAt w bm br bl bt gl A cap xs most 0 Ds W)
    (next : ∀ (D bt' : Nat) (W' : World) (u1 u2 u8 u9 u11 u12 u13 u14 u15 u16 u17 u18 u19 u20 u21 u22 u23 u24 u25 u26 u27 u28 u29 u30 u31 u32 u33 u34 u35 u36 u37 u38 u39 u40 u41 u42 u43 u44 u45 u46 u47 u48 u49 u50 u51 u52 u53 u54 u55 u56 u57 u58 u59 u60 u61 u62 u63 : Value), AllsAt w bm br bl bt' gl A cap xs most 1 (D :: Ds) W' → (∀ d ∈ Ds, d < D) →
      Code.roundsIn Fence.wide 3 Try.prog allsBody Q m { tmps := #[.int .u8 (p : Int), u1, u2, .pointer (some ⟨bm, 0, none⟩), .pointer (some ⟨br, 0, none⟩), .bool true, .pointer (some ⟨bl, 0, none⟩), .pointer (some ⟨bt', 0, none⟩), u8, u9, .bool true, u11, u12, u13, u14, u15, u16, u17, u18, u19, u20, u21, u22, u23, u24, u25, u26, u27, u28, u29, u30, u31, u32, u33, u34, u35, u36, u37, u38, u39, u40, u41, u42, u43, u44, u45, u46, u47, u48, u49, u50, u51, u52, u53, u54, u55, u56, u57, u58, u59, u60, u61, u62, u63], defers := { target := .collected D, args := #[] } :: Ds.map (fun d => { target := .collected d, args := #[] }) } W') :
    Code.roundsIn Fence.wide 3 Try.prog allsBody Q (m + 1) { tmps := #[.int .u8 (p : Int), u1, u2, .pointer (some ⟨bm, 0, none⟩), .pointer (some ⟨br, 0, none⟩), .bool true, .pointer (some ⟨bl, 0, none⟩), .pointer (some ⟨bt, 0, none⟩), u8, u9, .bool true, u11, u12, u13, u14, u15, u16, u17, u18, u19, u20, u21, u22, u23, u24, u25, u26, u27, u28, u29, u30, u31, u32, u33, u34, u35, u36, u37, u38, u39, u40, u41, u42, u43, u44, u45, u46, u47, u48, u49, u50, u51, u52, u53, u54, u55, u56, u57, u58, u59, u60, u61, u62, u63], defers := Ds.map (fun d => { target := .collected d, args := #[] }) } W := by
  have h1 : 1 ≤ 3 := by omega
  rw [roundsIn_succ]
  obtain ⟨K0, hK0⟩ : ∃ K, Code.roundsIn Fence.wide 3 Try.prog allsBody Q m = K := ⟨_, rfl⟩
  rw [hK0] at next ⊢
  clear hK0
  have NX := Aside0.mk next
  clear next
  have hx5 : xs.length ≤ 5 := by rw [← hxs]; exact bits_length _ _
  have ct := h.ct
  have lt := h.lt
  have H := Aside0.mk h
  clear h
  obtain ⟨dds, hdds⟩ : ∃ x, Ds.map (fun d => ({ target := .collected d, args := #[] } : Deferred)) = x := ⟨_, rfl⟩
  rw [hdds] at NX ⊢
  clear hdds
  simp only [allsBody, codeSnd, codeFst, codeIn, Try.f4, Option.getD_some]
  gi_wp2_with fail
  refine ⟨trivial, (all_in Fence.wide 2 trivial rfl _ _).mono ?_⟩
  rintro e w3 ⟨rfl, rfl⟩
  gi_wp2_with fail
  obtain ⟨bi, hbi⟩ : ∃ bi, W.heap.size = bi := ⟨_, rfl⟩
  have hl : AllsLt bi bm br bl bt gl xs Ds := hbi ▸ H.out.lts
  have hwb : w.heap.size ≤ bi := by have := H.out.hB.size; omega
  obtain ⟨V0, hV0⟩ : ∃ V, (W.alloc (.cells #[.int .i64 0] 3)).alloc (.cells #[.int .u8 (p : Int)] 5) = V := ⟨_, rfl⟩
  have c0 := cell_new_l W (.int .i64 0) 3
  have c1 := cell_new_l (W.alloc (.cells #[.int .i64 0] 3)) (.int .u8 (p : Int)) 5
  rw [World.size_alloc, hV0] at c1
  have ci := cell_alloc_l (.cells #[.int .u8 (p : Int)] 5) c0.1
  have fi := frozen_alloc_l (.cells #[.int .u8 (p : Int)] 5) c0.1 c0.2
  rw [hV0] at ci fi
  have hb0 : Below bi W V0 := by rw [← hV0, ← hbi]; exact below_alloc (below_alloc (Below.refl _ _) _) _
  have hs0 : V0.heap.size = bi + 2 := by rw [← hV0, ← hbi]; simp
  have hI0 := H.out.mono hl hb0 hwb
  rw [hbi] at c1 ci fi
  rw [hV0, hbi]
  clear hV0 hbi c0 hb0 H ct lt
  refine wpIn_rangeFunc_ownF rfl h1 (gf := 28) (lb := #[.pointer (some ⟨bi + 1, 0, none⟩)]) rfl trivial (enters_of Try.func28 (by kernel_rfl) rfl)
    (all_stops Fence.wide 2 trivial rfl (by omega) (bi + 1) p _ (by omega) c1.1)
    (fun h k v e => k v (h v e)) (fun V l o o' hl ho hc _ v e => (World.cell?_of_block (World.putObj_heap_other (by dsimp only; omega))).trans e) (Below.refl _ _) (fun _ => rfl)
    (fun pre V => AllsAt w bm br bl bt gl A cap xs most 0 Ds V ∧ pre <+: xs ∧ V.cell? ⟨bi, 0, none⟩ = some (.int .i64 (pre.length : Int)) ∧ V.frozen? ⟨bi, 0, none⟩ = false)
    (fun c ps V => (c = .ret ∧ ¬ ps <+: xs) ∨ (c = .exit 2 ∧ Aside0 ((0 : Int) = 0) ∧ (ps.length = most ∧ 0 < most) ∧ (AllsAt w bm br bl bt gl A cap xs most 0 Ds V ∧ ps <+: xs ∧ V.cell? ⟨bi, 0, none⟩ = some (.int .i64 (ps.length : Int)) ∧ V.frozen? ⟨bi, 0, none⟩ = false)))
    (fun s A' B' row hs hg hr => ⟨hs.1.mono hl ((Below.refl bi A').grown hg (by have := World.block_lt_of_cell? A' _ hs.2.2.1; dsimp only at this; omega) (fun k e => by have := (hr k e).1; omega)) hwb, hs.2.1, cell_kept hs.2.2.1 hg (fun r e => (hr r e).2), (frozen_kept hs.2.2.1 hg (fun r e => (hr r e).2)).trans hs.2.2.2⟩)
    (fun c s A' B' row hs hg hr => by
      rcases hs with hs | ⟨h1, h2, h3, hs⟩
      · exact .inl hs
      · exact .inr ⟨h1, h2, h3, hs.1.mono hl ((Below.refl bi A').grown hg (by have := World.block_lt_of_cell? A' _ hs.2.2.1; dsimp only at this; omega) (fun k e => by have := (hr k e).1; omega)) hwb, hs.2.1, cell_kept hs.2.2.1 hg (fun r e => (hr r e).2), (frozen_kept hs.2.2.1 hg (fun r e => (hr r e).2)).trans hs.2.2.2⟩)
    ⟨hI0, List.nil_prefix, ci, fi⟩
    (fun x => { tmps := #[.int .u8 (p : Int), u1, u2, .pointer (some ⟨bm, 0, none⟩), .pointer (some ⟨br, 0, none⟩), .bool true, .pointer (some ⟨bl, 0, none⟩), .pointer (some ⟨bt, 0, none⟩), .pointer (some ⟨bi, 0, none⟩), .int .i64 x, .bool true, u11, u12, u13, u14, .int .i64 0, .bool true, u17, u18, .int .u8 (p : Int), .func (.func 28) #[] #[.pointer (some ⟨bi + 1, 0, none⟩)], .int .i64 x, u22, u23, u24, u25, u26, u27, u28, u29, u30, u31, u32, u33, u34, u35, u36, u37, u38, u39, u40, u41, u42, u43, u44, u45, u46, u47, u48, u49, u50, u51, u52, u53, u54, u55, u56, u57, u58, u59, u60, u61, u62, u63], defers := [] }) ?assign ?body ?done ?stop
  case assign =>
    intro l x V K hK
    gi_wp2
    exact hK
  case body =>
    rintro l pre x V ⟨hA, hpre, ci, fi⟩ _
    have hiff := pre_iff (x := x) hpre
    have cm := hA.cm
    have cr := hA.cr
    have fr := hA.fr
    have cl := hA.cl
    have ct := hA.ct
    have AT := Aside0.mk hA
    clear c1 hI0
    have nt : ¬ bt = bi := by have := hl.t; omega
    have nm : ¬ bm = bi := by have := hl.m; omega
    have nr : ¬ br = bi := by have := hl.r; omega
    have nl : ¬ bl = bi := by have := hl.l; omega
    have np : ¬ bi + 1 = bi := by omega
    by_cases hlt : pre.length < xs.length
    · have hc := hA.hat.at_ pre.length hlt
      have hAd := hA.hat.ad (by omega)
      subst hAd
      clear hA
      have hle : ¬ xs.length ≤ pre.length := by omega
      by_cases hx : xs[pre.length]?.getD 0 = x
      · have hok := hiff.2 ⟨hlt, hx⟩
        have hxe : xs[pre.length]'hlt = x := by rw [← hx]; simp [hlt]
        have IF := Aside0.mk hok
        clear hiff hok hpre hx
        gi_wp2
        all_goals have hci : (V.setCell ⟨bi, 0, none⟩ (.int .i64 ((pre.length : Int) + 1))).cell? ⟨bi, 0, none⟩ = some (.int .i64 ((pre ++ [x]).length : Int)) := (by have hh := World.cell?_setCell_same' V ⟨bi, 0, none⟩ (.int .i64 ((pre.length : Int) + 1)) (by rw [ci]; rfl); simpa using hh)
        all_goals have hfi : (V.setCell ⟨bi, 0, none⟩ (.int .i64 ((pre.length : Int) + 1))).frozen? ⟨bi, 0, none⟩ = false := by rw [World.frozen?_setCell]; exact fi
        all_goals have hA2 := AT.out.mono hl ((Below.refl bi V).setCell (p := ⟨bi, 0, none⟩) (Nat.le_refl _) (.int .i64 ((pre.length : Int) + 1))) hwb
        · have heq : (↑pre.length + 1 == (↑most : Int)) = true := by assumption
          have he2 : pre.length + 1 = most := by simp at heq; omega
          exact ⟨KeepsOthers.setCell _ _ _, .inr ⟨rfl, ⟨by first | trivial | rfl⟩, ⟨by simp; omega, by omega⟩, hA2, IF.out, hci, hfi⟩⟩
        · exact ⟨KeepsOthers.setCell _ _ _, fun v e => (World.cell?_setCell_other _ _ _ _ (by simp)).trans e, hA2, IF.out, hci, hfi⟩
      · have hno : ¬ pre ++ [x] <+: xs := fun h => hx (hiff.1 h).2
        have IF := Aside0.mk hno
        have hxe : (xs[pre.length]'hlt != x) = true := by simpa [hlt] using hx
        clear hiff hno hpre hx
        gi_wp2
        exact ⟨KeepsOthers.setCell _ _ _, .inl ⟨rfl, IF.out⟩⟩
    · have hno : ¬ pre ++ [x] <+: xs := fun h => hlt (hiff.1 h).1
      have IF := Aside0.mk hno
      have hle : xs.length ≤ pre.length := by omega
      clear hiff hno hpre hA
      gi_wp2
      exact ⟨KeepsOthers.setCell _ _ _, .inl ⟨rfl, IF.out⟩⟩
  case done =>
    rintro D ys V hD hys ⟨hA, hpre, ci, fi⟩ hK
    rw [hxs] at hys
    subst hys
    have cm := hA.cm
    have cl := hA.cl
    have ct := hA.ct
    have AT := Aside0.mk (And.intro hA (And.intro hK hD))
    clear hA hK hD hpre c1 hI0 fi
    gi_wp2
    all_goals obtain ⟨hA, hK, hD⟩ := AT.out
    all_goals refine NX.out D V.heap.size _ _ _ _ _ _ _ _ _ _ _ _ _ _ _ _ _ _ _ _ _ _ _ _ _ _ _ _ _ _ _ _ _ _ _ _ _ _ _ _ _ _ _ _ _ _ _ _ _ _ _ _ _ _ _ _ _ _ ?_ (fun d hd => by have := hl.d d hd; omega)
    all_goals refine (hA.mono hA.lts (below_alloc (Below.refl _ _) _) hA.hB.size).next (cell_new_l V _ 3).1 (cell_new_l V _ 3).2 hA.hB.size (blk_alloc hK _) (by omega)
  case stop =>
    rintro D c ps V hD hps hIx hK
    rw [hxs] at hps
    rcases hIx with ⟨rfl, hno⟩ | ⟨rfl, hz, ⟨hlen, hpos⟩, hA, hpre, ci, fi⟩
    · exact absurd hps hno
    · have cm := hA.cm
      have cl := hA.cl
      have ct := hA.ct
      have hm0 : ¬ most = 0 := by omega
      have hml : ¬ xs.length < most := by have := hps.length_le; omega
      rw [hlen] at ci
      have AT := Aside0.mk (And.intro hA (And.intro hK hD))
      clear hA hK hD hpre c1 hI0 fi hlen hpos hz hps
      gi_wp2
      all_goals obtain ⟨hA, hK, hD⟩ := AT.out
      all_goals refine NX.out D V.heap.size _ _ _ _ _ _ _ _ _ _ _ _ _ _ _ _ _ _ _ _ _ _ _ _ _ _ _ _ _ _ _ _ _ _ _ _ _ _ _ _ _ _ _ _ _ _ _ _ _ _ _ _ _ _ _ _ _ _ ?_ (fun d hd => by have := hl.d d hd; omega)
      all_goals refine (hA.mono hA.lts (below_alloc (Below.refl _ _) _) hA.hB.size).next (cell_new_l V _ 3).1 (cell_new_l V _ 3).2 hA.hB.size (blk_alloc hK _) (by omega)
theorem alls_round1 (Q : Exit → Act → World → Prop) (m : Nat) (w W : World) (p most : Nat) (hp : p < 256) (hm : most < 256) (bm br bl bt gl : Nat) (A : Option Addr) (cap : Nat) (xs : List Int) (hxs : bits (p : Int) 5 = xs) (Ds : List Nat) (u1 u2 u8 u9 u11 u12 u13 u14 u15 u16 u17 u18 u19 u20 u21 u22 u23 u24 u25 u26 u27 u28 u29 u30 u31 u32 u33 u34 u35 u36 u37 u38 u39 u40 u41 u42 u43 u44 u45 u46 u47 u48 u49 u50 u51 u52 u53 u54 u55 u56 u57 u58 u59 u60 u61 u62 u63 : Value)
    (h : AllsAt w bm br bl bt gl A cap xs most 1 Ds W)
    (next : ∀ (D bt' : Nat) (W' : World) (u1 u2 u8 u9 u11 u12 u13 u14 u15 u16 u17 u18 u19 u20 u21 u22 u23 u24 u25 u26 u27 u28 u29 u30 u31 u32 u33 u34 u35 u36 u37 u38 u39 u40 u41 u42 u43 u44 u45 u46 u47 u48 u49 u50 u51 u52 u53 u54 u55 u56 u57 u58 u59 u60 u61 u62 u63 : Value), AllsAt w bm br bl bt' gl A cap xs most 2 (D :: Ds) W' → (∀ d ∈ Ds, d < D) →
      Code.roundsIn Fence.wide 3 Try.prog allsBody Q m { tmps := #[.int .u8 (p : Int), u1, u2, .pointer (some ⟨bm, 0, none⟩), .pointer (some ⟨br, 0, none⟩), .bool true, .pointer (some ⟨bl, 0, none⟩), .pointer (some ⟨bt', 0, none⟩), u8, u9, .bool true, u11, u12, u13, u14, u15, u16, u17, u18, u19, u20, u21, u22, u23, u24, u25, u26, u27, u28, u29, u30, u31, u32, u33, u34, u35, u36, u37, u38, u39, u40, u41, u42, u43, u44, u45, u46, u47, u48, u49, u50, u51, u52, u53, u54, u55, u56, u57, u58, u59, u60, u61, u62, u63], defers := { target := .collected D, args := #[] } :: Ds.map (fun d => { target := .collected d, args := #[] }) } W') :
    Code.roundsIn Fence.wide 3 Try.prog allsBody Q (m + 1) { tmps := #[.int .u8 (p : Int), u1, u2, .pointer (some ⟨bm, 0, none⟩), .pointer (some ⟨br, 0, none⟩), .bool true, .pointer (some ⟨bl, 0, none⟩), .pointer (some ⟨bt, 0, none⟩), u8, u9, .bool true, u11, u12, u13, u14, u15, u16, u17, u18, u19, u20, u21, u22, u23, u24, u25, u26, u27, u28, u29, u30, u31, u32, u33, u34, u35, u36, u37, u38, u39, u40, u41, u42, u43, u44, u45, u46, u47, u48, u49, u50, u51, u52, u53, u54, u55, u56, u57, u58, u59, u60, u61, u62, u63], defers := Ds.map (fun d => { target := .collected d, args := #[] }) } W := by
  have h1 : 1 ≤ 3 := by omega
  rw [roundsIn_succ]
  obtain ⟨K0, hK0⟩ : ∃ K, Code.roundsIn Fence.wide 3 Try.prog allsBody Q m = K := ⟨_, rfl⟩
  rw [hK0] at next ⊢
  clear hK0
  have NX := Aside0.mk next
  clear next
  have hx5 : xs.length ≤ 5 := by rw [← hxs]; exact bits_length _ _
  have ct := h.ct
  have lt := h.lt
  have H := Aside0.mk h
  clear h
  obtain ⟨dds, hdds⟩ : ∃ x, Ds.map (fun d => ({ target := .collected d, args := #[] } : Deferred)) = x := ⟨_, rfl⟩
  rw [hdds] at NX ⊢
  clear hdds
  simp only [allsBody, codeSnd, codeFst, codeIn, Try.f4, Option.getD_some]
  gi_wp2_with fail
  refine ⟨trivial, (all_in Fence.wide 2 trivial rfl _ _).mono ?_⟩
  rintro e w3 ⟨rfl, rfl⟩
  gi_wp2_with fail
  obtain ⟨bi, hbi⟩ : ∃ bi, W.heap.size = bi := ⟨_, rfl⟩
  have hl : AllsLt bi bm br bl bt gl xs Ds := hbi ▸ H.out.lts
  have hwb : w.heap.size ≤ bi := by have := H.out.hB.size; omega
  obtain ⟨V0, hV0⟩ : ∃ V, (W.alloc (.cells #[.int .i64 0] 3)).alloc (.cells #[.int .u8 (p : Int)] 5) = V := ⟨_, rfl⟩
  have c0 := cell_new_l W (.int .i64 0) 3
  have c1 := cell_new_l (W.alloc (.cells #[.int .i64 0] 3)) (.int .u8 (p : Int)) 5
  rw [World.size_alloc, hV0] at c1
  have ci := cell_alloc_l (.cells #[.int .u8 (p : Int)] 5) c0.1
  have fi := frozen_alloc_l (.cells #[.int .u8 (p : Int)] 5) c0.1 c0.2
  rw [hV0] at ci fi
  have hb0 : Below bi W V0 := by rw [← hV0, ← hbi]; exact below_alloc (below_alloc (Below.refl _ _) _) _
  have hs0 : V0.heap.size = bi + 2 := by rw [← hV0, ← hbi]; simp
  have hI0 := H.out.mono hl hb0 hwb
  rw [hbi] at c1 ci fi
  rw [hV0, hbi]
  clear hV0 hbi c0 hb0 H ct lt
  refine wpIn_rangeFunc_ownF rfl h1 (gf := 28) (lb := #[.pointer (some ⟨bi + 1, 0, none⟩)]) rfl trivial (enters_of Try.func28 (by kernel_rfl) rfl)
    (all_stops Fence.wide 2 trivial rfl (by omega) (bi + 1) p _ (by omega) c1.1)
    (fun h k v e => k v (h v e)) (fun V l o o' hl ho hc _ v e => (World.cell?_of_block (World.putObj_heap_other (by dsimp only; omega))).trans e) (Below.refl _ _) (fun _ => rfl)
    (fun pre V => AllsAt w bm br bl bt gl A cap xs most 1 Ds V ∧ pre <+: xs ∧ V.cell? ⟨bi, 0, none⟩ = some (.int .i64 (pre.length : Int)) ∧ V.frozen? ⟨bi, 0, none⟩ = false)
    (fun c ps V => (c = .ret ∧ ¬ ps <+: xs) ∨ (c = .exit 2 ∧ Aside0 ((1 : Int) = 0) ∧ (ps.length = most ∧ 0 < most) ∧ (AllsAt w bm br bl bt gl A cap xs most 1 Ds V ∧ ps <+: xs ∧ V.cell? ⟨bi, 0, none⟩ = some (.int .i64 (ps.length : Int)) ∧ V.frozen? ⟨bi, 0, none⟩ = false)))
    (fun s A' B' row hs hg hr => ⟨hs.1.mono hl ((Below.refl bi A').grown hg (by have := World.block_lt_of_cell? A' _ hs.2.2.1; dsimp only at this; omega) (fun k e => by have := (hr k e).1; omega)) hwb, hs.2.1, cell_kept hs.2.2.1 hg (fun r e => (hr r e).2), (frozen_kept hs.2.2.1 hg (fun r e => (hr r e).2)).trans hs.2.2.2⟩)
    (fun c s A' B' row hs hg hr => by
      rcases hs with hs | ⟨h1, h2, h3, hs⟩
      · exact .inl hs
      · exact .inr ⟨h1, h2, h3, hs.1.mono hl ((Below.refl bi A').grown hg (by have := World.block_lt_of_cell? A' _ hs.2.2.1; dsimp only at this; omega) (fun k e => by have := (hr k e).1; omega)) hwb, hs.2.1, cell_kept hs.2.2.1 hg (fun r e => (hr r e).2), (frozen_kept hs.2.2.1 hg (fun r e => (hr r e).2)).trans hs.2.2.2⟩)
    ⟨hI0, List.nil_prefix, ci, fi⟩
    (fun x => { tmps := #[.int .u8 (p : Int), u1, u2, .pointer (some ⟨bm, 0, none⟩), .pointer (some ⟨br, 0, none⟩), .bool true, .pointer (some ⟨bl, 0, none⟩), .pointer (some ⟨bt, 0, none⟩), .pointer (some ⟨bi, 0, none⟩), .int .i64 x, .bool true, u11, u12, u13, u14, .int .i64 1, .bool true, u17, u18, .int .u8 (p : Int), .func (.func 28) #[] #[.pointer (some ⟨bi + 1, 0, none⟩)], .int .i64 x, u22, u23, u24, u25, u26, u27, u28, u29, u30, u31, u32, u33, u34, u35, u36, u37, u38, u39, u40, u41, u42, u43, u44, u45, u46, u47, u48, u49, u50, u51, u52, u53, u54, u55, u56, u57, u58, u59, u60, u61, u62, u63], defers := [] }) ?assign ?body ?done ?stop
  case assign =>
    intro l x V K hK
    gi_wp2
    exact hK
  case body =>
    rintro l pre x V ⟨hA, hpre, ci, fi⟩ _
    have hiff := pre_iff (x := x) hpre
    have cm := hA.cm
    have cr := hA.cr
    have fr := hA.fr
    have cl := hA.cl
    have ct := hA.ct
    have AT := Aside0.mk hA
    clear c1 hI0
    have nt : ¬ bt = bi := by have := hl.t; omega
    have nm : ¬ bm = bi := by have := hl.m; omega
    have nr : ¬ br = bi := by have := hl.r; omega
    have nl : ¬ bl = bi := by have := hl.l; omega
    have np : ¬ bi + 1 = bi := by omega
    by_cases hlt : pre.length < xs.length
    · have hc := hA.hat.at_ pre.length hlt
      have hAd := hA.hat.ad (by omega)
      subst hAd
      clear hA
      have hle : ¬ xs.length ≤ pre.length := by omega
      by_cases hx : xs[pre.length]?.getD 0 = x
      · have hok := hiff.2 ⟨hlt, hx⟩
        have hxe : xs[pre.length]'hlt = x := by rw [← hx]; simp [hlt]
        have IF := Aside0.mk hok
        clear hiff hok hpre hx
        gi_wp2
        all_goals have hci : (V.setCell ⟨bi, 0, none⟩ (.int .i64 ((pre.length : Int) + 1))).cell? ⟨bi, 0, none⟩ = some (.int .i64 ((pre ++ [x]).length : Int)) := (by have hh := World.cell?_setCell_same' V ⟨bi, 0, none⟩ (.int .i64 ((pre.length : Int) + 1)) (by rw [ci]; rfl); simpa using hh)
        all_goals have hfi : (V.setCell ⟨bi, 0, none⟩ (.int .i64 ((pre.length : Int) + 1))).frozen? ⟨bi, 0, none⟩ = false := by rw [World.frozen?_setCell]; exact fi
        all_goals have hA2 := AT.out.mono hl ((Below.refl bi V).setCell (p := ⟨bi, 0, none⟩) (Nat.le_refl _) (.int .i64 ((pre.length : Int) + 1))) hwb
        · exact ⟨KeepsOthers.setCell _ _ _, fun v e => (World.cell?_setCell_other _ _ _ _ (by simp)).trans e, hA2, IF.out, hci, hfi⟩
      · have hno : ¬ pre ++ [x] <+: xs := fun h => hx (hiff.1 h).2
        have IF := Aside0.mk hno
        have hxe : (xs[pre.length]'hlt != x) = true := by simpa [hlt] using hx
        clear hiff hno hpre hx
        gi_wp2
        exact ⟨KeepsOthers.setCell _ _ _, .inl ⟨rfl, IF.out⟩⟩
    · have hno : ¬ pre ++ [x] <+: xs := fun h => hlt (hiff.1 h).1
      have IF := Aside0.mk hno
      have hle : xs.length ≤ pre.length := by omega
      clear hiff hno hpre hA
      gi_wp2
      exact ⟨KeepsOthers.setCell _ _ _, .inl ⟨rfl, IF.out⟩⟩
  case done =>
    rintro D ys V hD hys ⟨hA, hpre, ci, fi⟩ hK
    rw [hxs] at hys
    subst hys
    have cm := hA.cm
    have cl := hA.cl
    have ct := hA.ct
    have AT := Aside0.mk (And.intro hA (And.intro hK hD))
    clear hA hK hD hpre c1 hI0 fi
    gi_wp2
    all_goals obtain ⟨hA, hK, hD⟩ := AT.out
    all_goals refine NX.out D V.heap.size _ _ _ _ _ _ _ _ _ _ _ _ _ _ _ _ _ _ _ _ _ _ _ _ _ _ _ _ _ _ _ _ _ _ _ _ _ _ _ _ _ _ _ _ _ _ _ _ _ _ _ _ _ _ _ _ _ _ ?_ (fun d hd => by have := hl.d d hd; omega)
    all_goals refine (hA.mono hA.lts (below_alloc (Below.refl _ _) _) hA.hB.size).next (cell_new_l V _ 3).1 (cell_new_l V _ 3).2 hA.hB.size (blk_alloc hK _) (by omega)
  case stop =>
    rintro D c ps V hD hps hIx hK
    rw [hxs] at hps
    rcases hIx with ⟨rfl, hno⟩ | ⟨rfl, hz, hlen, hA, hpre, ci, fi⟩
    · exact absurd hps hno
    · exact absurd hz.out (by omega)
theorem alls_walk (p most : Nat) (hp : p < 256) (hm : most < 256) (w : World) :
    Calls Try.prog 4 #[.int .u8 (p : Int), .int .u8 (most : Int)] w fun e W' => e = .returned (.bool true) ∧ Below w.heap.size w W' := by
  refine (callsIn_wide (n := 3)).1 ?_
  have h1 : 1 ≤ 3 := by omega
  refine callsIn_of_wp_marks Try.func4 rfl trivial ?_ rfl
  simp only [Try.ntmps4, List.size_toArray, List.length_cons, List.length_nil, Nat.reduceAdd, Nat.reduceSub, Array.replicate_succ, Array.replicate_zero, List.push_toArray, List.append_toArray, List.nil_append, List.cons_append]
  gi_wp2_with fail
  refine ⟨trivial, (callsIn_wide.2 (whirligiglaw14_shown.calls true _ shown_true)).mono ?_⟩
  rintro e w1 ⟨rfl, b1⟩
  have c0 := cell_new_l w (.int .u8 (most : Int)) 5
  have c1 := cell_new_l (w.alloc (.cells #[.int .u8 (most : Int)] 5)) (.bool false) 4
  simp only [World.size_alloc] at c1
  have hB1 : Below w.heap.size w w1 := below_step (below_alloc (below_alloc (Below.refl _ _) _) _) b1
  have m1 := (b1.cell (p := ⟨w.heap.size, 0, none⟩) (by simp; omega)).trans (cell_alloc_l (.cells #[.bool false] 4) c0.1)
  have r1 := (b1.cell (p := ⟨w.heap.size + 1, 0, none⟩) (by simp)).trans c1.1
  have fr1 := (World.frozen?_of_block (b1.block (w.heap.size + 1) (by simp))).trans c1.2
  have hs1 : w.heap.size + 2 ≤ w1.heap.size := by have := b1.size; simp at this; omega
  have H1 := Aside0.mk (And.intro hB1 (And.intro m1 (And.intro r1 (And.intro fr1 hs1))))
  clear b1 c0 c1 hB1 m1 r1 fr1 hs1
  gi_wp2_with fail
  refine ⟨trivial, (callsIn_wide.2 (whirligigref14_All.calls 20 _ _ _ (all_ref p hp))).mono ?_⟩
  rintro e w2 ⟨vl, rfl, HR, b2⟩
  obtain ⟨gl, A, cap, rfl, hat⟩ := lat_of HR
  clear HR
  obtain ⟨xs, hxs⟩ : ∃ xs, bits (p : Int) 5 = xs := ⟨_, rfl⟩
  rw [hxs] at hat
  rw [hxs]
  have H2 := Aside0.mk (And.intro b2 hat)
  clear b2 hat
  gi_wp2_with fail
  refine wpIn_loop_rounds 3 ?_
  obtain ⟨hB1, m1, r1, fr1, hs1⟩ := H1.out
  obtain ⟨b2, hat⟩ := H2.out
  have cl := cell_new_l w2 (.slice A xs.length cap) 29
  have ct := cell_new_l (w2.alloc (.cells #[.slice A xs.length cap] 29)) (.int .i64 0) 3
  rw [World.size_alloc] at ct
  have hs2 := b2.size
  have hbb : Below w1.heap.size w1 ((w2.alloc (.cells #[.slice A xs.length cap] 29)).alloc (.cells #[.int .i64 0] 3)) := below_alloc (below_alloc b2 _) _
  have hAA : AllsAt w w.heap.size (w.heap.size + 1) w2.heap.size (w2.heap.size + 1) gl A cap xs most 0 [] ((w2.alloc (.cells #[.slice A xs.length cap] 29)).alloc (.cells #[.int .i64 0] 3)) :=
    ⟨(hbb.cell (p := ⟨w.heap.size, 0, none⟩) (by dsimp only; omega)).trans m1, (hbb.cell (p := ⟨w.heap.size + 1, 0, none⟩) (by dsimp only; omega)).trans r1, (World.frozen?_of_block (hbb.block (w.heap.size + 1) (by omega))).trans fr1,
     cell_alloc_l _ cl.1, ct.1, ct.2, ⟨hat.ad, fun j hj => cell_alloc_l _ (cell_alloc_l _ (hat.at_ j hj))⟩, below_step hB1 hbb, (fun d hd => by cases hd), by omega, by omega, by simp, (fun d hd => by cases hd)⟩
  clear hbb cl ct b2 hat hB1 m1 r1 fr1 hs1 hs2 H1 H2
  refine alls_round0 _ 2 w _ p most hp hm _ _ _ _ gl A cap xs hxs [] _ _ _ _ _ _ _ _ _ _ _ _ _ _ _ _ _ _ _ _ _ _ _ _ _ _ _ _ _ _ _ _ _ _ _ _ _ _ _ _ _ _ _ _ _ _ _ _ _ _ _ _ _ _ _ _ _ hAA ?_
  clear hAA
  intro D0 bt0 W0 u1 u2 u8 u9 u11 u12 u13 u14 u15 u16 u17 u18 u19 u20 u21 u22 u23 u24 u25 u26 u27 u28 u29 u30 u31 u32 u33 u34 u35 u36 u37 u38 u39 u40 u41 u42 u43 u44 u45 u46 u47 u48 u49 u50 u51 u52 u53 u54 u55 u56 u57 u58 u59 u60 u61 u62 u63 hA0 _
  refine alls_round1 _ 1 w _ p most hp hm _ _ _ _ gl A cap xs hxs [D0] _ _ _ _ _ _ _ _ _ _ _ _ _ _ _ _ _ _ _ _ _ _ _ _ _ _ _ _ _ _ _ _ _ _ _ _ _ _ _ _ _ _ _ _ _ _ _ _ _ _ _ _ _ _ _ _ _ hA0 ?_
  clear hA0
  clear u1 u2 u8 u9 u11 u12 u13 u14 u15 u16 u17 u18 u19 u20 u21 u22 u23 u24 u25 u26 u27 u28 u29 u30 u31 u32 u33 u34 u35 u36 u37 u38 u39 u40 u41 u42 u43 u44 u45 u46 u47 u48 u49 u50 u51 u52 u53 u54 u55 u56 u57 u58 u59 u60 u61 u62 u63
  intro D1 bt1 W1 u1 u2 u8 u9 u11 u12 u13 u14 u15 u16 u17 u18 u19 u20 u21 u22 u23 u24 u25 u26 u27 u28 u29 u30 u31 u32 u33 u34 u35 u36 u37 u38 u39 u40 u41 u42 u43 u44 u45 u46 u47 u48 u49 u50 u51 u52 u53 u54 u55 u56 u57 u58 u59 u60 u61 u62 u63 hA1 hDD
  have ct := hA1.ct
  have cr := hA1.cr
  have fr := hA1.fr
  have HA := Aside0.mk hA1
  clear hA1
  rw [roundsIn_succ]
  simp only [allsBody, codeSnd, codeFst, codeIn, Try.f4, Option.getD_some]
  gi_wp2
  have hA1 := HA.out
  have hK1 := (KeepsOthers.setCell W1 ⟨w.heap.size + 1, 0, none⟩ (.bool true)).same D1 _ (hA1.hD D1 (by simp)) rfl
  have hK0 := (KeepsOthers.setCell W1 ⟨w.heap.size + 1, 0, none⟩ (.bool true)).same D0 _ (hA1.hD D0 (by simp)) rfl
  have hne : D0 < D1 := hDD D0 (by simp)
  have d0 := World.cell?_setCell_same' W1 ⟨w.heap.size + 1, 0, none⟩ (.bool true) (by rw [cr]; rfl)
  have hBe : Below w.heap.size w (W1.setCell ⟨w.heap.size + 1, 0, none⟩ (.bool true)) := hA1.hB.setCell (p := ⟨w.heap.size + 1, 0, none⟩) (by simp) _
  have l1 := hA1.hd D1 (by simp)
  have l0 := hA1.hd D0 (by simp)
  generalize W1.setCell ⟨w.heap.size + 1, 0, none⟩ (.bool true) = V at hK1 hK0 d0 hBe ⊢
  have d1 := cell_kept d0 (grownBy_putObj' V D1 (.deferred none)) (fun r e => by cases e; exact ⟨_, hK1, rfl⟩)
  have hK0' : (V.putObj D1 (.deferred none)).heap[D0]? = some (.deferred (some [])) := (World.putObj_heap_other (by omega)).trans hK0
  have d2 := cell_kept d1 (grownBy_putObj' (V.putObj D1 (.deferred none)) D0 (.deferred none)) (fun r e => by cases e; exact ⟨_, hK0', rfl⟩)
  have hBf := (hBe.trans (belowK_b (w := w) (Nat.le_refl _) V D1 _ (.deferred none) l1 hK1 rfl rfl)).trans (belowK_b (w := w) (Nat.le_refl _) (V.putObj D1 (.deferred none)) D0 _ (.deferred none) l0 hK0' rfl rfl)
  refine ⟨by simp, .inl ⟨_, _, rfl, run_takeDeferred hK1, ?_⟩⟩
  refine ⟨by simp, .inl ⟨_, _, rfl, run_takeDeferred hK0', ?_⟩⟩
  refine ⟨.bool true, ?_, rfl, hBf⟩
  simp [results, Try.f4, go_sem, d2]
theorem irqAlls_calls (a b : Int) (W : World) (wa : (Lit.int .u8 a).wf = true) (wb : (Lit.int .u8 b).wf = true) :
    Calls Try.prog 4 #[.int .u8 a, .int .u8 b] W fun e w' => e = .returned (.bool true) ∧ Below W.heap.size W w' := by
  have hmin : IntKind.u8.min = 0 := rfl
  have hmax : IntKind.u8.max = 255 := rfl
  simp only [Lit.wf, Bool.and_eq_true, decide_eq_true_eq] at wa wb
  obtain ⟨n, rfl⟩ := Int.eq_ofNat_of_zero_le (show 0 ≤ a by omega)
  obtain ⟨m, rfl⟩ := Int.eq_ofNat_of_zero_le (show 0 ≤ b by omega)
  exact alls_walk n m (by omega) (by omega) W
end Go.Proofs.Ytbakfomkgahffaa.It
