/- TilesSheet: the loop that asks; the whole function. No condition but the hypotheses that stand in each. -/
import Derived.Test.YtmigbinllnejoaaLaw2
import Derived.Test.YtmigbinllnejoaaPx3
namespace Go.Proofs.Ytmigbinllnejoaa.P
open Go.RowKit Go.Proofs.YtmigbinllnejoaaW.PrintWords Go.Proofs.YtmigbinllnejoaaW.PrintLast Go.Proofs.YtmigbinllnejoaaW.PrintMore Go.Proofs.Ytmigbinllnejoaa.Plain
set_option linter.unusedVariables false
set_option linter.unusedSimpArgs false
set_option maxHeartbeats 8000000
set_option maxRecDepth 100000
theorem ask_end (Q : Exit → Act → World → Prop) (Z : Act → World → Prop) (W : World) (b : Nat) (B : Option Addr) (m c : Nat) (Vv O : Value) (i : Nat) (hi : i = m) (a : Act) (hfr : Fr8 Vv (.slice B m c) O b (i : Int) a)
    (next : ∀ a', Fr8 Vv (.slice B m c) O b (i : Int) a' → Q (.exit 2) a' W) : askBody.wp Try.prog (Exit.then Z Q) a W := by
  obtain ⟨u, hu⟩ : ∃ u : Nat → Value, a = fr8 Vv (.slice B m c) O b (i : Int) u := ⟨_, hfr⟩
  clear hfr
  subst hu
  have NX := Aside0.mk next
  clear next
  have g1 : decide ((i : Int) < (m : Int)) = false := decide_eq_false (by omega)
  have g1n : decide (i < m) = false := decide_eq_false (by omega)
  have g1m : ¬ i < m := by omega
  clear hi
  simp only [fr8, askBody, codeSnd, codeFst, codeIn, Try.f9, Option.getD_some]
  go_wp2
  exact NX.out _ (by rfl)
def AsksAt (w₀ : World) (B : Option Addr) (m : Nat) : Prop := ∀ i, i < m → ∃ (al : Addr) (t x y : Int), B = some al ∧ AskAt w₀ al i t x y
theorem ask_rounds (Q : Exit → Act → World → Prop) (hQ : ∀ ch a b w, Q (.panic ch) a w → Q (.panic ch) b w) (w₀ : World) (b g : Nat) (V : Option Addr) (l : List Int) (cv : Nat) (hcv : l.length ≤ cv) (hl : ∀ x ∈ l, 0 ≤ x ∧ x < 256) (hV : Kd.C (Kd.int .u8) w₀ V l.length l) (h0 : w₀.heap.size ≤ b)
    (O : Value) (B : Option Addr) (m c : Nat) (hm : m ≤ 200) (hasks : AsksAt w₀ B m)
    (next : ∀ (a' : Act) (W' : World), Fr8 (.slice V l.length cv) (.slice B m c) O b (m : Int) a' → Below w₀.heap.size w₀ W' → Q (.exit 2) a' W') :
    ∀ (d i : Nat) (a : Act) (W : World), i + d = m → Fr8 (.slice V l.length cv) (.slice B m c) O b (i : Int) a → Below w₀.heap.size w₀ W → Sd W b g (byteOf l) (i : Int) W → Code.rounds Try.prog askBody Q (d + 1) a W := by
  intro d
  induction d with
  | zero =>
    intro i a W hd hfr hB h
    rw [rounds_succ]
    have hi : i = m := by omega
    subst hi
    exact ask_end Q _ W b B i c _ O i rfl a hfr (fun a' hu => next a' W hu hB)
  | succ d ih =>
    intro i a W hd hfr hB h
    rw [rounds_succ]
    obtain ⟨al, t, x, y, rfl, hask⟩ := hasks i (by omega)
    exact ask_round Q _ hQ w₀ W b g V l cv hcv hl hV h0 O al m c i (by omega) hm t x y hask a hfr hB h (fun a' W' hf hB' hs => ih (i + 1) a' W' (by omega) hf hB' hs)
def QX (id : Nat) (P : Act → World → Prop) : Exit → Act → World → Prop
  | .exit i, a, w => i = id ∧ P a w
  | _, _, _ => False
def zeroCells : Array Value := #[.int .u32 0, .int .i32 0, .int .u32 0, .int .i64 0, .slice none 0 0, .slice none 0 0]
structure Sz (w₀ : World) (z : Nat) (W : World) : Prop where
  b : W.heap[z]? = some (.cells zeroCells 62)
  hB : Below w₀.heap.size w₀ W
theorem Sz.below {w₀ W W' : World} {z : Nat} (h : Sz w₀ z W) (hb : Below W.heap.size W W') : Sz w₀ z W' := ⟨(hb.block z (blk_lt h.b)).trans h.b, below_step h.hB hb⟩
theorem Sz.blo {w₀ W W' : World} {z b : Nat} (h : Sz w₀ z W) (hb : Blo b W W') (hn : z ≠ b) (h0 : w₀.heap.size ≤ b) : Sz w₀ z W' :=
  ⟨(hb.block z (blk_lt h.b) hn).trans h.b, ⟨hb.os.trans h.hB.os, hb.tape.trans h.hB.tape, hb.output.trans h.hB.output, Nat.le_trans h.hB.size hb.size, fun k hk => (hb.block k (Nat.lt_of_lt_of_le hk h.hB.size) (by omega)).trans (h.hB.block k hk)⟩⟩
theorem own_empty (w₀ : World) : Kd.R (Kd.int .u8) 5 (w₀.alloc (.cells #[] 5)) w₀.heap.size (fun _ => True) (.slice (some ⟨w₀.heap.size, 0, none⟩) 0 0) [] :=
  Kd.R_of_own (World.ownsRow_lit w₀ #[] 0 (Nat.le_refl _) (by simp [maxLen]) rfl) (fun _ _ => trivial)
theorem S1_start {w₀ w1 w2 : World} {b g : Nat} {l : List Int} {A0 : Option Addr} {c0 : Nat} (hr : Kd.R (Kd.int .u8) 5 w1 w₀.heap.size (fun _ => True) (.slice A0 l.length c0) l) (hb : Below w₀.heap.size w₀ w1) (kb : w1.heap.size ≤ b) (kg : w1.heap.size ≤ g)
    (h : Sh w1 b g (byteOf l) 0 0 0 (.slice none 0 0) w2) : S1 w₀ b g (byteOf l) A0 l.length w2 := by
  have hbw := h.hB.to kb
  refine ⟨h.rebase hb, fun i hi => ?_⟩
  obtain ⟨o, c, e, ho, hlt, cur, hc⟩ := Kd.R_form hr (by omega)
  injection e with e1 e2 e3
  subst e1
  obtain ⟨h1, h2⟩ := Kd.R_celln 0 hr (i : Int) (by omega) (by omega)
  rw [Int.toNat_natCast] at h1 h2
  exact ⟨o, rfl, ho, by omega, by omega, ⟨_, (hbw.cell (p := ⟨o, i, none⟩) hlt).trans h1⟩, (hbw.frozen (p := ⟨o, i, none⟩) hlt).trans h2⟩
theorem sheet_long (w₀ : World) (V : Option Addr) (cv : Nat) (l : List Int) (hcv : l.length ≤ cv) (hlen : l.length ≤ 140737488351232) (hl : ∀ x ∈ l, 0 ≤ x ∧ x < 256) (hV : Kd.C (Kd.int .u8) w₀ V l.length l) (B : Option Addr) (m c : Nat) (hmc : m ≤ c) (hasks : AsksAt w₀ B m) (h200 : 200 < m) :
    Calls Try.prog 9 #[.slice V l.length cv, .slice B m c] w₀ fun e w' => e = .returned (.bool true) ∧ Below w₀.heap.size w₀ w' := by
  have HV := Aside0.mk hV
  have HL := Aside0.mk hl
  have HX := Aside0.mk hasks
  have HE := Aside0.mk (own_empty w₀)
  clear hV hl hasks
  have g1 : decide (200 < (m : Int)) = true := decide_eq_true (by omega)
  have g2 : (200 : Int) ≤ (c : Int) := by omega
  go_enter Try.func9, Try.ntmps9
  go_wp2_with (first | ((with_reducible refine gate_dst (N := 19) rfl ?_); refine Kd.R_append_rows (Kd.int .u8) (w0 := w₀) w₀.heap.size rfl (.tmp 17) (.tmp 18) 34 5 (.int .u8 0) 1 rfl Try.underlying34 info5b rfl (by decide) (by omega) _ [] l V l.length cv (fun _ => True) (fun _ => False) rfl rfl ?aO ?aR (fun _ _ h => h) (fun _ h => h.elim) (fun _ _ => trivial) ?aB ?aS ?aL ?_; (case aO => exact HE.out); (case aR => exact Kd.C_below HV.out (below_alloc (Below.refl _ _) _)); (case aB => exact below_alloc (Below.refl _ _) _); (case aS => exact Nat.le_trans (Nat.le_refl _) (by simp)); (case aL => simp only [List.length_nil]; omega); intro v1 w1 hr hb hg hat))
  clear hg hat HE
  rw [List.nil_append] at hr
  obtain ⟨A0, c0, rfl, hc0, hC⟩ := Kd.R_reads hr
  have HR := Aside0.mk (And.intro hr hb)
  clear hr hb
  go_wp2_with fail
  refine (new_calls w1 A0 c0 l hc0 hC).mono ?_
  clear hC
  rintro e w2 ⟨b, g, rfl, kb, kg, HS⟩
  have c3 := HS.out.c3
  go_wp2_with fail
  refine (asked_calls b 0 w2 c3).mono ?_
  clear c3
  rintro e w3 ⟨rfl, rfl⟩
  go_wp2_with fail
  have H1 := Aside0.mk (S1_start HR.out.1 HR.out.2 kb kg HS.out)
  have kb0 := Nat.le_trans HR.out.2.size kb
  clear HR HS kb kg
  refine wp_mono (Q := QX 0 (fun a W => Fr7 (.slice V l.length cv) (.slice B 200 c) (.slice A0 l.length c0) b (l.length : Int) a ∧ S1 w₀ b g (byteOf l) A0 l.length W)) ?_ ?_
  · refine wp_loop_rounds (l.length + 1) ?_
    exact own_rounds _ w₀ b g (byteOf l) A0 l.length c0 _ _ hlen (fun a' W' hf hs => ⟨rfl, hf, hs⟩) l.length 0 _ _ (by omega) (by rfl) H1.out
  clear H1
  intro e a' W' hq
  obtain ⟨rfl, hfr, h⟩ : e = .exit 0 ∧ Fr7 (.slice V l.length cv) (.slice B 200 c) (.slice A0 l.length c0) b (l.length : Int) a' ∧ S1 w₀ b g (byteOf l) A0 l.length W' := by
    cases e with
    | exit id => exact ⟨by rw [hq.1], hq.2⟩
    | _ => exact hq.elim
  clear hq
  obtain ⟨u, hu⟩ : ∃ u : Nat → Value, a' = fr7 (.slice V l.length cv) (.slice B 200 c) (.slice A0 l.length c0) b (l.length : Int) u := ⟨_, hfr⟩
  clear hfr
  subst hu
  have H1 := Aside0.mk h
  clear h
  simp only [fr7]
  go_wp2_with fail
  refine wp_mono (Q := QX 2 (fun a W => Fr8 (.slice V l.length cv) (.slice B 200 c) (.slice A0 l.length c0) b ((200 : Nat) : Int) a ∧ Below w₀.heap.size w₀ W)) ?_ ?_
  · refine wp_loop_rounds (200 + 1) ?_
    exact ask_rounds _ (fun _ _ _ _ h => h.elim) w₀ b g V l cv hcv HL.out HV.out kb0 _ B 200 c (by omega) (fun i hi => HX.out i (by omega)) (fun a' W' hf hb => ⟨rfl, hf, hb⟩) 200 0 _ _ (by omega) (by rfl) (H1.out.1.hB.to kb0) (.inl H1.out.1.self)
  clear H1
  intro e a' W' hq
  obtain ⟨rfl, hfr, h⟩ : e = .exit 2 ∧ Fr8 (.slice V l.length cv) (.slice B 200 c) (.slice A0 l.length c0) b ((200 : Nat) : Int) a' ∧ Below w₀.heap.size w₀ W' := by
    cases e with
    | exit id => exact ⟨by rw [hq.1], hq.2⟩
    | _ => exact hq.elim
  clear hq
  obtain ⟨u, hu⟩ : ∃ u : Nat → Value, a' = fr8 (.slice V l.length cv) (.slice B 200 c) (.slice A0 l.length c0) b ((200 : Nat) : Int) u := ⟨_, hfr⟩
  clear hfr
  subst hu
  have HB := Aside0.mk h
  clear h
  simp only [fr8]
  go_wp2_with fail
  have HZ := Aside0.mk (Sz.mk (blk_new W' (.cells zeroCells 62)) (below_step HB.out (below_alloc (Below.refl _ _) _)))
  clear HB
  obtain ⟨W3, hW3⟩ : ∃ W3, W'.alloc (.cells zeroCells 62) = W3 := ⟨_, rfl⟩
  obtain ⟨z, hz⟩ : ∃ z, W'.heap.size = z := ⟨_, rfl⟩
  rw [hW3, hz] at HZ
  simp only [zeroCells] at hW3
  rw [hW3, hz]
  clear hW3 hz
  go_wp2_with fail
  refine (color_nil 0 0 0 _).mono ?_
  rintro e w' ⟨rfl, rfl⟩
  go_wp2_with fail
  refine (asked_nil _).mono ?_
  rintro e w' ⟨rfl, rfl⟩
  go_wp2_with fail
  refine (color_zero z 0 0 0 _ ((blk_cell HZ.out.b 4).trans rfl)).mono ?_
  rintro e w' ⟨rfl, rfl⟩
  go_wp2_with fail
  refine (asked_calls z 0 _ ((blk_cell HZ.out.b 3).trans rfl)).mono ?_
  rintro e w' ⟨rfl, rfl⟩
  go_wp2_with fail
  refine (new_calls _ none 0 [] (Nat.le_refl _) (Kd.C_nil _ _)).mono ?_
  rintro e w' ⟨b', g', rfl, kb', kg', HN⟩
  have hN := HZ.out.below (HN.out.hB.to kb')
  have hzb : z ≠ b' := by have := blk_lt HZ.out.b; omega
  have hb0 : w₀.heap.size ≤ b' := Nat.le_trans HZ.out.hB.size kb'
  have HN2 := Aside0.mk (And.intro hN (And.intro hzb hb0))
  clear HZ kb' kg' hN hzb hb0
  go_wp2_with fail
  refine (color_any (.inl HN.out.self) (by omega) 383 7 7).mono ?_
  rintro e w'' ⟨rfl, HD⟩
  rw [empty_three]
  have hN := HN2.out.1.blo HD.out.blo HN2.out.2.1 HN2.out.2.2
  have HH := Aside0.mk hN
  clear HD HN HN2 hN
  go_wp2
  go_ret
  exact ⟨rfl, HH.out.hB⟩
theorem sheet_short (w₀ : World) (V : Option Addr) (cv : Nat) (l : List Int) (hcv : l.length ≤ cv) (hlen : l.length ≤ 140737488351232) (hl : ∀ x ∈ l, 0 ≤ x ∧ x < 256) (hV : Kd.C (Kd.int .u8) w₀ V l.length l) (B : Option Addr) (m c : Nat) (hmc : m ≤ c) (hasks : AsksAt w₀ B m) (h200 : m ≤ 200) :
    Calls Try.prog 9 #[.slice V l.length cv, .slice B m c] w₀ fun e w' => e = .returned (.bool true) ∧ Below w₀.heap.size w₀ w' := by
  have HV := Aside0.mk hV
  have HL := Aside0.mk hl
  have HX := Aside0.mk hasks
  have HE := Aside0.mk (own_empty w₀)
  clear hV hl hasks
  have g1 : decide (200 < (m : Int)) = false := decide_eq_false (by omega)
  go_enter Try.func9, Try.ntmps9
  go_wp2_with (first | ((with_reducible refine gate_dst (N := 19) rfl ?_); refine Kd.R_append_rows (Kd.int .u8) (w0 := w₀) w₀.heap.size rfl (.tmp 17) (.tmp 18) 34 5 (.int .u8 0) 1 rfl Try.underlying34 info5b rfl (by decide) (by omega) _ [] l V l.length cv (fun _ => True) (fun _ => False) rfl rfl ?aO ?aR (fun _ _ h => h) (fun _ h => h.elim) (fun _ _ => trivial) ?aB ?aS ?aL ?_; (case aO => exact HE.out); (case aR => exact Kd.C_below HV.out (below_alloc (Below.refl _ _) _)); (case aB => exact below_alloc (Below.refl _ _) _); (case aS => exact Nat.le_trans (Nat.le_refl _) (by simp)); (case aL => simp only [List.length_nil]; omega); intro v1 w1 hr hb hg hat))
  clear hg hat HE
  rw [List.nil_append] at hr
  obtain ⟨A0, c0, rfl, hc0, hC⟩ := Kd.R_reads hr
  have HR := Aside0.mk (And.intro hr hb)
  clear hr hb
  go_wp2_with fail
  refine (new_calls w1 A0 c0 l hc0 hC).mono ?_
  clear hC
  rintro e w2 ⟨b, g, rfl, kb, kg, HS⟩
  have c3 := HS.out.c3
  go_wp2_with fail
  refine (asked_calls b 0 w2 c3).mono ?_
  clear c3
  rintro e w3 ⟨rfl, rfl⟩
  go_wp2_with fail
  have H1 := Aside0.mk (S1_start HR.out.1 HR.out.2 kb kg HS.out)
  have kb0 := Nat.le_trans HR.out.2.size kb
  clear HR HS kb kg
  refine wp_mono (Q := QX 0 (fun a W => Fr7 (.slice V l.length cv) (.slice B m c) (.slice A0 l.length c0) b (l.length : Int) a ∧ S1 w₀ b g (byteOf l) A0 l.length W)) ?_ ?_
  · refine wp_loop_rounds (l.length + 1) ?_
    exact own_rounds _ w₀ b g (byteOf l) A0 l.length c0 _ _ hlen (fun a' W' hf hs => ⟨rfl, hf, hs⟩) l.length 0 _ _ (by omega) (by rfl) H1.out
  clear H1
  intro e a' W' hq
  obtain ⟨rfl, hfr, h⟩ : e = .exit 0 ∧ Fr7 (.slice V l.length cv) (.slice B m c) (.slice A0 l.length c0) b (l.length : Int) a' ∧ S1 w₀ b g (byteOf l) A0 l.length W' := by
    cases e with
    | exit id => exact ⟨by rw [hq.1], hq.2⟩
    | _ => exact hq.elim
  clear hq
  obtain ⟨u, hu⟩ : ∃ u : Nat → Value, a' = fr7 (.slice V l.length cv) (.slice B m c) (.slice A0 l.length c0) b (l.length : Int) u := ⟨_, hfr⟩
  clear hfr
  subst hu
  have H1 := Aside0.mk h
  clear h
  simp only [fr7]
  go_wp2_with fail
  refine wp_mono (Q := QX 2 (fun a W => Fr8 (.slice V l.length cv) (.slice B m c) (.slice A0 l.length c0) b ((m : Nat) : Int) a ∧ Below w₀.heap.size w₀ W)) ?_ ?_
  · refine wp_loop_rounds (m + 1) ?_
    exact ask_rounds _ (fun _ _ _ _ h => h.elim) w₀ b g V l cv hcv HL.out HV.out kb0 _ B m c (by omega) HX.out (fun a' W' hf hb => ⟨rfl, hf, hb⟩) m 0 _ _ (by omega) (by rfl) (H1.out.1.hB.to kb0) (.inl H1.out.1.self)
  clear H1
  intro e a' W' hq
  obtain ⟨rfl, hfr, h⟩ : e = .exit 2 ∧ Fr8 (.slice V l.length cv) (.slice B m c) (.slice A0 l.length c0) b ((m : Nat) : Int) a' ∧ Below w₀.heap.size w₀ W' := by
    cases e with
    | exit id => exact ⟨by rw [hq.1], hq.2⟩
    | _ => exact hq.elim
  clear hq
  obtain ⟨u, hu⟩ : ∃ u : Nat → Value, a' = fr8 (.slice V l.length cv) (.slice B m c) (.slice A0 l.length c0) b ((m : Nat) : Int) u := ⟨_, hfr⟩
  clear hfr
  subst hu
  have HB := Aside0.mk h
  clear h
  simp only [fr8]
  go_wp2_with fail
  have HZ := Aside0.mk (Sz.mk (blk_new W' (.cells zeroCells 62)) (below_step HB.out (below_alloc (Below.refl _ _) _)))
  clear HB
  obtain ⟨W3, hW3⟩ : ∃ W3, W'.alloc (.cells zeroCells 62) = W3 := ⟨_, rfl⟩
  obtain ⟨z, hz⟩ : ∃ z, W'.heap.size = z := ⟨_, rfl⟩
  rw [hW3, hz] at HZ
  simp only [zeroCells] at hW3
  rw [hW3, hz]
  clear hW3 hz
  go_wp2_with fail
  refine (color_nil 0 0 0 _).mono ?_
  rintro e w' ⟨rfl, rfl⟩
  go_wp2_with fail
  refine (asked_nil _).mono ?_
  rintro e w' ⟨rfl, rfl⟩
  go_wp2_with fail
  refine (color_zero z 0 0 0 _ ((blk_cell HZ.out.b 4).trans rfl)).mono ?_
  rintro e w' ⟨rfl, rfl⟩
  go_wp2_with fail
  refine (asked_calls z 0 _ ((blk_cell HZ.out.b 3).trans rfl)).mono ?_
  rintro e w' ⟨rfl, rfl⟩
  go_wp2_with fail
  refine (new_calls _ none 0 [] (Nat.le_refl _) (Kd.C_nil _ _)).mono ?_
  rintro e w' ⟨b', g', rfl, kb', kg', HN⟩
  have hN := HZ.out.below (HN.out.hB.to kb')
  have hzb : z ≠ b' := by have := blk_lt HZ.out.b; omega
  have hb0 : w₀.heap.size ≤ b' := Nat.le_trans HZ.out.hB.size kb'
  have HN2 := Aside0.mk (And.intro hN (And.intro hzb hb0))
  clear HZ kb' kg' hN hzb hb0
  go_wp2_with fail
  refine (color_any (.inl HN.out.self) (by omega) 383 7 7).mono ?_
  rintro e w'' ⟨rfl, HD⟩
  rw [empty_three]
  have hN := HN2.out.1.blo HD.out.blo HN2.out.2.1 HN2.out.2.2
  have HH := Aside0.mk hN
  clear HD HN HN2 hN
  go_wp2
  go_ret
  exact ⟨rfl, HH.out.hB⟩
end Go.Proofs.Ytmigbinllnejoaa.P
