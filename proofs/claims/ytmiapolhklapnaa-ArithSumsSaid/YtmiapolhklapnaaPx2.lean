-- PRINTED by a program of this session over the kit's print.py.
import Derived.Test.YtmiapolhklapnaaPx0
import Derived.Test.YtmiapolhklapnaaPx1
namespace Go.Proofs.Ytmiapolhklapnaa.P
open Go.Own Go.RowKit Go.Proofs.YtmiapolhklapnaaW.PrintWords Go.Proofs.YtmiapolhklapnaaW.PrintLast Go.Proofs.YtmiapolhklapnaaW.PrintMore
attribute [local go_sem] max2_int min2_int max_two min_two max_three min_three max_four min_four   -- for this text's walks alone
set_option linter.unusedVariables false
set_option linter.unusedSimpArgs false

/-! ### arith_Eval: function 9 (given) -/
/-- what an operator between two numbers is, as a function's value -/
def arith_Eval.two (a : ByteArray) : Option Nat := if a.toList = ([43] : List UInt8) then some 36 else if a.toList = ([45] : List UInt8) then some 37 else if a.toList = ([42] : List UInt8) then some 38 else if a.toList = ([47, 47] : List UInt8) then some 39 else if a.toList = ([114, 101, 109] : List UInt8) then some 40 else if a.toList = ([109, 111, 100] : List UInt8) then some 41 else none
def arith_Eval.one (a : ByteArray) : Option Nat := if a.toList = ([45] : List UInt8) then some 42 else if a.toList = ([97, 98, 115] : List UInt8) then some 43 else if a.toList = ([115, 105, 103, 110] : List UInt8) then some 44 else none
def arith_Eval.fv : Option Nat → Value
  | none => .nilFunc
  | some f => .func (.func f) #[] #[]
set_option maxRecDepth 100000 in
theorem arith_Eval.binary (a : ByteArray) (w : World) : Calls Try.prog 28 #[.string a] w fun e w' => e = .returned (arith_Eval.fv (arith_Eval.two a)) ∧ w' = w := by
  unfold arith_Eval.two
  by_cases c1 : a.toList = ([43] : List UInt8)
  · have d1 : (a.toList == ([43] : List UInt8)) = true := beq_iff_eq.mpr c1
    rw [if_pos c1]
    clear c1
    go_enter Try.func28, Try.ntmps28
    go_wp2
    go_ret
    exact ⟨rfl, rfl⟩
  rw [if_neg c1]
  have d1 : (a.toList == ([43] : List UInt8)) = false := beq_eq_false_iff_ne.mpr c1
  clear c1
  by_cases c2 : a.toList = ([45] : List UInt8)
  · have d2 : (a.toList == ([45] : List UInt8)) = true := beq_iff_eq.mpr c2
    rw [if_pos c2]
    clear c2
    go_enter Try.func28, Try.ntmps28
    go_wp2
    go_ret
    exact ⟨rfl, rfl⟩
  rw [if_neg c2]
  have d2 : (a.toList == ([45] : List UInt8)) = false := beq_eq_false_iff_ne.mpr c2
  clear c2
  by_cases c3 : a.toList = ([42] : List UInt8)
  · have d3 : (a.toList == ([42] : List UInt8)) = true := beq_iff_eq.mpr c3
    rw [if_pos c3]
    clear c3
    go_enter Try.func28, Try.ntmps28
    go_wp2
    go_ret
    exact ⟨rfl, rfl⟩
  rw [if_neg c3]
  have d3 : (a.toList == ([42] : List UInt8)) = false := beq_eq_false_iff_ne.mpr c3
  clear c3
  by_cases c4 : a.toList = ([47, 47] : List UInt8)
  · have d4 : (a.toList == ([47, 47] : List UInt8)) = true := beq_iff_eq.mpr c4
    rw [if_pos c4]
    clear c4
    go_enter Try.func28, Try.ntmps28
    go_wp2
    go_ret
    exact ⟨rfl, rfl⟩
  rw [if_neg c4]
  have d4 : (a.toList == ([47, 47] : List UInt8)) = false := beq_eq_false_iff_ne.mpr c4
  clear c4
  by_cases c5 : a.toList = ([114, 101, 109] : List UInt8)
  · have d5 : (a.toList == ([114, 101, 109] : List UInt8)) = true := beq_iff_eq.mpr c5
    rw [if_pos c5]
    clear c5
    go_enter Try.func28, Try.ntmps28
    go_wp2
    go_ret
    exact ⟨rfl, rfl⟩
  rw [if_neg c5]
  have d5 : (a.toList == ([114, 101, 109] : List UInt8)) = false := beq_eq_false_iff_ne.mpr c5
  clear c5
  by_cases c6 : a.toList = ([109, 111, 100] : List UInt8)
  · have d6 : (a.toList == ([109, 111, 100] : List UInt8)) = true := beq_iff_eq.mpr c6
    rw [if_pos c6]
    clear c6
    go_enter Try.func28, Try.ntmps28
    go_wp2
    go_ret
    exact ⟨rfl, rfl⟩
  rw [if_neg c6]
  have d6 : (a.toList == ([109, 111, 100] : List UInt8)) = false := beq_eq_false_iff_ne.mpr c6
  clear c6
  go_enter Try.func28, Try.ntmps28
  go_wp2
  go_ret
  exact ⟨rfl, rfl⟩
set_option maxRecDepth 100000 in
theorem arith_Eval.unary (a : ByteArray) (w : World) : Calls Try.prog 29 #[.string a] w fun e w' => e = .returned (arith_Eval.fv (arith_Eval.one a)) ∧ w' = w := by
  unfold arith_Eval.one
  by_cases c1 : a.toList = ([45] : List UInt8)
  · have d1 : (a.toList == ([45] : List UInt8)) = true := beq_iff_eq.mpr c1
    rw [if_pos c1]
    clear c1
    go_enter Try.func29, Try.ntmps29
    go_wp2
    go_ret
    exact ⟨rfl, rfl⟩
  rw [if_neg c1]
  have d1 : (a.toList == ([45] : List UInt8)) = false := beq_eq_false_iff_ne.mpr c1
  clear c1
  by_cases c2 : a.toList = ([97, 98, 115] : List UInt8)
  · have d2 : (a.toList == ([97, 98, 115] : List UInt8)) = true := beq_iff_eq.mpr c2
    rw [if_pos c2]
    clear c2
    go_enter Try.func29, Try.ntmps29
    go_wp2
    go_ret
    exact ⟨rfl, rfl⟩
  rw [if_neg c2]
  have d2 : (a.toList == ([97, 98, 115] : List UInt8)) = false := beq_eq_false_iff_ne.mpr c2
  clear c2
  by_cases c3 : a.toList = ([115, 105, 103, 110] : List UInt8)
  · have d3 : (a.toList == ([115, 105, 103, 110] : List UInt8)) = true := beq_iff_eq.mpr c3
    rw [if_pos c3]
    clear c3
    go_enter Try.func29, Try.ntmps29
    go_wp2
    go_ret
    exact ⟨rfl, rfl⟩
  rw [if_neg c3]
  have d3 : (a.toList == ([115, 105, 103, 110] : List UInt8)) = false := beq_eq_false_iff_ne.mpr c3
  clear c3
  go_enter Try.func29, Try.ntmps29
  go_wp2
  go_ret
  exact ⟨rfl, rfl⟩
set_option maxRecDepth 100000 in
theorem arith_Eval.nan (a : Int) (w : World) : Calls Try.prog 59 #[.int .i64 a] w fun e w' => e = .returned (.bool false) ∧ Drawn0 w w' := by
  have d1 : (a != a) = false := by simp
  go_enter Try.func59, Try.ntmps59
  go_wp2
  go_ret
  exact ⟨by simp, by repeat (first | exact Drawn0.refl _ | apply Drawn0.step)⟩
def arith_Eval.sg (a : Int) : Int := if a < 0 then -1 else if 0 < a then 1 else 0
set_option maxRecDepth 100000 in
theorem arith_Eval.cmp (a : Int) (w : World) : Calls Try.prog 55 #[.int .i64 a, .int .i64 0] w fun e w' => e = .returned (.int .i64 (arith_Eval.sg a)) ∧ Drawn0 w w' := by
  unfold arith_Eval.sg
  by_cases c1 : a < 0
  · rw [if_pos c1]
    have d1 : (a < 0) = True := eq_true c1
    go_enter Try.func55, Try.ntmps55
    go_wp2_with (go_at_call 59; (with_reducible refine (arith_Eval.nan _ _).mono ?_); rintro e w' ⟨rfl, hd⟩; obtain ⟨⟨m_, rfl⟩⟩ := hd)
    go_ret
    exact ⟨rfl, by repeat (first | exact Drawn0.refl _ | apply Drawn0.step)⟩
  rw [if_neg c1]
  have d1 : (a < 0) = False := eq_false c1
  by_cases c2 : 0 < a
  · rw [if_pos c2]
    have d2 : (0 < a) = True := eq_true c2
    go_enter Try.func55, Try.ntmps55
    go_wp2_with (go_at_call 59; (with_reducible refine (arith_Eval.nan _ _).mono ?_); rintro e w' ⟨rfl, hd⟩; obtain ⟨⟨m_, rfl⟩⟩ := hd)
    go_ret
    exact ⟨rfl, by repeat (first | exact Drawn0.refl _ | apply Drawn0.step)⟩
  rw [if_neg c2]
  have d2 : (0 < a) = False := eq_false c2
  go_enter Try.func55, Try.ntmps55
  go_wp2_with (go_at_call 59; (with_reducible refine (arith_Eval.nan _ _).mono ?_); rintro e w' ⟨rfl, hd⟩; obtain ⟨⟨m_, rfl⟩⟩ := hd)
  go_ret
  exact ⟨rfl, by repeat (first | exact Drawn0.refl _ | apply Drawn0.step)⟩
set_option maxRecDepth 100000 in
theorem arith_Eval.sign (a : Int) (w : World) : Calls Try.prog 45 #[.int .i64 a] w fun e w' => e = .returned (.int .i64 (arith_Eval.sg a)) ∧ Drawn0 w w' := by
  go_enter Try.func45, Try.ntmps45
  go_wp2_with (go_at_call 55; (with_reducible refine (arith_Eval.cmp _ _).mono ?_); rintro e w' ⟨rfl, hd⟩; obtain ⟨⟨m_, rfl⟩⟩ := hd)
  go_ret
  exact ⟨rfl, by repeat (first | exact Drawn0.refl _ | apply Drawn0.step)⟩
set_option maxRecDepth 100000 in
theorem arith_Eval.sgn (a : Int) (w : World) : Calls Try.prog 44 #[.int .i64 a] w fun e w' => e = .returned (.tuple #[.int .i64 (arith_Eval.sg a), .int .i64 0]) ∧ Drawn0 w w' := by
  go_enter Try.func44, Try.ntmps44
  go_wp2_with (go_at_call 45; (with_reducible refine (arith_Eval.sign _ _).mono ?_); rintro e w' ⟨rfl, hd⟩; obtain ⟨⟨m_, rfl⟩⟩ := hd)
  go_ret2
  exact ⟨rfl, by repeat (first | exact Drawn0.refl _ | apply Drawn0.step)⟩
theorem arith_Eval.p4f {W : World} {b k t : Nat} {cs : Array Value} {u0 u1 u2 u3 : Value} (h : W.heap[k]? = some (.cells cs t (0, 0))) (hk : k ≠ b) : ((((W.setCell ⟨b, 0, none⟩ u0).setCell ⟨b, 1, none⟩ u1).setCell ⟨b, 2, none⟩ u2).setCell ⟨b, 3, none⟩ u3).heap[k]? = some (.cells cs t (0, 0)) :=
  blk_far (p := ⟨b, 3, none⟩) (blk_far (p := ⟨b, 2, none⟩) (blk_far (p := ⟨b, 1, none⟩) (blk_far (p := ⟨b, 0, none⟩) h hk u0) hk u1) hk u2) hk u3
theorem arith_Eval.p4s {W : World} {b t : Nat} {z0 z1 z2 z3 u0 u1 u2 u3 : Value} (h : W.heap[b]? = some (.cells #[z0, z1, z2, z3] t (0, 0))) : ((((W.setCell ⟨b, 0, none⟩ u0).setCell ⟨b, 1, none⟩ u1).setCell ⟨b, 2, none⟩ u2).setCell ⟨b, 3, none⟩ u3).heap[b]? = some (.cells #[u0, u1, u2, u3] t (0, 0)) :=
  blk_put (blk_put (blk_put (blk_put h 0 u0 rfl) 1 u1 rfl) 2 u2 rfl) 3 u3 rfl
theorem arith_Eval.p4b {w W : World} {b n : Nat} {u0 u1 u2 u3 : Value} (h : Below n w W) (hb : n ≤ b) : Below n w ((((W.setCell ⟨b, 0, none⟩ u0).setCell ⟨b, 1, none⟩ u1).setCell ⟨b, 2, none⟩ u2).setCell ⟨b, 3, none⟩ u3) :=
  (((h.setCell (p := ⟨b, 0, none⟩) hb u0).setCell (p := ⟨b, 1, none⟩) hb u1).setCell (p := ⟨b, 2, none⟩) hb u2).setCell (p := ⟨b, 3, none⟩) hb u3
theorem arith_Eval.p4k {w W : World} {b g : Nat} {u0 u1 u2 u3 : Value} (h : KeepBut w W g none) (hb : w.heap.size ≤ b) : KeepBut w ((((W.setCell ⟨b, 0, none⟩ u0).setCell ⟨b, 1, none⟩ u1).setCell ⟨b, 2, none⟩ u2).setCell ⟨b, 3, none⟩ u3) g none :=
  keep_far (p := ⟨b, 3, none⟩) (keep_far (p := ⟨b, 2, none⟩) (keep_far (p := ⟨b, 1, none⟩) (keep_far (p := ⟨b, 0, none⟩) h hb u0) hb u1) hb u2) hb u3
def arith_Eval.vl : Nat → List S45 → S25 → Int → Option (S25 × Int)
  | 0, _, _, _ => none
  | k + 1, l, t, s => if s ≤ 2000 then (if t.f0 = 1 then (match subst_Look.find t.f2 l with
    | none => some (t, s)
    | some x => arith_Eval.vl k l x (wrap64 (s + 1))) else some (t, s)) else some (t, s)
def arith_Eval.visit (k : Nat) (l : List S45) (t : S25) (s : Int) : Option (S25 × Int × Int) :=
  (arith_Eval.vl k l t (wrap64 (s + 1))).bind fun r => some (if r.2 > 2000 then (z25, 140, r.2) else (r.1, 0, r.2))
set_option maxRecDepth 100000 in
set_option maxHeartbeats 4000000 in
theorem arith_Eval.visits (k : Nat) (w0 w : World) (g : Nat) (A0 : Option Addr) (c0 : Nat) (l0 : List S45) (hC : Kd.C k45 w0 A0 l0.length l0) (t : S25) (At : Option Addr) (ct : Nat) (ht : Kd.C k25 w0 At t.f3.length t.f3) (hct : t.f3.length ≤ ct) (deep s : Int)
    (hB : Below w0.heap.size w0 w) (hG : w0.heap.size ≤ g) (hg : w.heap[g]? = some (.cells #[.slice A0 l0.length c0, .int .i64 deep, .int .i64 s] 49 (0, 0))) (r : S25) (e s' : Int) (h : arith_Eval.visit k l0 t s = some (r, e, s')) :
    Calls Try.prog 27 #[.pointer (some ⟨g, 0, none⟩), .agg #[.int .i64 t.f0, .string t.f1, .int .i64 t.f2, .slice At t.f3.length ct]] w fun E w' => ∃ A' c', E = .returned (.tuple #[.agg #[.int .i64 r.f0, .string r.f1, .int .i64 r.f2, .slice A' r.f3.length c'], .int .i64 e]) ∧
      Kd.C k25 w0 A' r.f3.length r.f3 ∧ r.f3.length ≤ c' ∧ w'.heap[g]? = some (.cells #[.slice A0 l0.length c0, .int .i64 deep, .int .i64 s'] 49 (0, 0)) ∧ Below w0.heap.size w0 w' ∧ KeepBut w w' g none := by
  have hA := Aside0.mk h
  have hAt := Aside0.mk (And.intro ht hct)
  have hBB := Aside0.mk hB
  have hGG := Aside0.mk hG
  have hCC := Aside0.mk hC
  clear h ht hct hB hG hC
  have hgw : g < w.heap.size := blk_lt hg
  have hgg := Aside0.mk hg
  clear hg
  unfold arith_Eval.visit at hA
  obtain ⟨⟨rt, rs⟩, hv, hr⟩ := Option.bind_eq_some_iff.1 hA.out
  clear hA
  have hv := Aside0.mk hv
  have hr := Aside0.mk hr
  go_enter Try.func27, Try.ntmps27
  go_wp2_with (first
    | ((with_reducible refine gate_dst (N := 3) rfl ?_); refine box_event ?hg (N := 3) ?hd (cs := #[.int .i64 t.f0, .string t.f1, .int .i64 t.f2, .slice At t.f3.length ct]) (t := 25) ?hr ?_; (case hd => rfl); (case hg => rfl); (case hr => first | (go_simp; done) | (go_simp; rfl)); intro bt hbt w3 hx3 hy3;
       have hgg3 := Aside0.mk (blk_below hgg.out hy3); have hBT3 := Aside0.mk hx3; have hBB3 := Aside0.mk (hBB.out.trans (hy3.mono hBB.out.size)); have hK3 := Aside0.mk (KeepBut.of_below hy3 g none); have hn3 := Aside0.mk (show w.heap.size ≤ bt ∧ bt ≠ g by omega); clear hx3 hy3 hbt)
    | ((with_reducible refine gate_dst (N := 4) rfl ?_); refine box_event ?hg (N := 4) ?hd (cs := #[.int .i64 0, .string (⟨#[]⟩ : ByteArray), .int .i64 0, .slice none 0 0]) (t := 25) ?hr ?_; (case hd => rfl); (case hg => rfl); (case hr => first | (go_simp; done) | (go_simp; rfl)); intro br hbr w4 hx4 hy4;
       have hgg4 := Aside0.mk (blk_below hgg3.out hy4); have hBT4 := Aside0.mk (blk_below hBT3.out hy4); have hBR4 := Aside0.mk hx4; have hBB4 := Aside0.mk (hBB3.out.trans (hy4.mono hBB3.out.size)); have hK4 := Aside0.mk (hK3.out.trans (KeepBut.of_below hy4 g none) (.inl rfl)); have hn4 := Aside0.mk (show br ≠ bt ∧ br ≠ g ∧ w.heap.size ≤ br by have h1 := blk_lt hBT3.out; have h2 := blk_lt hgg3.out; have h3 := hK3.out.1; omega); 
       have g2 := (blk_cell hgg4.out 2).trans (rfl : _ = some (Value.int .i64 s)); have f2 := blk_frozen hgg4.out 2; clear hx4 hy4 hbr))
  go_loopg [] k (fun kq w' => ∃ (t' : S25) (At' : Option Addr) (ct' : Nat) (s2 : Int), Aside0 (arith_Eval.vl kq l0 t' s2 = some (rt, rs)) ∧ Aside0 (Kd.C k25 w0 At' t'.f3.length t'.f3 ∧ t'.f3.length ≤ ct') ∧
    Aside0 (w'.heap[bt]? = some (.cells #[.int .i64 t'.f0, .string t'.f1, .int .i64 t'.f2, .slice At' t'.f3.length ct'] 25 (0, 0))) ∧
    Aside0 (w'.heap[br]? = some (.cells #[.int .i64 0, .string ⟨#[]⟩, .int .i64 0, .slice none 0 0] 25 (0, 0))) ∧
    Aside0 (w'.heap[g]? = some (.cells #[.slice A0 l0.length c0, .int .i64 deep, .int .i64 s2] 49 (0, 0))) ∧ Aside0 (Below w0.heap.size w0 w') ∧ Aside0 (KeepBut w w' g none))
  case atStart => exact ⟨t, At, ct, wrap64 (s + 1), hv, hAt, ⟨blk_far (p := ⟨g, 2, none⟩) hBT4.out hn3.out.2 _⟩, ⟨blk_far (p := ⟨g, 2, none⟩) hBR4.out hn4.out.2.1 _⟩, ⟨blk_put hgg4.out 2 _ rfl⟩, ⟨hBB4.out.setCell (p := ⟨g, 2, none⟩) hGG.out _⟩, ⟨hK4.out.set_ 2 _⟩⟩
  case round =>
    clear hgg hgg3 hBT3 hBB3 hK3 hgg4 hBT4 hBR4 hBB4 hK4 hv hAt g2 f2
    obtain ⟨t', At', ct', s2, hv, hAt, hBT, hBR, hBG, hB1, hK1⟩ := hrel
    cases gk with
    | zero => exact absurd hv.out (by simp [arith_Eval.vl])
    | succ k1 =>
      have b0 := (blk_cell hBT.out 0).trans (rfl : _ = some (Value.int .i64 t'.f0))
      have b1 := (blk_cell hBT.out 1).trans (rfl : _ = some (Value.string t'.f1))
      have b2 := (blk_cell hBT.out 2).trans (rfl : _ = some (Value.int .i64 t'.f2))
      have b3 := (blk_cell hBT.out 3).trans (rfl : _ = some (Value.slice At' t'.f3.length ct'))
      have bf0 := blk_frozen hBT.out 0
      have bf1 := blk_frozen hBT.out 1
      have bf2 := blk_frozen hBT.out 2
      have bf3 := blk_frozen hBT.out 3
      have g0 := (blk_cell hBG.out 0).trans (rfl : _ = some (Value.slice A0 l0.length c0))
      have g2 := (blk_cell hBG.out 2).trans (rfl : _ = some (Value.int .i64 s2))
      have f2 := blk_frozen hBG.out 2
      have H := hv.out
      simp only [arith_Eval.vl] at H
      by_cases c1 : s2 ≤ 2000
      · rw [if_pos c1] at H
        have d1 : (s2 ≤ 2000) = True := eq_true c1
        have d2 : (s2 > 2000) = False := eq_false (by omega)
        by_cases c2 : t'.f0 = 1
        · rw [if_pos c2] at H
          have e1 : (t'.f0 == 1) = true := beq_iff_eq.mpr c2
          have c2a := Aside0.mk c2
          clear c2
          rcases subst_Look.fixed w0 A0 c0 l0 t'.f2 hCC.out with ⟨hf, hF⟩ | ⟨x, A3, c3, hf, hC3, hl3, hF⟩
          · rw [hf] at H
            have Ha := Aside0.mk H
            clear H
            have H := Ha
            clear Ha
            have hfa := Aside0.mk hf
            clear hf
            have hd2 : ∀ o, (wr.alloc o).cell? ⟨bt, 2, none⟩ = some (.int .i64 t'.f2) := fun o => (blk_cell (blk_alloc hBT.out o) 2).trans rfl
            have hg0 : ∀ o, (wr.alloc o).cell? ⟨g, 0, none⟩ = some (.slice A0 l0.length c0) := fun o => (blk_cell (blk_alloc hBG.out o) 0).trans rfl
            have hlt := Aside0.mk (And.intro (blk_lt hBT.out) (And.intro (blk_lt hBR.out) (blk_lt hBG.out)))
            go_wp2
            go_cut [6, 7] (fun s6 s7 wx => ∃ bx, s6 = .pointer (some ⟨bx, 0, none⟩) ∧ s7 = .bool false ∧ Aside0 (wx.heap[bx]? = some (.cells #[.int .i64 0, .string ⟨#[]⟩, .int .i64 0, .slice none 0 0] 25 (0, 0)) ∧ bx ≠ bt ∧ bx ≠ br ∧ bx ≠ g) ∧
              Aside0 (wx.heap[bt]? = some (.cells #[.int .i64 t'.f0, .string t'.f1, .int .i64 t'.f2, .slice At' t'.f3.length ct'] 25 (0, 0))) ∧ Aside0 (wx.heap[br]? = some (.cells #[.int .i64 0, .string ⟨#[]⟩, .int .i64 0, .slice none 0 0] 25 (0, 0))) ∧
              Aside0 (wx.heap[g]? = some (.cells #[.slice A0 l0.length c0, .int .i64 deep, .int .i64 s2] 49 (0, 0))) ∧ Aside0 (Below w0.heap.size w0 wx) ∧ Aside0 (KeepBut w wx g none))
            case first =>
              go_region_with (go_at_call 35; (with_reducible refine (hF _ (by repeat (first | exact hB1.out | apply pw_below_drewN | apply below_drew1 | refine Below.alloc ?_ (by have := hB1.out.size; simp; omega) _))).mono ?_); rintro e w' ⟨rfl, hb⟩; (try (have hx := Aside0.mk (blk_below (by first | exact heap_alloc_new _ _ | exact blk_drewN (heap_alloc_new _ _) _ | exact blk_drew (heap_alloc_new _ _)) hb); have qx0 := blk_cell hx.out 0; have qx1 := blk_cell hx.out 1; have qx2 := blk_cell hx.out 2; have qx3 := blk_cell hx.out 3; have px0 := blk_frozen hx.out 0; have px1 := blk_frozen hx.out 1; have px2 := blk_frozen hx.out 2; have px3 := blk_frozen hx.out 3)); have hT := Aside0.mk (blk_below (by first | exact blk_drew hBT.out | exact blk_drew (blk_alloc hBT.out _)) hb); have hR := Aside0.mk (blk_below (by first | exact blk_drew hBR.out | exact blk_drew (blk_alloc hBR.out _)) hb); have hGb := Aside0.mk (blk_below (by first | exact blk_drew hBG.out | exact blk_drew (blk_alloc hBG.out _)) hb); have hB2 := Aside0.mk (show Below w0.heap.size w0 w' from by first | exact (below_drew1 hB1.out).trans (hb.mono hB1.out.size) | exact (below_drew1 (hB1.out.alloc hB1.out.size _)).trans (hb.mono (by have := hB1.out.size; simp; omega))); have hK2 := Aside0.mk (show KeepBut w w' g none from by first | exact (keep_drew hK1.out).trans (KeepBut.of_below hb g none) (.inl rfl) | exact (keep_drew (keep_alloc hK1.out _)).trans (KeepBut.of_below hb g none) (.inl rfl)); have hsz := Aside0.mk (show wr.heap.size ≤ w'.heap.size from by first | exact hb.size | exact Nat.le_trans (by simp) hb.size); clear hb)
              all_goals (go_wp2_with fail; go_meet; first
                | (have hx_ := hx; have hl_ := hlt.out; exact ⟨wr.heap.size, rfl, rfl, ⟨arith_Eval.p4s hx.out, by omega, by omega, by omega⟩, ⟨arith_Eval.p4f hT.out (by omega)⟩, ⟨arith_Eval.p4f hR.out (by omega)⟩, ⟨arith_Eval.p4f hGb.out (by omega)⟩, ⟨arith_Eval.p4b hB2.out hB1.out.size⟩, ⟨arith_Eval.p4k hK2.out hK1.out.1⟩⟩)
                | (have hl_ := hlt.out; have hs_ := hsz.out; exact ⟨_, rfl, rfl, ⟨heap_alloc_new w' _, by omega, by omega, by omega⟩, ⟨blk_alloc hT.out _⟩, ⟨blk_alloc hR.out _⟩, ⟨blk_alloc hGb.out _⟩, ⟨hB2.out.alloc hB2.out.size _⟩, ⟨keep_alloc hK2.out _⟩⟩))
            case rest =>
              clear hd2 hg0 hBT hBR hBG hB1 hK1 b0 b1 b2 b3 bf0 bf1 bf2 bf3 g0 g2 f2 hlt
              obtain ⟨bx, rfl, rfl, hX, hBT, hBR, hBG, hB1, hK1⟩ := hcut
              have b0 := (blk_cell hBT.out 0).trans (rfl : _ = some (Value.int .i64 t'.f0))
              have bf0 := blk_frozen hBT.out 0
              have b1 := (blk_cell hBT.out 1).trans (rfl : _ = some (Value.string t'.f1))
              have bf1 := blk_frozen hBT.out 1
              have b2 := (blk_cell hBT.out 2).trans (rfl : _ = some (Value.int .i64 t'.f2))
              have bf2 := blk_frozen hBT.out 2
              have b3 := (blk_cell hBT.out 3).trans (rfl : _ = some (Value.slice At' t'.f3.length ct'))
              have bf3 := blk_frozen hBT.out 3
              have r0 := (blk_cell hBR.out 0).trans (rfl : _ = some (Value.int .i64 0))
              have rf0 := blk_frozen hBR.out 0
              have r1 := (blk_cell hBR.out 1).trans (rfl : _ = some (Value.string ⟨#[]⟩))
              have rf1 := blk_frozen hBR.out 1
              have r2 := (blk_cell hBR.out 2).trans (rfl : _ = some (Value.int .i64 0))
              have rf2 := blk_frozen hBR.out 2
              have r3 := (blk_cell hBR.out 3).trans (rfl : _ = some (Value.slice none 0 0))
              have rf3 := blk_frozen hBR.out 3
              have g2 := (blk_cell hBG.out 2).trans (rfl : _ = some (Value.int .i64 s2))
              have f2 := blk_frozen hBG.out 2
              have H := H.out
              simp only [Option.some.injEq, Prod.mk.injEq] at H
              obtain ⟨h1_, h2_⟩ := H
              have hr := hr.out
              rw [← h1_, ← h2_, if_neg (by omega)] at hr
              simp only [Option.some.injEq, Prod.mk.injEq] at hr
              obtain ⟨h3_, h4_, h5_⟩ := hr
              have e5 := Aside0.mk (And.intro h3_ (And.intro h4_ h5_))
              clear h1_ h2_ h3_ h4_ h5_
              go_wp2
              refine bodyPost_ret (results_ct rfl _ _ br 25 #[.int .i64 t'.f0, .string t'.f1, .int .i64 t'.f2, .slice At' t'.f3.length ct'] (0, 0) _ rfl (arith_Eval.p4s hBR.out) Try.underlying25 rfl (by kernel_rfl)) rfl ?_
              obtain ⟨h3_, h4_, h5_⟩ := e5.out
              subst h3_
              subst h4_
              subst h5_
              exact ⟨At', ct', rfl, hAt.out.1, hAt.out.2, arith_Eval.p4f hBG.out (by have := hn4.out; omega), arith_Eval.p4b hB1.out (Nat.le_trans hBB.out.size hn4.out.2.2), arith_Eval.p4k hK1.out hn4.out.2.2⟩
          · rw [hf] at H
            have Ha := Aside0.mk H
            clear H
            have H := Ha
            clear Ha
            have hfa := Aside0.mk hf
            clear hf
            have hd2 : ∀ o, (wr.alloc o).cell? ⟨bt, 2, none⟩ = some (.int .i64 t'.f2) := fun o => (blk_cell (blk_alloc hBT.out o) 2).trans rfl
            have hg0 : ∀ o, (wr.alloc o).cell? ⟨g, 0, none⟩ = some (.slice A0 l0.length c0) := fun o => (blk_cell (blk_alloc hBG.out o) 0).trans rfl
            have hlt := Aside0.mk (And.intro (blk_lt hBT.out) (And.intro (blk_lt hBR.out) (blk_lt hBG.out)))
            go_wp2
            go_cut [6, 7] (fun s6 s7 wx => ∃ bx, s6 = .pointer (some ⟨bx, 0, none⟩) ∧ s7 = .bool true ∧ Aside0 (wx.heap[bx]? = some (.cells #[.int .i64 x.f0, .string x.f1, .int .i64 x.f2, .slice A3 x.f3.length c3] 25 (0, 0)) ∧ bx ≠ bt ∧ bx ≠ br ∧ bx ≠ g) ∧
              Aside0 (wx.heap[bt]? = some (.cells #[.int .i64 t'.f0, .string t'.f1, .int .i64 t'.f2, .slice At' t'.f3.length ct'] 25 (0, 0))) ∧ Aside0 (wx.heap[br]? = some (.cells #[.int .i64 0, .string ⟨#[]⟩, .int .i64 0, .slice none 0 0] 25 (0, 0))) ∧
              Aside0 (wx.heap[g]? = some (.cells #[.slice A0 l0.length c0, .int .i64 deep, .int .i64 s2] 49 (0, 0))) ∧ Aside0 (Below w0.heap.size w0 wx) ∧ Aside0 (KeepBut w wx g none))
            case first =>
              go_region_with (go_at_call 35; (with_reducible refine (hF _ (by repeat (first | exact hB1.out | apply pw_below_drewN | apply below_drew1 | refine Below.alloc ?_ (by have := hB1.out.size; simp; omega) _))).mono ?_); rintro e w' ⟨rfl, hb⟩; (try (have hx := Aside0.mk (blk_below (by first | exact heap_alloc_new _ _ | exact blk_drewN (heap_alloc_new _ _) _ | exact blk_drew (heap_alloc_new _ _)) hb); have qx0 := blk_cell hx.out 0; have qx1 := blk_cell hx.out 1; have qx2 := blk_cell hx.out 2; have qx3 := blk_cell hx.out 3; have px0 := blk_frozen hx.out 0; have px1 := blk_frozen hx.out 1; have px2 := blk_frozen hx.out 2; have px3 := blk_frozen hx.out 3)); have hT := Aside0.mk (blk_below (by first | exact blk_drew hBT.out | exact blk_drew (blk_alloc hBT.out _)) hb); have hR := Aside0.mk (blk_below (by first | exact blk_drew hBR.out | exact blk_drew (blk_alloc hBR.out _)) hb); have hGb := Aside0.mk (blk_below (by first | exact blk_drew hBG.out | exact blk_drew (blk_alloc hBG.out _)) hb); have hB2 := Aside0.mk (show Below w0.heap.size w0 w' from by first | exact (below_drew1 hB1.out).trans (hb.mono hB1.out.size) | exact (below_drew1 (hB1.out.alloc hB1.out.size _)).trans (hb.mono (by have := hB1.out.size; simp; omega))); have hK2 := Aside0.mk (show KeepBut w w' g none from by first | exact (keep_drew hK1.out).trans (KeepBut.of_below hb g none) (.inl rfl) | exact (keep_drew (keep_alloc hK1.out _)).trans (KeepBut.of_below hb g none) (.inl rfl)); have hsz := Aside0.mk (show wr.heap.size ≤ w'.heap.size from by first | exact hb.size | exact Nat.le_trans (by simp) hb.size); clear hb)
              all_goals (go_wp2_with fail; go_meet; first
                | (have hx_ := hx; have hl_ := hlt.out; exact ⟨wr.heap.size, rfl, rfl, ⟨arith_Eval.p4s hx.out, by omega, by omega, by omega⟩, ⟨arith_Eval.p4f hT.out (by omega)⟩, ⟨arith_Eval.p4f hR.out (by omega)⟩, ⟨arith_Eval.p4f hGb.out (by omega)⟩, ⟨arith_Eval.p4b hB2.out hB1.out.size⟩, ⟨arith_Eval.p4k hK2.out hK1.out.1⟩⟩)
                | (have hl_ := hlt.out; have hs_ := hsz.out; exact ⟨_, rfl, rfl, ⟨heap_alloc_new w' _, by omega, by omega, by omega⟩, ⟨blk_alloc hT.out _⟩, ⟨blk_alloc hR.out _⟩, ⟨blk_alloc hGb.out _⟩, ⟨hB2.out.alloc hB2.out.size _⟩, ⟨keep_alloc hK2.out _⟩⟩))
            case rest =>
              clear hd2 hg0 hBT hBR hBG hB1 hK1 b0 b1 b2 b3 bf0 bf1 bf2 bf3 g0 g2 f2 hlt
              obtain ⟨bx, rfl, rfl, hX, hBT, hBR, hBG, hB1, hK1⟩ := hcut
              have b0 := (blk_cell hBT.out 0).trans (rfl : _ = some (Value.int .i64 t'.f0))
              have bf0 := blk_frozen hBT.out 0
              have b1 := (blk_cell hBT.out 1).trans (rfl : _ = some (Value.string t'.f1))
              have bf1 := blk_frozen hBT.out 1
              have b2 := (blk_cell hBT.out 2).trans (rfl : _ = some (Value.int .i64 t'.f2))
              have bf2 := blk_frozen hBT.out 2
              have b3 := (blk_cell hBT.out 3).trans (rfl : _ = some (Value.slice At' t'.f3.length ct'))
              have bf3 := blk_frozen hBT.out 3
              have g2 := (blk_cell hBG.out 2).trans (rfl : _ = some (Value.int .i64 s2))
              have f2 := blk_frozen hBG.out 2
              have x0 := (blk_cell hX.out.1 0).trans (rfl : _ = some (Value.int .i64 x.f0))
              have x1 := (blk_cell hX.out.1 1).trans (rfl : _ = some (Value.string x.f1))
              have x2 := (blk_cell hX.out.1 2).trans (rfl : _ = some (Value.int .i64 x.f2))
              have x3 := (blk_cell hX.out.1 3).trans (rfl : _ = some (Value.slice A3 x.f3.length c3))
              have hG5 := arith_Eval.p4f (u0 := .int .i64 x.f0) (u1 := .string x.f1) (u2 := .int .i64 x.f2) (u3 := .slice A3 x.f3.length c3) hBG.out (fun e => hn3.out.2 e.symm)
              have g5 := (blk_cell hG5 2).trans (rfl : _ = some (Value.int .i64 s2))
              have f5 := blk_frozen hG5 2
              clear hG5
              go_wp2
              go_roundg k1
              case measure => omega
              case rel => exact ⟨x, A3, c3, wrap64 (s2 + 1), H, ⟨hC3, hl3⟩, ⟨blk_far (p := ⟨g, 2, none⟩) (arith_Eval.p4s hBT.out) hn3.out.2 _⟩, ⟨blk_far (p := ⟨g, 2, none⟩) (arith_Eval.p4f hBR.out hn4.out.1) hn4.out.2.1 _⟩, ⟨blk_put (arith_Eval.p4f hBG.out (fun e => hn3.out.2 e.symm)) 2 _ rfl⟩, ⟨(arith_Eval.p4b hB1.out (Nat.le_trans hBB.out.size hn3.out.1)).setCell (p := ⟨g, 2, none⟩) hGG.out _⟩, ⟨(arith_Eval.p4k hK1.out hn3.out.1).set_ 2 _⟩⟩
        · rw [if_neg c2] at H
          have e1 : (t'.f0 == 1) = false := beq_eq_false_iff_ne.mpr c2
          have H := Aside0.mk H
          have b0 := (blk_cell hBT.out 0).trans (rfl : _ = some (Value.int .i64 t'.f0))
          have bf0 := blk_frozen hBT.out 0
          have b1 := (blk_cell hBT.out 1).trans (rfl : _ = some (Value.string t'.f1))
          have bf1 := blk_frozen hBT.out 1
          have b2 := (blk_cell hBT.out 2).trans (rfl : _ = some (Value.int .i64 t'.f2))
          have bf2 := blk_frozen hBT.out 2
          have b3 := (blk_cell hBT.out 3).trans (rfl : _ = some (Value.slice At' t'.f3.length ct'))
          have bf3 := blk_frozen hBT.out 3
          have r0 := (blk_cell hBR.out 0).trans (rfl : _ = some (Value.int .i64 0))
          have rf0 := blk_frozen hBR.out 0
          have r1 := (blk_cell hBR.out 1).trans (rfl : _ = some (Value.string ⟨#[]⟩))
          have rf1 := blk_frozen hBR.out 1
          have r2 := (blk_cell hBR.out 2).trans (rfl : _ = some (Value.int .i64 0))
          have rf2 := blk_frozen hBR.out 2
          have r3 := (blk_cell hBR.out 3).trans (rfl : _ = some (Value.slice none 0 0))
          have rf3 := blk_frozen hBR.out 3
          have g2 := (blk_cell hBG.out 2).trans (rfl : _ = some (Value.int .i64 s2))
          have f2 := blk_frozen hBG.out 2
          have H := H.out
          simp only [Option.some.injEq, Prod.mk.injEq] at H
          obtain ⟨h1_, h2_⟩ := H
          have hr := hr.out
          rw [← h1_, ← h2_, if_neg (by omega)] at hr
          simp only [Option.some.injEq, Prod.mk.injEq] at hr
          obtain ⟨h3_, h4_, h5_⟩ := hr
          have e5 := Aside0.mk (And.intro h3_ (And.intro h4_ h5_))
          clear h1_ h2_ h3_ h4_ h5_
          go_wp2
          refine bodyPost_ret (results_ct rfl _ _ br 25 #[.int .i64 t'.f0, .string t'.f1, .int .i64 t'.f2, .slice At' t'.f3.length ct'] (0, 0) _ rfl (arith_Eval.p4s hBR.out) Try.underlying25 rfl (by kernel_rfl)) rfl ?_
          obtain ⟨h3_, h4_, h5_⟩ := e5.out
          subst h3_
          subst h4_
          subst h5_
          exact ⟨At', ct', rfl, hAt.out.1, hAt.out.2, arith_Eval.p4f hBG.out (by have := hn4.out; omega), arith_Eval.p4b hB1.out (Nat.le_trans hBB.out.size hn4.out.2.2), arith_Eval.p4k hK1.out hn4.out.2.2⟩
      · rw [if_neg c1] at H
        have d1 : (s2 ≤ 2000) = False := eq_false c1
        have d2 : (s2 > 2000) = True := eq_true (by omega)
        have H := Aside0.mk H
        have b0 := (blk_cell hBT.out 0).trans (rfl : _ = some (Value.int .i64 t'.f0))
        have bf0 := blk_frozen hBT.out 0
        have b1 := (blk_cell hBT.out 1).trans (rfl : _ = some (Value.string t'.f1))
        have bf1 := blk_frozen hBT.out 1
        have b2 := (blk_cell hBT.out 2).trans (rfl : _ = some (Value.int .i64 t'.f2))
        have bf2 := blk_frozen hBT.out 2
        have b3 := (blk_cell hBT.out 3).trans (rfl : _ = some (Value.slice At' t'.f3.length ct'))
        have bf3 := blk_frozen hBT.out 3
        have r0 := (blk_cell hBR.out 0).trans (rfl : _ = some (Value.int .i64 0))
        have rf0 := blk_frozen hBR.out 0
        have r1 := (blk_cell hBR.out 1).trans (rfl : _ = some (Value.string ⟨#[]⟩))
        have rf1 := blk_frozen hBR.out 1
        have r2 := (blk_cell hBR.out 2).trans (rfl : _ = some (Value.int .i64 0))
        have rf2 := blk_frozen hBR.out 2
        have r3 := (blk_cell hBR.out 3).trans (rfl : _ = some (Value.slice none 0 0))
        have rf3 := blk_frozen hBR.out 3
        have g2 := (blk_cell hBG.out 2).trans (rfl : _ = some (Value.int .i64 s2))
        have f2 := blk_frozen hBG.out 2
        have H := H.out
        simp only [Option.some.injEq, Prod.mk.injEq] at H
        obtain ⟨h1_, h2_⟩ := H
        have hr := hr.out
        rw [← h2_, if_pos (by omega)] at hr
        simp only [Option.some.injEq, Prod.mk.injEq] at hr
        obtain ⟨h3_, h4_, h5_⟩ := hr
        have e5 := Aside0.mk (And.intro h3_ (And.intro h4_ h5_))
        clear h1_ h2_ h3_ h4_ h5_
        go_wp2
        refine bodyPost_ret (results_ct rfl _ _ br 25 #[.int .i64 0, .string ⟨#[]⟩, .int .i64 0, .slice none 0 0] (0, 0) _ rfl (arith_Eval.p4s hBR.out) Try.underlying25 rfl (by kernel_rfl)) rfl ?_
        obtain ⟨h3_, h4_, h5_⟩ := e5.out
        subst h3_
        subst h4_
        subst h5_
        exact ⟨none, 0, rfl, Kd.C_nil _ _, Nat.le_refl _, arith_Eval.p4f hBG.out (by have := hn4.out; omega), arith_Eval.p4b hB1.out (Nat.le_trans hBB.out.size hn4.out.2.2), arith_Eval.p4k hK1.out hn4.out.2.2⟩
def arith_Eval.al (v : S25 → Int → Int → Option (Int × Int × Int × Int)) : List S25 → Nat → Int → Int → Int → Int → Option (Int × Int × Int × Int × Int)
  | [], _, x, y, d, s => some (x, y, 0, d, s)
  | a :: r, i, x, y, d, s => (v a d s).bind fun q => if q.2.1 = 0 then arith_Eval.al v r (i + 1) (if i = 0 then q.1 else x) (if i = 0 then y else q.1) q.2.2.1 q.2.2.2 else some (if i = 0 then q.1 else x, if i = 0 then y else q.1, q.2.1, q.2.2.1, q.2.2.2)
def arith_Eval.argsf (v : S25 → Int → Int → Option (Int × Int × Int × Int)) (l : List S25) (d s : Int) : Option (Int × Int × Int × Int × Int) :=
  (arith_Eval.al v l 0 0 0 (wrap64 (d + 1)) s).bind fun r => if r.2.2.1 = 0 then some (r.1, r.2.1, 0, wrap64 (r.2.2.2.1 - 1), r.2.2.2.2) else some r
def arith_Eval.Val (w0 : World) (g : Nat) (A0 : Option Addr) (c0 : Nat) (l0 : List S45) (v : S25 → Int → Int → Option (Int × Int × Int × Int)) : Prop :=
  ∀ (w : World) (t : S25) (At : Option Addr) (ct : Nat) (deep s : Int) (r : Int × Int × Int × Int), Kd.C k25 w0 At t.f3.length t.f3 → t.f3.length ≤ ct → Below w0.heap.size w0 w → w.heap[g]? = some (.cells #[.slice A0 l0.length c0, .int .i64 deep, .int .i64 s] 49 (0, 0)) → v t deep s = some r →
    Calls Try.prog 24 #[.pointer (some ⟨g, 0, none⟩), .agg #[.int .i64 t.f0, .string t.f1, .int .i64 t.f2, .slice At t.f3.length ct]] w fun E w' => E = .returned (.tuple #[.int .i64 r.1, .int .i64 r.2.1]) ∧
      w'.heap[g]? = some (.cells #[.slice A0 l0.length c0, .int .i64 r.2.2.1, .int .i64 r.2.2.2] 49 (0, 0)) ∧ Below w0.heap.size w0 w' ∧ KeepBut w w' g none
theorem arith_Eval.Val.use {w0 : World} {g : Nat} {A0 : Option Addr} {c0 : Nat} {l0 : List S45} {v : S25 → Int → Int → Option (Int × Int × Int × Int)} (h : arith_Eval.Val w0 g A0 c0 l0 v) :
  ∀ (w : World) (t : S25) (At : Option Addr) (ct : Nat) (deep s : Int) (r : Int × Int × Int × Int), Kd.C k25 w0 At t.f3.length t.f3 → t.f3.length ≤ ct → Below w0.heap.size w0 w → w.heap[g]? = some (.cells #[.slice A0 l0.length c0, .int .i64 deep, .int .i64 s] 49 (0, 0)) → v t deep s = some r →
    Calls Try.prog 24 #[.pointer (some ⟨g, 0, none⟩), .agg #[.int .i64 t.f0, .string t.f1, .int .i64 t.f2, .slice At t.f3.length ct]] w fun E w' => E = .returned (.tuple #[.int .i64 r.1, .int .i64 r.2.1]) ∧
      w'.heap[g]? = some (.cells #[.slice A0 l0.length c0, .int .i64 r.2.2.1, .int .i64 r.2.2.2] 49 (0, 0)) ∧ Below w0.heap.size w0 w' ∧ KeepBut w w' g none := h
set_option maxRecDepth 100000 in
set_option maxHeartbeats 4000000 in
theorem arith_Eval.args (w0 w : World) (g : Nat) (A0 : Option Addr) (c0 : Nat) (l0 : List S45) (v : S25 → Int → Int → Option (Int × Int × Int × Int)) (hval : arith_Eval.Val w0 g A0 c0 l0 v)
    (t : S25) (At : Option Addr) (ct : Nat) (ht : Kd.C k25 w0 At t.f3.length t.f3) (hct : t.f3.length ≤ ct) (hl2 : t.f3.length ≤ 2) (deep s : Int) (hB : Below w0.heap.size w0 w) (hG : w0.heap.size ≤ g)
    (hg : w.heap[g]? = some (.cells #[.slice A0 l0.length c0, .int .i64 deep, .int .i64 s] 49 (0, 0))) (r : Int × Int × Int × Int × Int) (h : arith_Eval.argsf v t.f3 deep s = some r) :
    Calls Try.prog 30 #[.pointer (some ⟨g, 0, none⟩), .agg #[.int .i64 t.f0, .string t.f1, .int .i64 t.f2, .slice At t.f3.length ct]] w fun E w' => E = .returned (.tuple #[.agg #[.int .i64 r.1, .int .i64 r.2.1], .int .i64 r.2.2.1]) ∧
      w'.heap[g]? = some (.cells #[.slice A0 l0.length c0, .int .i64 r.2.2.2.1, .int .i64 r.2.2.2.2] 49 (0, 0)) ∧ Below w0.heap.size w0 w' ∧ KeepBut w w' g none := by
  obtain ⟨q, hq, hr⟩ := Option.bind_eq_some_iff.1 h
  have hq := Aside0.mk hq
  have hr := Aside0.mk hr
  have hAt := Aside0.mk (And.intro ht hct)
  have hBB := Aside0.mk hB
  have hGG := Aside0.mk hG
  have hvv := Aside0.mk hval
  have hl2a := Aside0.mk hl2
  clear h ht hct hB hG hval hl2
  have hgw : g < w.heap.size := blk_lt hg
  have hgg := Aside0.mk hg
  clear hg
  go_enter Try.func30, Try.ntmps30
  go_wp2_with (first
    | ((with_reducible refine gate_dst (N := 3) rfl ?_); refine box_event ?hg (N := 3) ?hd (cs := #[.int .i64 t.f0, .string t.f1, .int .i64 t.f2, .slice At t.f3.length ct]) (t := 25) ?hr ?_; (case hd => rfl); (case hg => rfl); (case hr => first | (go_simp; done) | (go_simp; rfl)); intro bt hbt w3 hx3 hy3;
       have hgg3 := Aside0.mk (blk_below hgg.out hy3); have hBT3 := Aside0.mk hx3; have hBB3 := Aside0.mk (hBB.out.trans (hy3.mono hBB.out.size)); have hK3 := Aside0.mk (KeepBut.of_below hy3 g none); have hn3 := Aside0.mk (show w.heap.size ≤ bt ∧ bt ≠ g by omega); clear hx3 hy3 hbt)
    | ((with_reducible refine gate_dst (N := 4) rfl ?_); refine box_event ?hg (N := 4) ?hd (cs := #[.int .i64 0, .int .i64 0]) (t := 61) ?hr ?_; (case hd => rfl); (case hg => rfl); (case hr => first | (go_simp; done) | (go_simp; rfl)); intro br hbr w4 hx4 hy4;
       have hgg4 := Aside0.mk (blk_below hgg3.out hy4); have hBT4 := Aside0.mk (blk_below hBT3.out hy4); have hBR4 := Aside0.mk hx4; have hBB4 := Aside0.mk (hBB3.out.trans (hy4.mono hBB3.out.size)); have hK4 := Aside0.mk (hK3.out.trans (KeepBut.of_below hy4 g none) (.inl rfl)); have hn4 := Aside0.mk (show br ≠ bt ∧ br ≠ g ∧ w.heap.size ≤ br by have h1 := blk_lt hBT3.out; have h2 := blk_lt hgg3.out; have h3 := hK3.out.1; omega); 
       have g1 := (blk_cell hgg4.out 1).trans (rfl : _ = some (Value.int .i64 deep)); have f1 := blk_frozen hgg4.out 1; have b3 := (blk_cell hBT4.out 3).trans (rfl : _ = some (Value.slice At t.f3.length ct)); have hG5 := blk_far (p := ⟨g, 1, none⟩) hBT4.out hn3.out.2 (.int .i64 (wrap64 (deep + 1))); have b5 := (blk_cell hG5 3).trans (rfl : _ = some (Value.slice At t.f3.length ct)); clear hG5 hx4 hy4 hbr))
  go_loopw [18] (fun v18 w' => ∃ (i : Nat) (x y d s2 : Int), v18 = .int .i64 (i : Int) ∧ Aside0 (i ≤ t.f3.length) ∧ Aside0 (arith_Eval.al v (t.f3.drop i) i x y d s2 = some q) ∧
    Aside0 (w'.heap[bt]? = some (.cells #[.int .i64 t.f0, .string t.f1, .int .i64 t.f2, .slice At t.f3.length ct] 25 (0, 0))) ∧ Aside0 (w'.heap[br]? = some (.cells #[.int .i64 x, .int .i64 y] 61 (0, 0))) ∧
    Aside0 (w'.heap[g]? = some (.cells #[.slice A0 l0.length c0, .int .i64 d, .int .i64 s2] 49 (0, 0))) ∧ Aside0 (Below w0.heap.size w0 w') ∧ Aside0 (KeepBut w w' g none)) (fun v _ => t.f3.length - (intOf v).toNat)
  case atStart => exact ⟨0, 0, 0, wrap64 (deep + 1), s, rfl, ⟨Nat.zero_le _⟩, hq, ⟨blk_far (p := ⟨g, 1, none⟩) hBT4.out hn3.out.2 _⟩, ⟨blk_far (p := ⟨g, 1, none⟩) hBR4.out hn4.out.2.1 _⟩, ⟨blk_put hgg4.out 1 _ rfl⟩, ⟨hBB4.out.setCell (p := ⟨g, 1, none⟩) hGG.out _⟩, ⟨hK4.out.set_ 1 _⟩⟩
  case round =>
    clear hgg hgg3 hBT3 hBB3 hK3 hgg4 hBT4 hBR4 hBB4 hK4 hq g1 f1 b3 b5
    obtain ⟨i, x, y, d, s2, rfl, hi, hv, hBT, hBR, hBG, hB1, hK1⟩ := hrel
    by_cases hlt : i < t.f3.length
    · have h01 : i = 0 ∨ i = 1 := by have := hl2a.out; omega
      rcases h01 with rfl | rfl
      · clear hi
        have hd : t.f3.drop 0 = rd_T25 t.f3 0 :: t.f3.drop 1 := by
          rw [List.drop_eq_getElem_cons (by omega)]
          congr 1
          unfold rd_T25
          rw [List.getD_eq_getElem?_getD, List.getElem?_eq_getElem (by simpa using hlt)]
          rfl
        obtain ⟨ad, Aa, ca, eA, q0, q1, q2, q3, la, ga⟩ := at_T25 hAt.out.1 0 (by omega) (by omega)
        have q0 := pw_cell_below hB1.out q0
        have q1 := pw_cell_below hB1.out q1
        have q2 := pw_cell_below hB1.out q2
        have q3 := pw_cell_below hB1.out q3
        subst eA
        have hl1 := eq_true (show ((0 : Nat) : Int) < (t.f3.length : Int) by omega)
        have hl3 := eq_true (show (0 : Int) < (t.f3.length : Int) by omega)
        have hl4 := eq_true (show 0 < t.f3.length by omega)
        have hv := hv.out
        rw [hd] at hv
        simp only [arith_Eval.al] at hv
        obtain ⟨qv, hv1, hv2⟩ := Option.bind_eq_some_iff.1 hv
        clear hv hd
        have hv1 := Aside0.mk hv1
        have hv2 := Aside0.mk hv2
        have lg := Aside0.mk (And.intro la ga)
        have hla := Aside0.mk hlt
        clear la ga hlt
        generalize rd_T25 t.f3 0 = a at q0 q1 q2 q3 hv1 hv2 lg
        rw [show ad.add ((0 : Int).toNat * 4) = ad from rfl] at q0 q1 q2 q3
        have hle := Aside0.mk (And.intro (blk_lt hBT.out) (And.intro (blk_lt hBR.out) (blk_lt hBG.out)))
        by_cases he : qv.2.1 = 0
        · have he1 : (qv.2.1 == 0) = true := beq_iff_eq.mpr he
          have he2 : (qv.2.1 != 0) = false := bne_eq_false_iff_eq.mpr he
          have hea := Aside0.mk he
          clear he
          go_wp2_with (first
            | ((with_reducible refine gate_dst (N := 7) rfl ?_); refine box_event ?hg (N := 7) ?hd (cs := #[.int .i64 0, .string (⟨#[]⟩ : ByteArray), .int .i64 0, .slice none 0 0]) (t := 25) ?hr ?_; (case hd => rfl); (case hg => rfl); (case hr => first | (go_simp; done) | (go_simp; rfl)); intro bx hbx w5 hx5 hy5;
               have hBT5 := Aside0.mk (blk_below hBT.out hy5); have hBR5 := Aside0.mk (blk_below hBR.out hy5); have hBG5 := Aside0.mk (blk_below hBG.out hy5); have hB5 := Aside0.mk (hB1.out.trans (hy5.mono hB1.out.size)); have hK5 := Aside0.mk (hK1.out.trans (KeepBut.of_below hy5 g none) (.inl rfl)); have hn5 := Aside0.mk (show bt ≠ bx ∧ br ≠ bx ∧ g ≠ bx ∧ w0.heap.size ≤ bx ∧ w.heap.size ≤ bx by have h1 := hle.out; have h2 := hB1.out.size; have h3 := hK1.out.1; omega);
               have x0 := blk_cell hx5 0; have x1 := blk_cell hx5 1; have x2 := blk_cell hx5 2; have x3 := blk_cell hx5 3; have y0 := blk_frozen hx5 0; have y1 := blk_frozen hx5 1; have y2 := blk_frozen hx5 2; have y3 := blk_frozen hx5 3; clear hx5 hy5 hbx)
            | (go_at_call 24; (with_reducible refine (arith_Eval.Val.use hvv.out _ a Aa ca d s2 qv lg.out.2 lg.out.1 (arith_Eval.p4b hB5.out hn5.out.2.2.2.1) (arith_Eval.p4f hBG5.out hn5.out.2.2.1) hv1.out).mono ?_); rintro E w6 ⟨rfl, hG6, hB6, hK6⟩; have hBR6 := hK6.blk (arith_Eval.p4f hBR5.out hn5.out.2.1) hn4.out.2.1 (by simp); have hBT6 := Aside0.mk (hK6.blk (arith_Eval.p4f hBT5.out hn5.out.1) hn3.out.2 (by simp)); have z0 := (blk_cell hBR6 0).trans (rfl : _ = some (Value.int .i64 x)); have z1 := (blk_cell hBR6 1).trans (rfl : _ = some (Value.int .i64 y)); have v0 := blk_frozen hBR6 0; have v1 := blk_frozen hBR6 1; have hBR6 := Aside0.mk hBR6; have hG6 := Aside0.mk hG6; have hB6 := Aside0.mk hB6; have hK6 := Aside0.mk ((arith_Eval.p4k hK5.out hn5.out.2.2.2.2).trans hK6 (.inl rfl))))
          go_roundw
          case rel =>
            have hv2 := hv2.out
            rw [if_pos hea.out] at hv2
            exact ⟨1, qv.1, y, qv.2.2.1, qv.2.2.2, by first | rfl | simp, ⟨hla.out⟩, ⟨hv2⟩, ⟨blk_far (p := ⟨br, 0, none⟩) hBT6.out hn4.out.1.symm _⟩, ⟨blk_put hBR6.out 0 _ rfl⟩, ⟨blk_far (p := ⟨br, 0, none⟩) hG6.out (fun e => hn4.out.2.1 e.symm) _⟩, ⟨hB6.out.setCell (p := ⟨br, 0, none⟩) (Nat.le_trans hBB.out.size hn4.out.2.2) _⟩, ⟨keep_far (p := ⟨br, 0, none⟩) hK6.out hn4.out.2.2 _⟩⟩
          case measure => have := hla.out; simp [intOf]; omega
        · have he1 : (qv.2.1 == 0) = false := beq_eq_false_iff_ne.mpr he
          have he2 : (qv.2.1 != 0) = true := bne_iff_ne.mpr he
          have hea := Aside0.mk he
          clear he
          go_wp2_with (first
            | ((with_reducible refine gate_dst (N := 7) rfl ?_); refine box_event ?hg (N := 7) ?hd (cs := #[.int .i64 0, .string (⟨#[]⟩ : ByteArray), .int .i64 0, .slice none 0 0]) (t := 25) ?hr ?_; (case hd => rfl); (case hg => rfl); (case hr => first | (go_simp; done) | (go_simp; rfl)); intro bx hbx w5 hx5 hy5;
               have hBT5 := Aside0.mk (blk_below hBT.out hy5); have hBR5 := Aside0.mk (blk_below hBR.out hy5); have hBG5 := Aside0.mk (blk_below hBG.out hy5); have hB5 := Aside0.mk (hB1.out.trans (hy5.mono hB1.out.size)); have hK5 := Aside0.mk (hK1.out.trans (KeepBut.of_below hy5 g none) (.inl rfl)); have hn5 := Aside0.mk (show bt ≠ bx ∧ br ≠ bx ∧ g ≠ bx ∧ w0.heap.size ≤ bx ∧ w.heap.size ≤ bx by have h1 := hle.out; have h2 := hB1.out.size; have h3 := hK1.out.1; omega);
               have x0 := blk_cell hx5 0; have x1 := blk_cell hx5 1; have x2 := blk_cell hx5 2; have x3 := blk_cell hx5 3; have y0 := blk_frozen hx5 0; have y1 := blk_frozen hx5 1; have y2 := blk_frozen hx5 2; have y3 := blk_frozen hx5 3; clear hx5 hy5 hbx)
            | (go_at_call 24; (with_reducible refine (arith_Eval.Val.use hvv.out _ a Aa ca d s2 qv lg.out.2 lg.out.1 (arith_Eval.p4b hB5.out hn5.out.2.2.2.1) (arith_Eval.p4f hBG5.out hn5.out.2.2.1) hv1.out).mono ?_); rintro E w6 ⟨rfl, hG6, hB6, hK6⟩; have hBR6 := hK6.blk (arith_Eval.p4f hBR5.out hn5.out.2.1) hn4.out.2.1 (by simp); have hBT6 := Aside0.mk (hK6.blk (arith_Eval.p4f hBT5.out hn5.out.1) hn3.out.2 (by simp)); have z0 := (blk_cell hBR6 0).trans (rfl : _ = some (Value.int .i64 x)); have z1 := (blk_cell hBR6 1).trans (rfl : _ = some (Value.int .i64 y)); have v0 := blk_frozen hBR6 0; have v1 := blk_frozen hBR6 1; have hBR6 := Aside0.mk hBR6; have hG6 := Aside0.mk hG6; have hB6 := Aside0.mk hB6; have hK6 := Aside0.mk ((arith_Eval.p4k hK5.out hn5.out.2.2.2.2).trans hK6 (.inl rfl))))
          have hv2 := hv2.out
          rw [if_neg hea.out] at hv2
          have hq_ := Option.some.inj hv2
          have hr_ := hr.out
          rw [← hq_, if_neg hea.out] at hr_
          have hr_ := Option.some.inj hr_
          refine bodyPost_ret (results_ct rfl _ _ br 61 #[.int .i64 qv.1, .int .i64 y] (0, 0) _ rfl (blk_put (blk_put (blk_put hBR6.out 0 _ rfl) 0 _ rfl) 1 _ rfl) Try.underlying61 rfl (by kernel_rfl)) rfl ?_
          rw [← hr_]
          exact ⟨rfl, blk_far (p := ⟨br, 1, none⟩) (blk_far (p := ⟨br, 0, none⟩) (blk_far (p := ⟨br, 0, none⟩) hG6.out (fun e => hn4.out.2.1 e.symm) _) (fun e => hn4.out.2.1 e.symm) _) (fun e => hn4.out.2.1 e.symm) _, (((hB6.out).setCell (p := ⟨br, 0, none⟩) (Nat.le_trans hBB.out.size hn4.out.2.2) _).setCell (p := ⟨br, 0, none⟩) (Nat.le_trans hBB.out.size hn4.out.2.2) _).setCell (p := ⟨br, 1, none⟩) (Nat.le_trans hBB.out.size hn4.out.2.2) _, keep_far (p := ⟨br, 1, none⟩) (keep_far (p := ⟨br, 0, none⟩) (keep_far (p := ⟨br, 0, none⟩) (hK6.out) hn4.out.2.2 _) hn4.out.2.2 _) hn4.out.2.2 _⟩
      · clear hi
        have hd : t.f3.drop 1 = rd_T25 t.f3 1 :: t.f3.drop 2 := by
          rw [List.drop_eq_getElem_cons (by omega)]
          congr 1
          unfold rd_T25
          rw [List.getD_eq_getElem?_getD, List.getElem?_eq_getElem (by simpa using hlt)]
          rfl
        obtain ⟨ad, Aa, ca, eA, q0, q1, q2, q3, la, ga⟩ := at_T25 hAt.out.1 1 (by omega) (by omega)
        have q0 := pw_cell_below hB1.out q0
        have q1 := pw_cell_below hB1.out q1
        have q2 := pw_cell_below hB1.out q2
        have q3 := pw_cell_below hB1.out q3
        subst eA
        have hl1 := eq_true (show ((1 : Nat) : Int) < (t.f3.length : Int) by omega)
        have hl3 := eq_true (show (1 : Int) < (t.f3.length : Int) by omega)
        have hl4 := eq_true (show 1 < t.f3.length by omega)
        have hv := hv.out
        rw [hd] at hv
        simp only [arith_Eval.al] at hv
        obtain ⟨qv, hv1, hv2⟩ := Option.bind_eq_some_iff.1 hv
        clear hv hd
        have hv1 := Aside0.mk hv1
        have hv2 := Aside0.mk hv2
        have lg := Aside0.mk (And.intro la ga)
        have hla := Aside0.mk hlt
        clear la ga hlt
        generalize rd_T25 t.f3 1 = a at q0 q1 q2 q3 hv1 hv2 lg
        rw [show ad.add ((1 : Int).toNat * 4) = (⟨ad.block, ad.off + 4, none⟩ : Addr) from rfl] at q0 q1 q2 q3
        dsimp only at q1 q2 q3
        have hle := Aside0.mk (And.intro (blk_lt hBT.out) (And.intro (blk_lt hBR.out) (blk_lt hBG.out)))
        by_cases he : qv.2.1 = 0
        · have he1 : (qv.2.1 == 0) = true := beq_iff_eq.mpr he
          have he2 : (qv.2.1 != 0) = false := bne_eq_false_iff_eq.mpr he
          have hea := Aside0.mk he
          clear he
          go_wp2_with (first
            | ((with_reducible refine gate_dst (N := 7) rfl ?_); refine box_event ?hg (N := 7) ?hd (cs := #[.int .i64 0, .string (⟨#[]⟩ : ByteArray), .int .i64 0, .slice none 0 0]) (t := 25) ?hr ?_; (case hd => rfl); (case hg => rfl); (case hr => first | (go_simp; done) | (go_simp; rfl)); intro bx hbx w5 hx5 hy5;
               have hBT5 := Aside0.mk (blk_below hBT.out hy5); have hBR5 := Aside0.mk (blk_below hBR.out hy5); have hBG5 := Aside0.mk (blk_below hBG.out hy5); have hB5 := Aside0.mk (hB1.out.trans (hy5.mono hB1.out.size)); have hK5 := Aside0.mk (hK1.out.trans (KeepBut.of_below hy5 g none) (.inl rfl)); have hn5 := Aside0.mk (show bt ≠ bx ∧ br ≠ bx ∧ g ≠ bx ∧ w0.heap.size ≤ bx ∧ w.heap.size ≤ bx by have h1 := hle.out; have h2 := hB1.out.size; have h3 := hK1.out.1; omega);
               have x0 := blk_cell hx5 0; have x1 := blk_cell hx5 1; have x2 := blk_cell hx5 2; have x3 := blk_cell hx5 3; have y0 := blk_frozen hx5 0; have y1 := blk_frozen hx5 1; have y2 := blk_frozen hx5 2; have y3 := blk_frozen hx5 3; clear hx5 hy5 hbx)
            | (go_at_call 24; (with_reducible refine (arith_Eval.Val.use hvv.out _ a Aa ca d s2 qv lg.out.2 lg.out.1 (arith_Eval.p4b hB5.out hn5.out.2.2.2.1) (arith_Eval.p4f hBG5.out hn5.out.2.2.1) hv1.out).mono ?_); rintro E w6 ⟨rfl, hG6, hB6, hK6⟩; have hBR6 := hK6.blk (arith_Eval.p4f hBR5.out hn5.out.2.1) hn4.out.2.1 (by simp); have hBT6 := Aside0.mk (hK6.blk (arith_Eval.p4f hBT5.out hn5.out.1) hn3.out.2 (by simp)); have z0 := (blk_cell hBR6 0).trans (rfl : _ = some (Value.int .i64 x)); have z1 := (blk_cell hBR6 1).trans (rfl : _ = some (Value.int .i64 y)); have v0 := blk_frozen hBR6 0; have v1 := blk_frozen hBR6 1; have hBR6 := Aside0.mk hBR6; have hG6 := Aside0.mk hG6; have hB6 := Aside0.mk hB6; have hK6 := Aside0.mk ((arith_Eval.p4k hK5.out hn5.out.2.2.2.2).trans hK6 (.inl rfl))))
          go_roundw
          case rel =>
            have hv2 := hv2.out
            rw [if_pos hea.out] at hv2
            exact ⟨2, x, qv.1, qv.2.2.1, qv.2.2.2, by first | rfl | simp, ⟨hla.out⟩, ⟨hv2⟩, ⟨blk_far (p := ⟨br, 1, none⟩) hBT6.out hn4.out.1.symm _⟩, ⟨blk_put hBR6.out 1 _ rfl⟩, ⟨blk_far (p := ⟨br, 1, none⟩) hG6.out (fun e => hn4.out.2.1 e.symm) _⟩, ⟨hB6.out.setCell (p := ⟨br, 1, none⟩) (Nat.le_trans hBB.out.size hn4.out.2.2) _⟩, ⟨keep_far (p := ⟨br, 1, none⟩) hK6.out hn4.out.2.2 _⟩⟩
          case measure => have := hla.out; simp [intOf]; omega
        · have he1 : (qv.2.1 == 0) = false := beq_eq_false_iff_ne.mpr he
          have he2 : (qv.2.1 != 0) = true := bne_iff_ne.mpr he
          have hea := Aside0.mk he
          clear he
          go_wp2_with (first
            | ((with_reducible refine gate_dst (N := 7) rfl ?_); refine box_event ?hg (N := 7) ?hd (cs := #[.int .i64 0, .string (⟨#[]⟩ : ByteArray), .int .i64 0, .slice none 0 0]) (t := 25) ?hr ?_; (case hd => rfl); (case hg => rfl); (case hr => first | (go_simp; done) | (go_simp; rfl)); intro bx hbx w5 hx5 hy5;
               have hBT5 := Aside0.mk (blk_below hBT.out hy5); have hBR5 := Aside0.mk (blk_below hBR.out hy5); have hBG5 := Aside0.mk (blk_below hBG.out hy5); have hB5 := Aside0.mk (hB1.out.trans (hy5.mono hB1.out.size)); have hK5 := Aside0.mk (hK1.out.trans (KeepBut.of_below hy5 g none) (.inl rfl)); have hn5 := Aside0.mk (show bt ≠ bx ∧ br ≠ bx ∧ g ≠ bx ∧ w0.heap.size ≤ bx ∧ w.heap.size ≤ bx by have h1 := hle.out; have h2 := hB1.out.size; have h3 := hK1.out.1; omega);
               have x0 := blk_cell hx5 0; have x1 := blk_cell hx5 1; have x2 := blk_cell hx5 2; have x3 := blk_cell hx5 3; have y0 := blk_frozen hx5 0; have y1 := blk_frozen hx5 1; have y2 := blk_frozen hx5 2; have y3 := blk_frozen hx5 3; clear hx5 hy5 hbx)
            | (go_at_call 24; (with_reducible refine (arith_Eval.Val.use hvv.out _ a Aa ca d s2 qv lg.out.2 lg.out.1 (arith_Eval.p4b hB5.out hn5.out.2.2.2.1) (arith_Eval.p4f hBG5.out hn5.out.2.2.1) hv1.out).mono ?_); rintro E w6 ⟨rfl, hG6, hB6, hK6⟩; have hBR6 := hK6.blk (arith_Eval.p4f hBR5.out hn5.out.2.1) hn4.out.2.1 (by simp); have hBT6 := Aside0.mk (hK6.blk (arith_Eval.p4f hBT5.out hn5.out.1) hn3.out.2 (by simp)); have z0 := (blk_cell hBR6 0).trans (rfl : _ = some (Value.int .i64 x)); have z1 := (blk_cell hBR6 1).trans (rfl : _ = some (Value.int .i64 y)); have v0 := blk_frozen hBR6 0; have v1 := blk_frozen hBR6 1; have hBR6 := Aside0.mk hBR6; have hG6 := Aside0.mk hG6; have hB6 := Aside0.mk hB6; have hK6 := Aside0.mk ((arith_Eval.p4k hK5.out hn5.out.2.2.2.2).trans hK6 (.inl rfl))))
          have hv2 := hv2.out
          rw [if_neg hea.out] at hv2
          have hq_ := Option.some.inj hv2
          have hr_ := hr.out
          rw [← hq_, if_neg hea.out] at hr_
          have hr_ := Option.some.inj hr_
          refine bodyPost_ret (results_ct rfl _ _ br 61 #[.int .i64 x, .int .i64 qv.1] (0, 0) _ rfl (blk_put (blk_put (blk_put hBR6.out 1 _ rfl) 0 _ rfl) 1 _ rfl) Try.underlying61 rfl (by kernel_rfl)) rfl ?_
          rw [← hr_]
          exact ⟨rfl, blk_far (p := ⟨br, 1, none⟩) (blk_far (p := ⟨br, 0, none⟩) (blk_far (p := ⟨br, 1, none⟩) hG6.out (fun e => hn4.out.2.1 e.symm) _) (fun e => hn4.out.2.1 e.symm) _) (fun e => hn4.out.2.1 e.symm) _, (((hB6.out).setCell (p := ⟨br, 1, none⟩) (Nat.le_trans hBB.out.size hn4.out.2.2) _).setCell (p := ⟨br, 0, none⟩) (Nat.le_trans hBB.out.size hn4.out.2.2) _).setCell (p := ⟨br, 1, none⟩) (Nat.le_trans hBB.out.size hn4.out.2.2) _, keep_far (p := ⟨br, 1, none⟩) (keep_far (p := ⟨br, 0, none⟩) (keep_far (p := ⟨br, 1, none⟩) (hK6.out) hn4.out.2.2 _) hn4.out.2.2 _) hn4.out.2.2 _⟩
    · have hn : i = t.f3.length := by have := hi.out; omega
      subst hn
      have hl1 := eq_false (show ¬ ((t.f3.length : Nat) : Int) < (t.f3.length : Int) by omega)
      have hv := hv.out
      rw [List.drop_length] at hv
      simp only [arith_Eval.al] at hv
      have hq_ := Option.some.inj hv
      have hr_ := hr.out
      rw [← hq_, if_pos rfl] at hr_
      have hr_ := Aside0.mk (Option.some.inj hr_)
      clear hq_ hv
      have g1 := (blk_cell hBG.out 1).trans (rfl : _ = some (Value.int .i64 d))
      have f1 := blk_frozen hBG.out 1
      have hBR7 := blk_far (p := ⟨g, 1, none⟩) hBR.out hn4.out.2.1 (.int .i64 (wrap64 (d - 1)))
      have z0 := (blk_cell hBR7 0).trans (rfl : _ = some (Value.int .i64 x))
      have z1 := (blk_cell hBR7 1).trans (rfl : _ = some (Value.int .i64 y))
      have v0 := blk_frozen hBR7 0
      have v1 := blk_frozen hBR7 1
      have hBR7 := Aside0.mk hBR7
      go_wp2
      refine bodyPost_ret (results_ct rfl _ _ br 61 #[.int .i64 x, .int .i64 y] (0, 0) _ rfl (blk_put (blk_put hBR7.out 0 _ rfl) 1 _ rfl) Try.underlying61 rfl (by kernel_rfl)) rfl ?_
      rw [← hr_.out]
      exact ⟨rfl, blk_far (p := ⟨br, 1, none⟩) (blk_far (p := ⟨br, 0, none⟩) (blk_put hBG.out 1 _ rfl) (fun e => hn4.out.2.1 e.symm) _) (fun e => hn4.out.2.1 e.symm) _, ((hB1.out.setCell (p := ⟨g, 1, none⟩) hGG.out _).setCell (p := ⟨br, 0, none⟩) (Nat.le_trans hBB.out.size hn4.out.2.2) _).setCell (p := ⟨br, 1, none⟩) (Nat.le_trans hBB.out.size hn4.out.2.2) _, keep_far (p := ⟨br, 1, none⟩) (keep_far (p := ⟨br, 0, none⟩) (hK1.out.set_ 1 _) hn4.out.2.2 _) hn4.out.2.2 _⟩
def arith_Eval.ap2 (a : ByteArray) (x y : Int) : Option (Int × Int) := if a.toList = ([43] : List UInt8) then num_Add.f x y else if a.toList = ([45] : List UInt8) then num_Sub.f x y else if a.toList = ([42] : List UInt8) then num_Mul.f x y else if a.toList = ([47, 47] : List UInt8) then num_Quo.f x y else if a.toList = ([114, 101, 109] : List UInt8) then num_Rem.f x y else if a.toList = ([109, 111, 100] : List UInt8) then num_Mod.f x y else none
def arith_Eval.ap1 (a : ByteArray) (x : Int) : Option (Int × Int) := if a.toList = ([45] : List UInt8) then num_Neg.f x else if a.toList = ([97, 98, 115] : List UInt8) then num_Abs.f x else if a.toList = ([115, 105, 103, 110] : List UInt8) then some (arith_Eval.sg x, 0) else none
def arith_Eval.val (l : List S45) : Nat → S25 → Int → Int → Option (Int × Int × Int × Int)
  | 0, _, _, _ => none
  | k + 1, t, d, s => if d = 60 then some (0, 3, d, s) else (arith_Eval.visit k l t s).bind fun q => if q.2.1 = 0 then
      (if q.1.f0 = 1 then some (0, 110, d, q.2.2) else if q.1.f0 = 3 then some (q.1.f2, 0, d, q.2.2) else
        if q.1.f0 = 4 then
          (if q.1.f3.length = 2 then (if (arith_Eval.two q.1.f1).isSome = true then (arith_Eval.argsf (arith_Eval.val l k) q.1.f3 d q.2.2).bind fun a => (if a.2.2.1 = 0 then (arith_Eval.ap2 q.1.f1 a.1 a.2.1).bind fun n => (if n.2 = 0 then some (n.1, 0, a.2.2.2.1, a.2.2.2.2) else some (0, 112, a.2.2.2.1, a.2.2.2.2)) else some (0, a.2.2.1, a.2.2.2.1, a.2.2.2.2)) else some (0, 111, d, q.2.2))
          else if q.1.f3.length = 1 then (if (arith_Eval.one q.1.f1).isSome = true then (arith_Eval.argsf (arith_Eval.val l k) q.1.f3 d q.2.2).bind fun a => (if a.2.2.1 = 0 then (arith_Eval.ap1 q.1.f1 a.1).bind fun n => (if n.2 = 0 then some (n.1, 0, a.2.2.2.1, a.2.2.2.2) else some (0, 112, a.2.2.2.1, a.2.2.2.2)) else some (0, a.2.2.1, a.2.2.2.1, a.2.2.2.2)) else some (0, 111, d, q.2.2))
          else some (0, 111, d, q.2.2))
        else some (0, 111, d, q.2.2))
      else some (0, q.2.1, d, q.2.2)
set_option maxRecDepth 100000 in
set_option maxHeartbeats 4000000 in
theorem arith_Eval.values (w0 : World) (g : Nat) (A0 : Option Addr) (c0 : Nat) (l0 : List S45) (hC : Kd.C k45 w0 A0 l0.length l0) (hG : w0.heap.size ≤ g) : ∀ k, arith_Eval.Val w0 g A0 c0 l0 (arith_Eval.val l0 k) := by
  intro k
  induction k with
  | zero => intro w t At ct deep s r _ _ _ _ h; cases h
  | succ k ih =>
  intro w t At ct deep s r ht hct hB hg h
  have ihA := Aside0.mk ih
  have hAt := Aside0.mk (And.intro ht hct)
  have hBB := Aside0.mk hB
  have hGG := Aside0.mk hG
  have hCC := Aside0.mk hC
  have hgg := Aside0.mk hg
  have hgw : g < w.heap.size := blk_lt hg
  clear ih ht hct hB hC hG hg
  simp only [arith_Eval.val] at h
  by_cases h60 : deep = 60
  · rw [if_pos h60] at h
    have d1 : (deep == 60) = true := beq_iff_eq.mpr h60
    have h := Aside0.mk (Option.some.inj h)
    clear h60
    go_enter Try.func24, Try.ntmps24
    go_wp2_with (first
      | ((with_reducible refine gate_dst (N := 3) rfl ?_); refine box_event ?hg (N := 3) ?hd (cs := #[.int .i64 t.f0, .string t.f1, .int .i64 t.f2, .slice At t.f3.length ct]) (t := 25) ?hr ?_; (case hd => rfl); (case hg => rfl); (case hr => first | (go_simp; done) | (go_simp; rfl)); intro bt hbt w3 hx3 hy3;
         have hgg3 := Aside0.mk (blk_below hgg.out hy3); have hBT3 := Aside0.mk hx3; have hBB3 := Aside0.mk (hBB.out.trans (hy3.mono hBB.out.size)); have hK3 := Aside0.mk (KeepBut.of_below hy3 g none); have hn3 := Aside0.mk (show w.heap.size ≤ bt ∧ bt ≠ g by omega); have g1 := (blk_cell hgg3.out 1).trans (rfl : _ = some (Value.int .i64 deep)); clear hx3 hy3 hbt))
    go_ret2
    rw [← h.out]
    exact ⟨rfl, hgg3.out, hBB3.out, hK3.out⟩
  · rw [if_neg h60] at h
    have d1 : (deep == 60) = false := beq_eq_false_iff_ne.mpr h60
    clear h60
    obtain ⟨q, hq, h⟩ := Option.bind_eq_some_iff.1 h
    obtain ⟨q1, q2, q3⟩ := q
    have hq := Aside0.mk hq
    dsimp only at h
    by_cases he : q2 = 0
    · rw [if_pos he] at h
      subst he
      by_cases f1 : q1.f0 = 1
      · rw [if_pos f1] at h
        have k1 : (q1.f0 == 1) = true := beq_iff_eq.mpr f1
        have h := Aside0.mk (Option.some.inj h)
        clear f1
        have hq1 : ∀ W, (binOp BinOp.eql 41 Value.nilFunc Value.nilFunc).run Try.prog W = .ok (.bool true) W := fun W => by rfl
        have hq2 : ∀ f W, (binOp BinOp.eql 41 (.func (.func f) #[] #[]) Value.nilFunc).run Try.prog W = .ok (.bool false) W := fun f W => by rfl
        have hq3 : ∀ W, (binOp BinOp.eql 59 Value.nilFunc Value.nilFunc).run Try.prog W = .ok (.bool true) W := fun W => by rfl
        have hq4 : ∀ f W, (binOp BinOp.eql 59 (.func (.func f) #[] #[]) Value.nilFunc).run Try.prog W = .ok (.bool false) W := fun f W => by rfl
        go_enter Try.func24, Try.ntmps24
        go_wp2_with (first
          | ((with_reducible refine gate_dst (N := 3) rfl ?_); refine box_event ?hg (N := 3) ?hd (cs := #[.int .i64 t.f0, .string t.f1, .int .i64 t.f2, .slice At t.f3.length ct]) (t := 25) ?hr ?_; (case hd => rfl); (case hg => rfl); (case hr => first | (go_simp; done) | (go_simp; rfl)); intro bt hbt w3 hx3 hy3;
             have hgg3 := Aside0.mk (blk_below hgg.out hy3); have hBT3 := Aside0.mk hx3; have hBB3 := Aside0.mk (hBB.out.trans (hy3.mono hBB.out.size)); have hK3 := Aside0.mk (KeepBut.of_below hy3 g none); have hn3 := Aside0.mk (show w.heap.size ≤ bt ∧ bt ≠ g by omega); have g1 := (blk_cell hgg3.out 1).trans (rfl : _ = some (Value.int .i64 deep)); have b0 := (blk_cell hx3 0).trans (rfl : _ = some (Value.int .i64 t.f0)); have b1 := (blk_cell hx3 1).trans (rfl : _ = some (Value.string t.f1)); have b2 := (blk_cell hx3 2).trans (rfl : _ = some (Value.int .i64 t.f2)); have b3 := (blk_cell hx3 3).trans (rfl : _ = some (Value.slice At t.f3.length ct)); clear hx3 hy3 hbt)
          | (go_at_call 27; (with_reducible refine (arith_Eval.visits k w0 _ g A0 c0 l0 hCC.out t At ct hAt.out.1 hAt.out.2 deep s hBB3.out hGG.out hgg3.out q1 0 q3 hq.out).mono ?_); rintro E w6 ⟨A6, c6, rfl, hC6, hl6, hG6, hB6, hK6⟩; have hC6 := Aside0.mk (And.intro hC6 hl6); clear hl6; have hBT6 := hK6.blk hBT3.out hn3.out.2 (by simp); have y0 := blk_cell hBT6 0; have y1 := blk_cell hBT6 1; have y2 := blk_cell hBT6 2; have y3 := blk_cell hBT6 3; have z0 := blk_frozen hBT6 0; have z1 := blk_frozen hBT6 1; have z2 := blk_frozen hBT6 2; have z3 := blk_frozen hBT6 3; have hBT6 := Aside0.mk hBT6; have hG6 := Aside0.mk hG6; have hB6 := Aside0.mk hB6; have hK6 := Aside0.mk (hK3.out.trans hK6 (.inl rfl))))
        go_ret2
        rw [← h.out]
        exact ⟨rfl, arith_Eval.p4f hG6.out hn3.out.2.symm, arith_Eval.p4b hB6.out (Nat.le_trans hBB.out.size hn3.out.1), arith_Eval.p4k hK6.out hn3.out.1⟩
      rw [if_neg f1] at h
      by_cases f3 : q1.f0 = 3
      · rw [if_pos f3] at h
        have k1 : (q1.f0 == 1) = false := beq_eq_false_iff_ne.mpr f1
        have k3 : (q1.f0 == 3) = true := beq_iff_eq.mpr f3
        have h := Aside0.mk (Option.some.inj h)
        clear f1 f3
        have hq1 : ∀ W, (binOp BinOp.eql 41 Value.nilFunc Value.nilFunc).run Try.prog W = .ok (.bool true) W := fun W => by rfl
        have hq2 : ∀ f W, (binOp BinOp.eql 41 (.func (.func f) #[] #[]) Value.nilFunc).run Try.prog W = .ok (.bool false) W := fun f W => by rfl
        have hq3 : ∀ W, (binOp BinOp.eql 59 Value.nilFunc Value.nilFunc).run Try.prog W = .ok (.bool true) W := fun W => by rfl
        have hq4 : ∀ f W, (binOp BinOp.eql 59 (.func (.func f) #[] #[]) Value.nilFunc).run Try.prog W = .ok (.bool false) W := fun f W => by rfl
        go_enter Try.func24, Try.ntmps24
        go_wp2_with (first
          | ((with_reducible refine gate_dst (N := 3) rfl ?_); refine box_event ?hg (N := 3) ?hd (cs := #[.int .i64 t.f0, .string t.f1, .int .i64 t.f2, .slice At t.f3.length ct]) (t := 25) ?hr ?_; (case hd => rfl); (case hg => rfl); (case hr => first | (go_simp; done) | (go_simp; rfl)); intro bt hbt w3 hx3 hy3;
             have hgg3 := Aside0.mk (blk_below hgg.out hy3); have hBT3 := Aside0.mk hx3; have hBB3 := Aside0.mk (hBB.out.trans (hy3.mono hBB.out.size)); have hK3 := Aside0.mk (KeepBut.of_below hy3 g none); have hn3 := Aside0.mk (show w.heap.size ≤ bt ∧ bt ≠ g by omega); have g1 := (blk_cell hgg3.out 1).trans (rfl : _ = some (Value.int .i64 deep)); have b0 := (blk_cell hx3 0).trans (rfl : _ = some (Value.int .i64 t.f0)); have b1 := (blk_cell hx3 1).trans (rfl : _ = some (Value.string t.f1)); have b2 := (blk_cell hx3 2).trans (rfl : _ = some (Value.int .i64 t.f2)); have b3 := (blk_cell hx3 3).trans (rfl : _ = some (Value.slice At t.f3.length ct)); clear hx3 hy3 hbt)
          | (go_at_call 27; (with_reducible refine (arith_Eval.visits k w0 _ g A0 c0 l0 hCC.out t At ct hAt.out.1 hAt.out.2 deep s hBB3.out hGG.out hgg3.out q1 0 q3 hq.out).mono ?_); rintro E w6 ⟨A6, c6, rfl, hC6, hl6, hG6, hB6, hK6⟩; have hC6 := Aside0.mk (And.intro hC6 hl6); clear hl6; have hBT6 := hK6.blk hBT3.out hn3.out.2 (by simp); have y0 := blk_cell hBT6 0; have y1 := blk_cell hBT6 1; have y2 := blk_cell hBT6 2; have y3 := blk_cell hBT6 3; have z0 := blk_frozen hBT6 0; have z1 := blk_frozen hBT6 1; have z2 := blk_frozen hBT6 2; have z3 := blk_frozen hBT6 3; have hBT6 := Aside0.mk hBT6; have hG6 := Aside0.mk hG6; have hB6 := Aside0.mk hB6; have hK6 := Aside0.mk (hK3.out.trans hK6 (.inl rfl))))
        go_ret2
        rw [← h.out]
        exact ⟨rfl, arith_Eval.p4f hG6.out hn3.out.2.symm, arith_Eval.p4b hB6.out (Nat.le_trans hBB.out.size hn3.out.1), arith_Eval.p4k hK6.out hn3.out.1⟩
      rw [if_neg f3] at h
      have k1 : (q1.f0 == 1) = false := beq_eq_false_iff_ne.mpr f1
      have k3 : (q1.f0 == 3) = false := beq_eq_false_iff_ne.mpr f3
      by_cases f4 : q1.f0 = 4
      case neg =>
        rw [if_neg f4] at h
        have k4 : (q1.f0 == 4) = false := beq_eq_false_iff_ne.mpr f4
        have k5 : (q1.f0 != 4) = true := bne_iff_ne.mpr f4
        have h := Aside0.mk (Option.some.inj h)
        clear f1 f3 f4
        have hq1 : ∀ W, (binOp BinOp.eql 41 Value.nilFunc Value.nilFunc).run Try.prog W = .ok (.bool true) W := fun W => by rfl
        have hq2 : ∀ f W, (binOp BinOp.eql 41 (.func (.func f) #[] #[]) Value.nilFunc).run Try.prog W = .ok (.bool false) W := fun f W => by rfl
        have hq3 : ∀ W, (binOp BinOp.eql 59 Value.nilFunc Value.nilFunc).run Try.prog W = .ok (.bool true) W := fun W => by rfl
        have hq4 : ∀ f W, (binOp BinOp.eql 59 (.func (.func f) #[] #[]) Value.nilFunc).run Try.prog W = .ok (.bool false) W := fun f W => by rfl
        go_enter Try.func24, Try.ntmps24
        go_wp2_with (first
          | ((with_reducible refine gate_dst (N := 3) rfl ?_); refine box_event ?hg (N := 3) ?hd (cs := #[.int .i64 t.f0, .string t.f1, .int .i64 t.f2, .slice At t.f3.length ct]) (t := 25) ?hr ?_; (case hd => rfl); (case hg => rfl); (case hr => first | (go_simp; done) | (go_simp; rfl)); intro bt hbt w3 hx3 hy3;
             have hgg3 := Aside0.mk (blk_below hgg.out hy3); have hBT3 := Aside0.mk hx3; have hBB3 := Aside0.mk (hBB.out.trans (hy3.mono hBB.out.size)); have hK3 := Aside0.mk (KeepBut.of_below hy3 g none); have hn3 := Aside0.mk (show w.heap.size ≤ bt ∧ bt ≠ g by omega); have g1 := (blk_cell hgg3.out 1).trans (rfl : _ = some (Value.int .i64 deep)); have b0 := (blk_cell hx3 0).trans (rfl : _ = some (Value.int .i64 t.f0)); have b1 := (blk_cell hx3 1).trans (rfl : _ = some (Value.string t.f1)); have b2 := (blk_cell hx3 2).trans (rfl : _ = some (Value.int .i64 t.f2)); have b3 := (blk_cell hx3 3).trans (rfl : _ = some (Value.slice At t.f3.length ct)); clear hx3 hy3 hbt)
          | (go_at_call 27; (with_reducible refine (arith_Eval.visits k w0 _ g A0 c0 l0 hCC.out t At ct hAt.out.1 hAt.out.2 deep s hBB3.out hGG.out hgg3.out q1 0 q3 hq.out).mono ?_); rintro E w6 ⟨A6, c6, rfl, hC6, hl6, hG6, hB6, hK6⟩; have hC6 := Aside0.mk (And.intro hC6 hl6); clear hl6; have hBT6 := hK6.blk hBT3.out hn3.out.2 (by simp); have y0 := blk_cell hBT6 0; have y1 := blk_cell hBT6 1; have y2 := blk_cell hBT6 2; have y3 := blk_cell hBT6 3; have z0 := blk_frozen hBT6 0; have z1 := blk_frozen hBT6 1; have z2 := blk_frozen hBT6 2; have z3 := blk_frozen hBT6 3; have hBT6 := Aside0.mk hBT6; have hG6 := Aside0.mk hG6; have hB6 := Aside0.mk hB6; have hK6 := Aside0.mk (hK3.out.trans hK6 (.inl rfl))))
        go_quiet (first | (go_at_call 28; refine Calls.quiet_of_same (arith_Eval.binary _ _)) | (go_at_call 29; refine Calls.quiet_of_same (arith_Eval.unary _ _)))
        go_wp2
        go_ret2
        rw [← h.out]
        exact ⟨rfl, blk_drewN (arith_Eval.p4f hG6.out hn3.out.2.symm) _, pw_below_drewN (arith_Eval.p4b hB6.out (Nat.le_trans hBB.out.size hn3.out.1)) _, keep_drewN (arith_Eval.p4k hK6.out hn3.out.1) _⟩
      case pos =>
      rw [if_pos f4] at h
      have k4 : (q1.f0 == 4) = true := beq_iff_eq.mpr f4
      have k5 : (q1.f0 != 4) = false := bne_eq_false_iff_eq.mpr f4
      clear f1 f3 f4
      by_cases n2 : q1.f3.length = 2
      case neg =>
        rw [if_neg n2] at h
        by_cases n1 : q1.f3.length = 1
        case neg =>
          rw [if_neg n1] at h
          have h := Aside0.mk (Option.some.inj h)
          by_cases n0 : q1.f3.length = 0
          · have l2 := eq_false (show ¬ ((q1.f3.length : Int) > 2) by omega)
            have m2 : ((q1.f3.length : Int) == 2) = false := beq_eq_false_iff_ne.mpr (by omega)
            have m1 : ((q1.f3.length : Int) == 1) = false := beq_eq_false_iff_ne.mpr (by omega)
            have m0 : ((q1.f3.length : Int) == 0) = true := beq_iff_eq.mpr (by omega)
            clear n0 n1 n2
            have hq1 : ∀ W, (binOp BinOp.eql 41 Value.nilFunc Value.nilFunc).run Try.prog W = .ok (.bool true) W := fun W => by rfl
            have hq2 : ∀ f W, (binOp BinOp.eql 41 (.func (.func f) #[] #[]) Value.nilFunc).run Try.prog W = .ok (.bool false) W := fun f W => by rfl
            have hq3 : ∀ W, (binOp BinOp.eql 59 Value.nilFunc Value.nilFunc).run Try.prog W = .ok (.bool true) W := fun W => by rfl
            have hq4 : ∀ f W, (binOp BinOp.eql 59 (.func (.func f) #[] #[]) Value.nilFunc).run Try.prog W = .ok (.bool false) W := fun f W => by rfl
            go_enter Try.func24, Try.ntmps24
            go_wp2_with (first
              | ((with_reducible refine gate_dst (N := 3) rfl ?_); refine box_event ?hg (N := 3) ?hd (cs := #[.int .i64 t.f0, .string t.f1, .int .i64 t.f2, .slice At t.f3.length ct]) (t := 25) ?hr ?_; (case hd => rfl); (case hg => rfl); (case hr => first | (go_simp; done) | (go_simp; rfl)); intro bt hbt w3 hx3 hy3;
                 have hgg3 := Aside0.mk (blk_below hgg.out hy3); have hBT3 := Aside0.mk hx3; have hBB3 := Aside0.mk (hBB.out.trans (hy3.mono hBB.out.size)); have hK3 := Aside0.mk (KeepBut.of_below hy3 g none); have hn3 := Aside0.mk (show w.heap.size ≤ bt ∧ bt ≠ g by omega); have g1 := (blk_cell hgg3.out 1).trans (rfl : _ = some (Value.int .i64 deep)); have b0 := (blk_cell hx3 0).trans (rfl : _ = some (Value.int .i64 t.f0)); have b1 := (blk_cell hx3 1).trans (rfl : _ = some (Value.string t.f1)); have b2 := (blk_cell hx3 2).trans (rfl : _ = some (Value.int .i64 t.f2)); have b3 := (blk_cell hx3 3).trans (rfl : _ = some (Value.slice At t.f3.length ct)); clear hx3 hy3 hbt)
              | (go_at_call 27; (with_reducible refine (arith_Eval.visits k w0 _ g A0 c0 l0 hCC.out t At ct hAt.out.1 hAt.out.2 deep s hBB3.out hGG.out hgg3.out q1 0 q3 hq.out).mono ?_); rintro E w6 ⟨A6, c6, rfl, hC6, hl6, hG6, hB6, hK6⟩; have hC6 := Aside0.mk (And.intro hC6 hl6); clear hl6; have hBT6 := hK6.blk hBT3.out hn3.out.2 (by simp); have y0 := blk_cell hBT6 0; have y1 := blk_cell hBT6 1; have y2 := blk_cell hBT6 2; have y3 := blk_cell hBT6 3; have z0 := blk_frozen hBT6 0; have z1 := blk_frozen hBT6 1; have z2 := blk_frozen hBT6 2; have z3 := blk_frozen hBT6 3; have hBT6 := Aside0.mk hBT6; have hG6 := Aside0.mk hG6; have hB6 := Aside0.mk hB6; have hK6 := Aside0.mk (hK3.out.trans hK6 (.inl rfl))))
            go_quiet (first | (go_at_call 28; refine Calls.quiet_of_same (arith_Eval.binary _ _)) | (go_at_call 29; refine Calls.quiet_of_same (arith_Eval.unary _ _)))
            go_wp2
            go_ret2
            rw [← h.out]
            exact ⟨rfl, blk_drewN (arith_Eval.p4f hG6.out hn3.out.2.symm) _, pw_below_drewN (arith_Eval.p4b hB6.out (Nat.le_trans hBB.out.size hn3.out.1)) _, keep_drewN (arith_Eval.p4k hK6.out hn3.out.1) _⟩
          · have l2 := eq_true (show ((q1.f3.length : Int) > 2) by omega)
            have m2 : ((q1.f3.length : Int) == 2) = false := beq_eq_false_iff_ne.mpr (by omega)
            have m1 : ((q1.f3.length : Int) == 1) = false := beq_eq_false_iff_ne.mpr (by omega)
            have m0 : ((q1.f3.length : Int) == 0) = false := beq_eq_false_iff_ne.mpr (by omega)
            clear n0 n1 n2
            have hq1 : ∀ W, (binOp BinOp.eql 41 Value.nilFunc Value.nilFunc).run Try.prog W = .ok (.bool true) W := fun W => by rfl
            have hq2 : ∀ f W, (binOp BinOp.eql 41 (.func (.func f) #[] #[]) Value.nilFunc).run Try.prog W = .ok (.bool false) W := fun f W => by rfl
            have hq3 : ∀ W, (binOp BinOp.eql 59 Value.nilFunc Value.nilFunc).run Try.prog W = .ok (.bool true) W := fun W => by rfl
            have hq4 : ∀ f W, (binOp BinOp.eql 59 (.func (.func f) #[] #[]) Value.nilFunc).run Try.prog W = .ok (.bool false) W := fun f W => by rfl
            go_enter Try.func24, Try.ntmps24
            go_wp2_with (first
              | ((with_reducible refine gate_dst (N := 3) rfl ?_); refine box_event ?hg (N := 3) ?hd (cs := #[.int .i64 t.f0, .string t.f1, .int .i64 t.f2, .slice At t.f3.length ct]) (t := 25) ?hr ?_; (case hd => rfl); (case hg => rfl); (case hr => first | (go_simp; done) | (go_simp; rfl)); intro bt hbt w3 hx3 hy3;
                 have hgg3 := Aside0.mk (blk_below hgg.out hy3); have hBT3 := Aside0.mk hx3; have hBB3 := Aside0.mk (hBB.out.trans (hy3.mono hBB.out.size)); have hK3 := Aside0.mk (KeepBut.of_below hy3 g none); have hn3 := Aside0.mk (show w.heap.size ≤ bt ∧ bt ≠ g by omega); have g1 := (blk_cell hgg3.out 1).trans (rfl : _ = some (Value.int .i64 deep)); have b0 := (blk_cell hx3 0).trans (rfl : _ = some (Value.int .i64 t.f0)); have b1 := (blk_cell hx3 1).trans (rfl : _ = some (Value.string t.f1)); have b2 := (blk_cell hx3 2).trans (rfl : _ = some (Value.int .i64 t.f2)); have b3 := (blk_cell hx3 3).trans (rfl : _ = some (Value.slice At t.f3.length ct)); clear hx3 hy3 hbt)
              | (go_at_call 27; (with_reducible refine (arith_Eval.visits k w0 _ g A0 c0 l0 hCC.out t At ct hAt.out.1 hAt.out.2 deep s hBB3.out hGG.out hgg3.out q1 0 q3 hq.out).mono ?_); rintro E w6 ⟨A6, c6, rfl, hC6, hl6, hG6, hB6, hK6⟩; have hC6 := Aside0.mk (And.intro hC6 hl6); clear hl6; have hBT6 := hK6.blk hBT3.out hn3.out.2 (by simp); have y0 := blk_cell hBT6 0; have y1 := blk_cell hBT6 1; have y2 := blk_cell hBT6 2; have y3 := blk_cell hBT6 3; have z0 := blk_frozen hBT6 0; have z1 := blk_frozen hBT6 1; have z2 := blk_frozen hBT6 2; have z3 := blk_frozen hBT6 3; have hBT6 := Aside0.mk hBT6; have hG6 := Aside0.mk hG6; have hB6 := Aside0.mk hB6; have hK6 := Aside0.mk (hK3.out.trans hK6 (.inl rfl))))
            go_quiet (first | (go_at_call 28; refine Calls.quiet_of_same (arith_Eval.binary _ _)) | (go_at_call 29; refine Calls.quiet_of_same (arith_Eval.unary _ _)))
            go_wp2
            go_ret2
            rw [← h.out]
            exact ⟨rfl, blk_drewN (arith_Eval.p4f hG6.out hn3.out.2.symm) _, pw_below_drewN (arith_Eval.p4b hB6.out (Nat.le_trans hBB.out.size hn3.out.1)) _, keep_drewN (arith_Eval.p4k hK6.out hn3.out.1) _⟩
        case pos =>
          rw [if_pos n1] at h
          have l2 := eq_false (show ¬ ((q1.f3.length : Int) > 2) by omega)
          have m2 : ((q1.f3.length : Int) == 2) = false := beq_eq_false_iff_ne.mpr (by omega)
          have m1 : ((q1.f3.length : Int) == 1) = true := beq_iff_eq.mpr (by omega)
          have m0 : ((q1.f3.length : Int) == 0) = false := beq_eq_false_iff_ne.mpr (by omega)
          have nl := Aside0.mk (show q1.f3.length ≤ 2 by omega)
          clear n1 n2
          cases hf : arith_Eval.one q1.f1 with
          | none =>
            rw [hf] at h
            have hfv : arith_Eval.fv (arith_Eval.one q1.f1) = .nilFunc := by rw [hf]; rfl
            have h := Aside0.mk (Option.some.inj (h : some _ = some _))
            clear hf
            have hq1 : ∀ W, (binOp BinOp.eql 41 Value.nilFunc Value.nilFunc).run Try.prog W = .ok (.bool true) W := fun W => by rfl
            have hq2 : ∀ f W, (binOp BinOp.eql 41 (.func (.func f) #[] #[]) Value.nilFunc).run Try.prog W = .ok (.bool false) W := fun f W => by rfl
            have hq3 : ∀ W, (binOp BinOp.eql 59 Value.nilFunc Value.nilFunc).run Try.prog W = .ok (.bool true) W := fun W => by rfl
            have hq4 : ∀ f W, (binOp BinOp.eql 59 (.func (.func f) #[] #[]) Value.nilFunc).run Try.prog W = .ok (.bool false) W := fun f W => by rfl
            go_enter Try.func24, Try.ntmps24
            go_wp2_with (first
              | ((with_reducible refine gate_dst (N := 3) rfl ?_); refine box_event ?hg (N := 3) ?hd (cs := #[.int .i64 t.f0, .string t.f1, .int .i64 t.f2, .slice At t.f3.length ct]) (t := 25) ?hr ?_; (case hd => rfl); (case hg => rfl); (case hr => first | (go_simp; done) | (go_simp; rfl)); intro bt hbt w3 hx3 hy3;
                 have hgg3 := Aside0.mk (blk_below hgg.out hy3); have hBT3 := Aside0.mk hx3; have hBB3 := Aside0.mk (hBB.out.trans (hy3.mono hBB.out.size)); have hK3 := Aside0.mk (KeepBut.of_below hy3 g none); have hn3 := Aside0.mk (show w.heap.size ≤ bt ∧ bt ≠ g by omega); have g1 := (blk_cell hgg3.out 1).trans (rfl : _ = some (Value.int .i64 deep)); have b0 := (blk_cell hx3 0).trans (rfl : _ = some (Value.int .i64 t.f0)); have b1 := (blk_cell hx3 1).trans (rfl : _ = some (Value.string t.f1)); have b2 := (blk_cell hx3 2).trans (rfl : _ = some (Value.int .i64 t.f2)); have b3 := (blk_cell hx3 3).trans (rfl : _ = some (Value.slice At t.f3.length ct)); clear hx3 hy3 hbt)
              | (go_at_call 27; (with_reducible refine (arith_Eval.visits k w0 _ g A0 c0 l0 hCC.out t At ct hAt.out.1 hAt.out.2 deep s hBB3.out hGG.out hgg3.out q1 0 q3 hq.out).mono ?_); rintro E w6 ⟨A6, c6, rfl, hC6, hl6, hG6, hB6, hK6⟩; have hC6 := Aside0.mk (And.intro hC6 hl6); clear hl6; have hBT6 := hK6.blk hBT3.out hn3.out.2 (by simp); have y0 := blk_cell hBT6 0; have y1 := blk_cell hBT6 1; have y2 := blk_cell hBT6 2; have y3 := blk_cell hBT6 3; have z0 := blk_frozen hBT6 0; have z1 := blk_frozen hBT6 1; have z2 := blk_frozen hBT6 2; have z3 := blk_frozen hBT6 3; have hBT6 := Aside0.mk hBT6; have hG6 := Aside0.mk hG6; have hB6 := Aside0.mk hB6; have hK6 := Aside0.mk (hK3.out.trans hK6 (.inl rfl))))
            go_quiet (first | (go_at_call 28; refine Calls.quiet_of_same (arith_Eval.binary _ _)) | (go_at_call 29; refine Calls.quiet_of_same (arith_Eval.unary _ _)))
            go_wp2
            go_ret2
            rw [← h.out]
            exact ⟨rfl, blk_drewN (arith_Eval.p4f hG6.out hn3.out.2.symm) _, pw_below_drewN (arith_Eval.p4b hB6.out (Nat.le_trans hBB.out.size hn3.out.1)) _, keep_drewN (arith_Eval.p4k hK6.out hn3.out.1) _⟩
          | some f =>
            rw [hf, if_pos (show (some f).isSome = true from rfl)] at h
            obtain ⟨⟨a1, a2, ae, ad, as_⟩, ha, h⟩ := Option.bind_eq_some_iff.1 h
            have ha := Aside0.mk ha
            dsimp only at h
            by_cases hae : ae = 0
            · have hae1 : (ae == 0) = true := beq_iff_eq.mpr hae
              have hae2 : (ae != 0) = false := bne_eq_false_iff_eq.mpr hae
              rw [if_pos hae] at h
              clear hae
              obtain ⟨⟨n1, n2⟩, hn, h⟩ := Option.bind_eq_some_iff.1 h
              dsimp only at h
              unfold arith_Eval.ap1 at hn
              unfold arith_Eval.one at hf
              have hfd : arith_Eval.fv (arith_Eval.one q1.f1) = arith_Eval.fv (arith_Eval.one q1.f1) := rfl
              conv at hfd => rhs; unfold arith_Eval.one
              by_cases cq0 : q1.f1.toList = ([45] : List UInt8)
              · rw [if_pos cq0] at hn hf hfd
                have hfv : arith_Eval.fv (arith_Eval.one q1.f1) = .func (.func 42) #[] #[] := hfd
                clear hf hfd cq0
                have hnx := Aside0.mk hn
                clear hn
                by_cases hn0 : n2 = 0
                · rw [if_pos hn0] at h
                  have w1 : (n2 == 0) = true := beq_iff_eq.mpr hn0
                  have w2 : (n2 != 0) = false := bne_eq_false_iff_eq.mpr hn0
                  have h := Aside0.mk (Option.some.inj h)
                  clear hn0
                  have hq1 : ∀ W, (binOp BinOp.eql 41 Value.nilFunc Value.nilFunc).run Try.prog W = .ok (.bool true) W := fun W => by rfl
                  have hq2 : ∀ f W, (binOp BinOp.eql 41 (.func (.func f) #[] #[]) Value.nilFunc).run Try.prog W = .ok (.bool false) W := fun f W => by rfl
                  have hq3 : ∀ W, (binOp BinOp.eql 59 Value.nilFunc Value.nilFunc).run Try.prog W = .ok (.bool true) W := fun W => by rfl
                  have hq4 : ∀ f W, (binOp BinOp.eql 59 (.func (.func f) #[] #[]) Value.nilFunc).run Try.prog W = .ok (.bool false) W := fun f W => by rfl
                  go_enter Try.func24, Try.ntmps24
                  go_wp2_with (first
                    | ((with_reducible refine gate_dst (N := 3) rfl ?_); refine box_event ?hg (N := 3) ?hd (cs := #[.int .i64 t.f0, .string t.f1, .int .i64 t.f2, .slice At t.f3.length ct]) (t := 25) ?hr ?_; (case hd => rfl); (case hg => rfl); (case hr => first | (go_simp; done) | (go_simp; rfl)); intro bt hbt w3 hx3 hy3;
                       have hgg3 := Aside0.mk (blk_below hgg.out hy3); have hBT3 := Aside0.mk hx3; have hBB3 := Aside0.mk (hBB.out.trans (hy3.mono hBB.out.size)); have hK3 := Aside0.mk (KeepBut.of_below hy3 g none); have hn3 := Aside0.mk (show w.heap.size ≤ bt ∧ bt ≠ g by omega); have g1 := (blk_cell hgg3.out 1).trans (rfl : _ = some (Value.int .i64 deep)); have b0 := (blk_cell hx3 0).trans (rfl : _ = some (Value.int .i64 t.f0)); have b1 := (blk_cell hx3 1).trans (rfl : _ = some (Value.string t.f1)); have b2 := (blk_cell hx3 2).trans (rfl : _ = some (Value.int .i64 t.f2)); have b3 := (blk_cell hx3 3).trans (rfl : _ = some (Value.slice At t.f3.length ct)); clear hx3 hy3 hbt)
                    | (go_at_call 27; (with_reducible refine (arith_Eval.visits k w0 _ g A0 c0 l0 hCC.out t At ct hAt.out.1 hAt.out.2 deep s hBB3.out hGG.out hgg3.out q1 0 q3 hq.out).mono ?_); rintro E w6 ⟨A6, c6, rfl, hC6, hl6, hG6, hB6, hK6⟩; have hC6 := Aside0.mk (And.intro hC6 hl6); clear hl6; have hBT6 := hK6.blk hBT3.out hn3.out.2 (by simp); have y0 := blk_cell hBT6 0; have y1 := blk_cell hBT6 1; have y2 := blk_cell hBT6 2; have y3 := blk_cell hBT6 3; have z0 := blk_frozen hBT6 0; have z1 := blk_frozen hBT6 1; have z2 := blk_frozen hBT6 2; have z3 := blk_frozen hBT6 3; have hBT6 := Aside0.mk hBT6; have hG6 := Aside0.mk hG6; have hB6 := Aside0.mk hB6; have hK6 := Aside0.mk (hK3.out.trans hK6 (.inl rfl))))
                  go_quiet (first | (go_at_call 28; refine Calls.quiet_of_same (arith_Eval.binary _ _)) | (go_at_call 29; refine Calls.quiet_of_same (arith_Eval.unary _ _)))
                  go_wp2_with (first | (go_at_call 30; (with_reducible refine (arith_Eval.args w0 _ g A0 c0 l0 _ ihA.out q1 A6 c6 hC6.out.1 hC6.out.2 nl.out deep q3 (by first | exact pw_below_drewN (arith_Eval.p4b hB6.out (Nat.le_trans hBB.out.size hn3.out.1)) _ | exact arith_Eval.p4b hB6.out (Nat.le_trans hBB.out.size hn3.out.1)) hGG.out (by first | exact blk_drewN (arith_Eval.p4f hG6.out hn3.out.2.symm) _ | exact arith_Eval.p4f hG6.out hn3.out.2.symm) (a1, a2, ae, ad, as_) ha.out).mono ?_); rintro E w8 ⟨rfl, hG8, hB8, hK8⟩; have hBT8 := hK8.blk (by first | exact blk_drewN (arith_Eval.p4s hBT6.out) _ | exact arith_Eval.p4s hBT6.out) hn3.out.2 (by simp); have u0 := blk_cell hBT8 0; have u1 := blk_cell hBT8 1; have u2 := blk_cell hBT8 2; have u3 := (blk_cell hBT8 3).trans (rfl : _ = some (Value.slice A6 q1.f3.length c6)); have hBT8 := Aside0.mk hBT8; have hG8 := Aside0.mk hG8; have hB8 := Aside0.mk hB8; have hK8 := Aside0.mk ((by first | exact keep_drewN (arith_Eval.p4k hK6.out hn3.out.1) _ | exact arith_Eval.p4k hK6.out hn3.out.1 : KeepBut w _ g none).trans hK8 (.inl rfl))) | ((with_reducible refine gate_dst (N := 8) rfl ?_); refine box_event ?hg (N := 8) ?hd (cs := #[.int .i64 0, .int .i64 0]) (t := 61) ?hr ?_; (case hd => rfl); (case hg => rfl); (case hr => first | (go_simp; done) | (go_simp; rfl)); intro bl hbl w9 hx9 hy9; have hG9 := Aside0.mk (blk_below hG8.out hy9); have hBT9 := blk_below hBT8.out hy9; have hB9 := Aside0.mk (hB8.out.trans (hy9.mono hB8.out.size)); have hK9 := Aside0.mk (hK8.out.trans (KeepBut.of_below hy9 g none) (.inl rfl)); have hn9 := Aside0.mk (show g ≠ bl ∧ bt ≠ bl ∧ w0.heap.size ≤ bl ∧ w.heap.size ≤ bl by have h1 := blk_lt hG8.out; have h2 := blk_lt hBT8.out; have h3 := hB8.out.size; have h4 := hK8.out.1; omega); have c0_ := blk_cell hx9 0; have c1_ := blk_cell hx9 1; have d0_ := blk_frozen hx9 0; have d1_ := blk_frozen hx9 1; have hT9 := blk_far (p := ⟨bl, 1, none⟩) (blk_far (p := ⟨bl, 0, none⟩) hBT9 hn9.out.2.1 (.int .i64 a1)) hn9.out.2.1 (.int .i64 a2); have s3 := (blk_cell hT9 3).trans (rfl : _ = some (Value.slice A6 q1.f3.length c6)); clear hx9 hy9 hbl hBT9 hT9) | (go_at_call 42; (with_reducible refine (num_Neg.calls a1 n1 n2 _ hnx.out).mono ?_); rintro E w' ⟨rfl, hd⟩; obtain ⟨⟨m_, rfl⟩⟩ := hd))
                  go_ret2
                  rw [← h.out]
                  exact ⟨rfl, blk_drewN (blk_far (p := ⟨bl, 1, none⟩) (blk_far (p := ⟨bl, 0, none⟩) hG9.out hn9.out.1 _) hn9.out.1 _) _, pw_below_drewN ((hB9.out.setCell (p := ⟨bl, 0, none⟩) hn9.out.2.2.1 _).setCell (p := ⟨bl, 1, none⟩) hn9.out.2.2.1 _) _, keep_drewN (keep_far (p := ⟨bl, 1, none⟩) (keep_far (p := ⟨bl, 0, none⟩) hK9.out hn9.out.2.2.2 _) hn9.out.2.2.2 _) _⟩
                · rw [if_neg hn0] at h
                  have w1 : (n2 == 0) = false := beq_eq_false_iff_ne.mpr hn0
                  have w2 : (n2 != 0) = true := bne_iff_ne.mpr hn0
                  have h := Aside0.mk (Option.some.inj h)
                  clear hn0
                  have hq1 : ∀ W, (binOp BinOp.eql 41 Value.nilFunc Value.nilFunc).run Try.prog W = .ok (.bool true) W := fun W => by rfl
                  have hq2 : ∀ f W, (binOp BinOp.eql 41 (.func (.func f) #[] #[]) Value.nilFunc).run Try.prog W = .ok (.bool false) W := fun f W => by rfl
                  have hq3 : ∀ W, (binOp BinOp.eql 59 Value.nilFunc Value.nilFunc).run Try.prog W = .ok (.bool true) W := fun W => by rfl
                  have hq4 : ∀ f W, (binOp BinOp.eql 59 (.func (.func f) #[] #[]) Value.nilFunc).run Try.prog W = .ok (.bool false) W := fun f W => by rfl
                  go_enter Try.func24, Try.ntmps24
                  go_wp2_with (first
                    | ((with_reducible refine gate_dst (N := 3) rfl ?_); refine box_event ?hg (N := 3) ?hd (cs := #[.int .i64 t.f0, .string t.f1, .int .i64 t.f2, .slice At t.f3.length ct]) (t := 25) ?hr ?_; (case hd => rfl); (case hg => rfl); (case hr => first | (go_simp; done) | (go_simp; rfl)); intro bt hbt w3 hx3 hy3;
                       have hgg3 := Aside0.mk (blk_below hgg.out hy3); have hBT3 := Aside0.mk hx3; have hBB3 := Aside0.mk (hBB.out.trans (hy3.mono hBB.out.size)); have hK3 := Aside0.mk (KeepBut.of_below hy3 g none); have hn3 := Aside0.mk (show w.heap.size ≤ bt ∧ bt ≠ g by omega); have g1 := (blk_cell hgg3.out 1).trans (rfl : _ = some (Value.int .i64 deep)); have b0 := (blk_cell hx3 0).trans (rfl : _ = some (Value.int .i64 t.f0)); have b1 := (blk_cell hx3 1).trans (rfl : _ = some (Value.string t.f1)); have b2 := (blk_cell hx3 2).trans (rfl : _ = some (Value.int .i64 t.f2)); have b3 := (blk_cell hx3 3).trans (rfl : _ = some (Value.slice At t.f3.length ct)); clear hx3 hy3 hbt)
                    | (go_at_call 27; (with_reducible refine (arith_Eval.visits k w0 _ g A0 c0 l0 hCC.out t At ct hAt.out.1 hAt.out.2 deep s hBB3.out hGG.out hgg3.out q1 0 q3 hq.out).mono ?_); rintro E w6 ⟨A6, c6, rfl, hC6, hl6, hG6, hB6, hK6⟩; have hC6 := Aside0.mk (And.intro hC6 hl6); clear hl6; have hBT6 := hK6.blk hBT3.out hn3.out.2 (by simp); have y0 := blk_cell hBT6 0; have y1 := blk_cell hBT6 1; have y2 := blk_cell hBT6 2; have y3 := blk_cell hBT6 3; have z0 := blk_frozen hBT6 0; have z1 := blk_frozen hBT6 1; have z2 := blk_frozen hBT6 2; have z3 := blk_frozen hBT6 3; have hBT6 := Aside0.mk hBT6; have hG6 := Aside0.mk hG6; have hB6 := Aside0.mk hB6; have hK6 := Aside0.mk (hK3.out.trans hK6 (.inl rfl))))
                  go_quiet (first | (go_at_call 28; refine Calls.quiet_of_same (arith_Eval.binary _ _)) | (go_at_call 29; refine Calls.quiet_of_same (arith_Eval.unary _ _)))
                  go_wp2_with (first | (go_at_call 30; (with_reducible refine (arith_Eval.args w0 _ g A0 c0 l0 _ ihA.out q1 A6 c6 hC6.out.1 hC6.out.2 nl.out deep q3 (by first | exact pw_below_drewN (arith_Eval.p4b hB6.out (Nat.le_trans hBB.out.size hn3.out.1)) _ | exact arith_Eval.p4b hB6.out (Nat.le_trans hBB.out.size hn3.out.1)) hGG.out (by first | exact blk_drewN (arith_Eval.p4f hG6.out hn3.out.2.symm) _ | exact arith_Eval.p4f hG6.out hn3.out.2.symm) (a1, a2, ae, ad, as_) ha.out).mono ?_); rintro E w8 ⟨rfl, hG8, hB8, hK8⟩; have hBT8 := hK8.blk (by first | exact blk_drewN (arith_Eval.p4s hBT6.out) _ | exact arith_Eval.p4s hBT6.out) hn3.out.2 (by simp); have u0 := blk_cell hBT8 0; have u1 := blk_cell hBT8 1; have u2 := blk_cell hBT8 2; have u3 := (blk_cell hBT8 3).trans (rfl : _ = some (Value.slice A6 q1.f3.length c6)); have hBT8 := Aside0.mk hBT8; have hG8 := Aside0.mk hG8; have hB8 := Aside0.mk hB8; have hK8 := Aside0.mk ((by first | exact keep_drewN (arith_Eval.p4k hK6.out hn3.out.1) _ | exact arith_Eval.p4k hK6.out hn3.out.1 : KeepBut w _ g none).trans hK8 (.inl rfl))) | ((with_reducible refine gate_dst (N := 8) rfl ?_); refine box_event ?hg (N := 8) ?hd (cs := #[.int .i64 0, .int .i64 0]) (t := 61) ?hr ?_; (case hd => rfl); (case hg => rfl); (case hr => first | (go_simp; done) | (go_simp; rfl)); intro bl hbl w9 hx9 hy9; have hG9 := Aside0.mk (blk_below hG8.out hy9); have hBT9 := blk_below hBT8.out hy9; have hB9 := Aside0.mk (hB8.out.trans (hy9.mono hB8.out.size)); have hK9 := Aside0.mk (hK8.out.trans (KeepBut.of_below hy9 g none) (.inl rfl)); have hn9 := Aside0.mk (show g ≠ bl ∧ bt ≠ bl ∧ w0.heap.size ≤ bl ∧ w.heap.size ≤ bl by have h1 := blk_lt hG8.out; have h2 := blk_lt hBT8.out; have h3 := hB8.out.size; have h4 := hK8.out.1; omega); have c0_ := blk_cell hx9 0; have c1_ := blk_cell hx9 1; have d0_ := blk_frozen hx9 0; have d1_ := blk_frozen hx9 1; have hT9 := blk_far (p := ⟨bl, 1, none⟩) (blk_far (p := ⟨bl, 0, none⟩) hBT9 hn9.out.2.1 (.int .i64 a1)) hn9.out.2.1 (.int .i64 a2); have s3 := (blk_cell hT9 3).trans (rfl : _ = some (Value.slice A6 q1.f3.length c6)); clear hx9 hy9 hbl hBT9 hT9) | (go_at_call 42; (with_reducible refine (num_Neg.calls a1 n1 n2 _ hnx.out).mono ?_); rintro E w' ⟨rfl, hd⟩; obtain ⟨⟨m_, rfl⟩⟩ := hd))
                  go_ret2
                  rw [← h.out]
                  exact ⟨rfl, blk_drewN (blk_far (p := ⟨bl, 1, none⟩) (blk_far (p := ⟨bl, 0, none⟩) hG9.out hn9.out.1 _) hn9.out.1 _) _, pw_below_drewN ((hB9.out.setCell (p := ⟨bl, 0, none⟩) hn9.out.2.2.1 _).setCell (p := ⟨bl, 1, none⟩) hn9.out.2.2.1 _) _, keep_drewN (keep_far (p := ⟨bl, 1, none⟩) (keep_far (p := ⟨bl, 0, none⟩) hK9.out hn9.out.2.2.2 _) hn9.out.2.2.2 _) _⟩
              rw [if_neg cq0] at hn hf hfd
              by_cases cq1 : q1.f1.toList = ([97, 98, 115] : List UInt8)
              · rw [if_pos cq1] at hn hf hfd
                have hfv : arith_Eval.fv (arith_Eval.one q1.f1) = .func (.func 43) #[] #[] := hfd
                clear hf hfd cq1
                have hnx := Aside0.mk hn
                clear hn
                by_cases hn0 : n2 = 0
                · rw [if_pos hn0] at h
                  have w1 : (n2 == 0) = true := beq_iff_eq.mpr hn0
                  have w2 : (n2 != 0) = false := bne_eq_false_iff_eq.mpr hn0
                  have h := Aside0.mk (Option.some.inj h)
                  clear hn0
                  have hq1 : ∀ W, (binOp BinOp.eql 41 Value.nilFunc Value.nilFunc).run Try.prog W = .ok (.bool true) W := fun W => by rfl
                  have hq2 : ∀ f W, (binOp BinOp.eql 41 (.func (.func f) #[] #[]) Value.nilFunc).run Try.prog W = .ok (.bool false) W := fun f W => by rfl
                  have hq3 : ∀ W, (binOp BinOp.eql 59 Value.nilFunc Value.nilFunc).run Try.prog W = .ok (.bool true) W := fun W => by rfl
                  have hq4 : ∀ f W, (binOp BinOp.eql 59 (.func (.func f) #[] #[]) Value.nilFunc).run Try.prog W = .ok (.bool false) W := fun f W => by rfl
                  go_enter Try.func24, Try.ntmps24
                  go_wp2_with (first
                    | ((with_reducible refine gate_dst (N := 3) rfl ?_); refine box_event ?hg (N := 3) ?hd (cs := #[.int .i64 t.f0, .string t.f1, .int .i64 t.f2, .slice At t.f3.length ct]) (t := 25) ?hr ?_; (case hd => rfl); (case hg => rfl); (case hr => first | (go_simp; done) | (go_simp; rfl)); intro bt hbt w3 hx3 hy3;
                       have hgg3 := Aside0.mk (blk_below hgg.out hy3); have hBT3 := Aside0.mk hx3; have hBB3 := Aside0.mk (hBB.out.trans (hy3.mono hBB.out.size)); have hK3 := Aside0.mk (KeepBut.of_below hy3 g none); have hn3 := Aside0.mk (show w.heap.size ≤ bt ∧ bt ≠ g by omega); have g1 := (blk_cell hgg3.out 1).trans (rfl : _ = some (Value.int .i64 deep)); have b0 := (blk_cell hx3 0).trans (rfl : _ = some (Value.int .i64 t.f0)); have b1 := (blk_cell hx3 1).trans (rfl : _ = some (Value.string t.f1)); have b2 := (blk_cell hx3 2).trans (rfl : _ = some (Value.int .i64 t.f2)); have b3 := (blk_cell hx3 3).trans (rfl : _ = some (Value.slice At t.f3.length ct)); clear hx3 hy3 hbt)
                    | (go_at_call 27; (with_reducible refine (arith_Eval.visits k w0 _ g A0 c0 l0 hCC.out t At ct hAt.out.1 hAt.out.2 deep s hBB3.out hGG.out hgg3.out q1 0 q3 hq.out).mono ?_); rintro E w6 ⟨A6, c6, rfl, hC6, hl6, hG6, hB6, hK6⟩; have hC6 := Aside0.mk (And.intro hC6 hl6); clear hl6; have hBT6 := hK6.blk hBT3.out hn3.out.2 (by simp); have y0 := blk_cell hBT6 0; have y1 := blk_cell hBT6 1; have y2 := blk_cell hBT6 2; have y3 := blk_cell hBT6 3; have z0 := blk_frozen hBT6 0; have z1 := blk_frozen hBT6 1; have z2 := blk_frozen hBT6 2; have z3 := blk_frozen hBT6 3; have hBT6 := Aside0.mk hBT6; have hG6 := Aside0.mk hG6; have hB6 := Aside0.mk hB6; have hK6 := Aside0.mk (hK3.out.trans hK6 (.inl rfl))))
                  go_quiet (first | (go_at_call 28; refine Calls.quiet_of_same (arith_Eval.binary _ _)) | (go_at_call 29; refine Calls.quiet_of_same (arith_Eval.unary _ _)))
                  go_wp2_with (first | (go_at_call 30; (with_reducible refine (arith_Eval.args w0 _ g A0 c0 l0 _ ihA.out q1 A6 c6 hC6.out.1 hC6.out.2 nl.out deep q3 (by first | exact pw_below_drewN (arith_Eval.p4b hB6.out (Nat.le_trans hBB.out.size hn3.out.1)) _ | exact arith_Eval.p4b hB6.out (Nat.le_trans hBB.out.size hn3.out.1)) hGG.out (by first | exact blk_drewN (arith_Eval.p4f hG6.out hn3.out.2.symm) _ | exact arith_Eval.p4f hG6.out hn3.out.2.symm) (a1, a2, ae, ad, as_) ha.out).mono ?_); rintro E w8 ⟨rfl, hG8, hB8, hK8⟩; have hBT8 := hK8.blk (by first | exact blk_drewN (arith_Eval.p4s hBT6.out) _ | exact arith_Eval.p4s hBT6.out) hn3.out.2 (by simp); have u0 := blk_cell hBT8 0; have u1 := blk_cell hBT8 1; have u2 := blk_cell hBT8 2; have u3 := (blk_cell hBT8 3).trans (rfl : _ = some (Value.slice A6 q1.f3.length c6)); have hBT8 := Aside0.mk hBT8; have hG8 := Aside0.mk hG8; have hB8 := Aside0.mk hB8; have hK8 := Aside0.mk ((by first | exact keep_drewN (arith_Eval.p4k hK6.out hn3.out.1) _ | exact arith_Eval.p4k hK6.out hn3.out.1 : KeepBut w _ g none).trans hK8 (.inl rfl))) | ((with_reducible refine gate_dst (N := 8) rfl ?_); refine box_event ?hg (N := 8) ?hd (cs := #[.int .i64 0, .int .i64 0]) (t := 61) ?hr ?_; (case hd => rfl); (case hg => rfl); (case hr => first | (go_simp; done) | (go_simp; rfl)); intro bl hbl w9 hx9 hy9; have hG9 := Aside0.mk (blk_below hG8.out hy9); have hBT9 := blk_below hBT8.out hy9; have hB9 := Aside0.mk (hB8.out.trans (hy9.mono hB8.out.size)); have hK9 := Aside0.mk (hK8.out.trans (KeepBut.of_below hy9 g none) (.inl rfl)); have hn9 := Aside0.mk (show g ≠ bl ∧ bt ≠ bl ∧ w0.heap.size ≤ bl ∧ w.heap.size ≤ bl by have h1 := blk_lt hG8.out; have h2 := blk_lt hBT8.out; have h3 := hB8.out.size; have h4 := hK8.out.1; omega); have c0_ := blk_cell hx9 0; have c1_ := blk_cell hx9 1; have d0_ := blk_frozen hx9 0; have d1_ := blk_frozen hx9 1; have hT9 := blk_far (p := ⟨bl, 1, none⟩) (blk_far (p := ⟨bl, 0, none⟩) hBT9 hn9.out.2.1 (.int .i64 a1)) hn9.out.2.1 (.int .i64 a2); have s3 := (blk_cell hT9 3).trans (rfl : _ = some (Value.slice A6 q1.f3.length c6)); clear hx9 hy9 hbl hBT9 hT9) | (go_at_call 43; (with_reducible refine (num_Abs.calls a1 n1 n2 _ hnx.out).mono ?_); rintro E w' ⟨rfl, hd⟩; obtain ⟨⟨m_, rfl⟩⟩ := hd))
                  go_ret2
                  rw [← h.out]
                  exact ⟨rfl, blk_drewN (blk_far (p := ⟨bl, 1, none⟩) (blk_far (p := ⟨bl, 0, none⟩) hG9.out hn9.out.1 _) hn9.out.1 _) _, pw_below_drewN ((hB9.out.setCell (p := ⟨bl, 0, none⟩) hn9.out.2.2.1 _).setCell (p := ⟨bl, 1, none⟩) hn9.out.2.2.1 _) _, keep_drewN (keep_far (p := ⟨bl, 1, none⟩) (keep_far (p := ⟨bl, 0, none⟩) hK9.out hn9.out.2.2.2 _) hn9.out.2.2.2 _) _⟩
                · rw [if_neg hn0] at h
                  have w1 : (n2 == 0) = false := beq_eq_false_iff_ne.mpr hn0
                  have w2 : (n2 != 0) = true := bne_iff_ne.mpr hn0
                  have h := Aside0.mk (Option.some.inj h)
                  clear hn0
                  have hq1 : ∀ W, (binOp BinOp.eql 41 Value.nilFunc Value.nilFunc).run Try.prog W = .ok (.bool true) W := fun W => by rfl
                  have hq2 : ∀ f W, (binOp BinOp.eql 41 (.func (.func f) #[] #[]) Value.nilFunc).run Try.prog W = .ok (.bool false) W := fun f W => by rfl
                  have hq3 : ∀ W, (binOp BinOp.eql 59 Value.nilFunc Value.nilFunc).run Try.prog W = .ok (.bool true) W := fun W => by rfl
                  have hq4 : ∀ f W, (binOp BinOp.eql 59 (.func (.func f) #[] #[]) Value.nilFunc).run Try.prog W = .ok (.bool false) W := fun f W => by rfl
                  go_enter Try.func24, Try.ntmps24
                  go_wp2_with (first
                    | ((with_reducible refine gate_dst (N := 3) rfl ?_); refine box_event ?hg (N := 3) ?hd (cs := #[.int .i64 t.f0, .string t.f1, .int .i64 t.f2, .slice At t.f3.length ct]) (t := 25) ?hr ?_; (case hd => rfl); (case hg => rfl); (case hr => first | (go_simp; done) | (go_simp; rfl)); intro bt hbt w3 hx3 hy3;
                       have hgg3 := Aside0.mk (blk_below hgg.out hy3); have hBT3 := Aside0.mk hx3; have hBB3 := Aside0.mk (hBB.out.trans (hy3.mono hBB.out.size)); have hK3 := Aside0.mk (KeepBut.of_below hy3 g none); have hn3 := Aside0.mk (show w.heap.size ≤ bt ∧ bt ≠ g by omega); have g1 := (blk_cell hgg3.out 1).trans (rfl : _ = some (Value.int .i64 deep)); have b0 := (blk_cell hx3 0).trans (rfl : _ = some (Value.int .i64 t.f0)); have b1 := (blk_cell hx3 1).trans (rfl : _ = some (Value.string t.f1)); have b2 := (blk_cell hx3 2).trans (rfl : _ = some (Value.int .i64 t.f2)); have b3 := (blk_cell hx3 3).trans (rfl : _ = some (Value.slice At t.f3.length ct)); clear hx3 hy3 hbt)
                    | (go_at_call 27; (with_reducible refine (arith_Eval.visits k w0 _ g A0 c0 l0 hCC.out t At ct hAt.out.1 hAt.out.2 deep s hBB3.out hGG.out hgg3.out q1 0 q3 hq.out).mono ?_); rintro E w6 ⟨A6, c6, rfl, hC6, hl6, hG6, hB6, hK6⟩; have hC6 := Aside0.mk (And.intro hC6 hl6); clear hl6; have hBT6 := hK6.blk hBT3.out hn3.out.2 (by simp); have y0 := blk_cell hBT6 0; have y1 := blk_cell hBT6 1; have y2 := blk_cell hBT6 2; have y3 := blk_cell hBT6 3; have z0 := blk_frozen hBT6 0; have z1 := blk_frozen hBT6 1; have z2 := blk_frozen hBT6 2; have z3 := blk_frozen hBT6 3; have hBT6 := Aside0.mk hBT6; have hG6 := Aside0.mk hG6; have hB6 := Aside0.mk hB6; have hK6 := Aside0.mk (hK3.out.trans hK6 (.inl rfl))))
                  go_quiet (first | (go_at_call 28; refine Calls.quiet_of_same (arith_Eval.binary _ _)) | (go_at_call 29; refine Calls.quiet_of_same (arith_Eval.unary _ _)))
                  go_wp2_with (first | (go_at_call 30; (with_reducible refine (arith_Eval.args w0 _ g A0 c0 l0 _ ihA.out q1 A6 c6 hC6.out.1 hC6.out.2 nl.out deep q3 (by first | exact pw_below_drewN (arith_Eval.p4b hB6.out (Nat.le_trans hBB.out.size hn3.out.1)) _ | exact arith_Eval.p4b hB6.out (Nat.le_trans hBB.out.size hn3.out.1)) hGG.out (by first | exact blk_drewN (arith_Eval.p4f hG6.out hn3.out.2.symm) _ | exact arith_Eval.p4f hG6.out hn3.out.2.symm) (a1, a2, ae, ad, as_) ha.out).mono ?_); rintro E w8 ⟨rfl, hG8, hB8, hK8⟩; have hBT8 := hK8.blk (by first | exact blk_drewN (arith_Eval.p4s hBT6.out) _ | exact arith_Eval.p4s hBT6.out) hn3.out.2 (by simp); have u0 := blk_cell hBT8 0; have u1 := blk_cell hBT8 1; have u2 := blk_cell hBT8 2; have u3 := (blk_cell hBT8 3).trans (rfl : _ = some (Value.slice A6 q1.f3.length c6)); have hBT8 := Aside0.mk hBT8; have hG8 := Aside0.mk hG8; have hB8 := Aside0.mk hB8; have hK8 := Aside0.mk ((by first | exact keep_drewN (arith_Eval.p4k hK6.out hn3.out.1) _ | exact arith_Eval.p4k hK6.out hn3.out.1 : KeepBut w _ g none).trans hK8 (.inl rfl))) | ((with_reducible refine gate_dst (N := 8) rfl ?_); refine box_event ?hg (N := 8) ?hd (cs := #[.int .i64 0, .int .i64 0]) (t := 61) ?hr ?_; (case hd => rfl); (case hg => rfl); (case hr => first | (go_simp; done) | (go_simp; rfl)); intro bl hbl w9 hx9 hy9; have hG9 := Aside0.mk (blk_below hG8.out hy9); have hBT9 := blk_below hBT8.out hy9; have hB9 := Aside0.mk (hB8.out.trans (hy9.mono hB8.out.size)); have hK9 := Aside0.mk (hK8.out.trans (KeepBut.of_below hy9 g none) (.inl rfl)); have hn9 := Aside0.mk (show g ≠ bl ∧ bt ≠ bl ∧ w0.heap.size ≤ bl ∧ w.heap.size ≤ bl by have h1 := blk_lt hG8.out; have h2 := blk_lt hBT8.out; have h3 := hB8.out.size; have h4 := hK8.out.1; omega); have c0_ := blk_cell hx9 0; have c1_ := blk_cell hx9 1; have d0_ := blk_frozen hx9 0; have d1_ := blk_frozen hx9 1; have hT9 := blk_far (p := ⟨bl, 1, none⟩) (blk_far (p := ⟨bl, 0, none⟩) hBT9 hn9.out.2.1 (.int .i64 a1)) hn9.out.2.1 (.int .i64 a2); have s3 := (blk_cell hT9 3).trans (rfl : _ = some (Value.slice A6 q1.f3.length c6)); clear hx9 hy9 hbl hBT9 hT9) | (go_at_call 43; (with_reducible refine (num_Abs.calls a1 n1 n2 _ hnx.out).mono ?_); rintro E w' ⟨rfl, hd⟩; obtain ⟨⟨m_, rfl⟩⟩ := hd))
                  go_ret2
                  rw [← h.out]
                  exact ⟨rfl, blk_drewN (blk_far (p := ⟨bl, 1, none⟩) (blk_far (p := ⟨bl, 0, none⟩) hG9.out hn9.out.1 _) hn9.out.1 _) _, pw_below_drewN ((hB9.out.setCell (p := ⟨bl, 0, none⟩) hn9.out.2.2.1 _).setCell (p := ⟨bl, 1, none⟩) hn9.out.2.2.1 _) _, keep_drewN (keep_far (p := ⟨bl, 1, none⟩) (keep_far (p := ⟨bl, 0, none⟩) hK9.out hn9.out.2.2.2 _) hn9.out.2.2.2 _) _⟩
              rw [if_neg cq1] at hn hf hfd
              by_cases cq2 : q1.f1.toList = ([115, 105, 103, 110] : List UInt8)
              · rw [if_pos cq2] at hn hf hfd
                have hfv : arith_Eval.fv (arith_Eval.one q1.f1) = .func (.func 44) #[] #[] := hfd
                clear hf hfd cq2
                have hn_ := Option.some.inj hn
                obtain ⟨rfl, rfl⟩ := Prod.mk.inj hn_
                have hnx := Aside0.mk hn
                clear hn hn_
                rw [if_pos rfl] at h
                have h := Aside0.mk (Option.some.inj h)
                have hq1 : ∀ W, (binOp BinOp.eql 41 Value.nilFunc Value.nilFunc).run Try.prog W = .ok (.bool true) W := fun W => by rfl
                have hq2 : ∀ f W, (binOp BinOp.eql 41 (.func (.func f) #[] #[]) Value.nilFunc).run Try.prog W = .ok (.bool false) W := fun f W => by rfl
                have hq3 : ∀ W, (binOp BinOp.eql 59 Value.nilFunc Value.nilFunc).run Try.prog W = .ok (.bool true) W := fun W => by rfl
                have hq4 : ∀ f W, (binOp BinOp.eql 59 (.func (.func f) #[] #[]) Value.nilFunc).run Try.prog W = .ok (.bool false) W := fun f W => by rfl
                go_enter Try.func24, Try.ntmps24
                go_wp2_with (first
                  | ((with_reducible refine gate_dst (N := 3) rfl ?_); refine box_event ?hg (N := 3) ?hd (cs := #[.int .i64 t.f0, .string t.f1, .int .i64 t.f2, .slice At t.f3.length ct]) (t := 25) ?hr ?_; (case hd => rfl); (case hg => rfl); (case hr => first | (go_simp; done) | (go_simp; rfl)); intro bt hbt w3 hx3 hy3;
                     have hgg3 := Aside0.mk (blk_below hgg.out hy3); have hBT3 := Aside0.mk hx3; have hBB3 := Aside0.mk (hBB.out.trans (hy3.mono hBB.out.size)); have hK3 := Aside0.mk (KeepBut.of_below hy3 g none); have hn3 := Aside0.mk (show w.heap.size ≤ bt ∧ bt ≠ g by omega); have g1 := (blk_cell hgg3.out 1).trans (rfl : _ = some (Value.int .i64 deep)); have b0 := (blk_cell hx3 0).trans (rfl : _ = some (Value.int .i64 t.f0)); have b1 := (blk_cell hx3 1).trans (rfl : _ = some (Value.string t.f1)); have b2 := (blk_cell hx3 2).trans (rfl : _ = some (Value.int .i64 t.f2)); have b3 := (blk_cell hx3 3).trans (rfl : _ = some (Value.slice At t.f3.length ct)); clear hx3 hy3 hbt)
                  | (go_at_call 27; (with_reducible refine (arith_Eval.visits k w0 _ g A0 c0 l0 hCC.out t At ct hAt.out.1 hAt.out.2 deep s hBB3.out hGG.out hgg3.out q1 0 q3 hq.out).mono ?_); rintro E w6 ⟨A6, c6, rfl, hC6, hl6, hG6, hB6, hK6⟩; have hC6 := Aside0.mk (And.intro hC6 hl6); clear hl6; have hBT6 := hK6.blk hBT3.out hn3.out.2 (by simp); have y0 := blk_cell hBT6 0; have y1 := blk_cell hBT6 1; have y2 := blk_cell hBT6 2; have y3 := blk_cell hBT6 3; have z0 := blk_frozen hBT6 0; have z1 := blk_frozen hBT6 1; have z2 := blk_frozen hBT6 2; have z3 := blk_frozen hBT6 3; have hBT6 := Aside0.mk hBT6; have hG6 := Aside0.mk hG6; have hB6 := Aside0.mk hB6; have hK6 := Aside0.mk (hK3.out.trans hK6 (.inl rfl))))
                go_quiet (first | (go_at_call 28; refine Calls.quiet_of_same (arith_Eval.binary _ _)) | (go_at_call 29; refine Calls.quiet_of_same (arith_Eval.unary _ _)))
                go_wp2_with (first | (go_at_call 30; (with_reducible refine (arith_Eval.args w0 _ g A0 c0 l0 _ ihA.out q1 A6 c6 hC6.out.1 hC6.out.2 nl.out deep q3 (by first | exact pw_below_drewN (arith_Eval.p4b hB6.out (Nat.le_trans hBB.out.size hn3.out.1)) _ | exact arith_Eval.p4b hB6.out (Nat.le_trans hBB.out.size hn3.out.1)) hGG.out (by first | exact blk_drewN (arith_Eval.p4f hG6.out hn3.out.2.symm) _ | exact arith_Eval.p4f hG6.out hn3.out.2.symm) (a1, a2, ae, ad, as_) ha.out).mono ?_); rintro E w8 ⟨rfl, hG8, hB8, hK8⟩; have hBT8 := hK8.blk (by first | exact blk_drewN (arith_Eval.p4s hBT6.out) _ | exact arith_Eval.p4s hBT6.out) hn3.out.2 (by simp); have u0 := blk_cell hBT8 0; have u1 := blk_cell hBT8 1; have u2 := blk_cell hBT8 2; have u3 := (blk_cell hBT8 3).trans (rfl : _ = some (Value.slice A6 q1.f3.length c6)); have hBT8 := Aside0.mk hBT8; have hG8 := Aside0.mk hG8; have hB8 := Aside0.mk hB8; have hK8 := Aside0.mk ((by first | exact keep_drewN (arith_Eval.p4k hK6.out hn3.out.1) _ | exact arith_Eval.p4k hK6.out hn3.out.1 : KeepBut w _ g none).trans hK8 (.inl rfl))) | ((with_reducible refine gate_dst (N := 8) rfl ?_); refine box_event ?hg (N := 8) ?hd (cs := #[.int .i64 0, .int .i64 0]) (t := 61) ?hr ?_; (case hd => rfl); (case hg => rfl); (case hr => first | (go_simp; done) | (go_simp; rfl)); intro bl hbl w9 hx9 hy9; have hG9 := Aside0.mk (blk_below hG8.out hy9); have hBT9 := blk_below hBT8.out hy9; have hB9 := Aside0.mk (hB8.out.trans (hy9.mono hB8.out.size)); have hK9 := Aside0.mk (hK8.out.trans (KeepBut.of_below hy9 g none) (.inl rfl)); have hn9 := Aside0.mk (show g ≠ bl ∧ bt ≠ bl ∧ w0.heap.size ≤ bl ∧ w.heap.size ≤ bl by have h1 := blk_lt hG8.out; have h2 := blk_lt hBT8.out; have h3 := hB8.out.size; have h4 := hK8.out.1; omega); have c0_ := blk_cell hx9 0; have c1_ := blk_cell hx9 1; have d0_ := blk_frozen hx9 0; have d1_ := blk_frozen hx9 1; have hT9 := blk_far (p := ⟨bl, 1, none⟩) (blk_far (p := ⟨bl, 0, none⟩) hBT9 hn9.out.2.1 (.int .i64 a1)) hn9.out.2.1 (.int .i64 a2); have s3 := (blk_cell hT9 3).trans (rfl : _ = some (Value.slice A6 q1.f3.length c6)); clear hx9 hy9 hbl hBT9 hT9) | (go_at_call 44; (with_reducible refine (arith_Eval.sgn _ _).mono ?_); rintro E w' ⟨rfl, hd⟩; obtain ⟨⟨m_, rfl⟩⟩ := hd))
                go_ret2
                rw [← h.out]
                exact ⟨rfl, blk_drewN (blk_far (p := ⟨bl, 1, none⟩) (blk_far (p := ⟨bl, 0, none⟩) hG9.out hn9.out.1 _) hn9.out.1 _) _, pw_below_drewN ((hB9.out.setCell (p := ⟨bl, 0, none⟩) hn9.out.2.2.1 _).setCell (p := ⟨bl, 1, none⟩) hn9.out.2.2.1 _) _, keep_drewN (keep_far (p := ⟨bl, 1, none⟩) (keep_far (p := ⟨bl, 0, none⟩) hK9.out hn9.out.2.2.2 _) hn9.out.2.2.2 _) _⟩
              rw [if_neg cq2] at hn hf hfd
              cases hf
            · rw [if_neg hae] at h
              have hae1 : (ae == 0) = false := beq_eq_false_iff_ne.mpr hae
              have hae2 : (ae != 0) = true := bne_iff_ne.mpr hae
              have h := Aside0.mk (Option.some.inj h)
              have hfv : arith_Eval.fv (arith_Eval.one q1.f1) = .func (.func f) #[] #[] := by rw [hf]; rfl
              clear hae hf
              have hq1 : ∀ W, (binOp BinOp.eql 41 Value.nilFunc Value.nilFunc).run Try.prog W = .ok (.bool true) W := fun W => by rfl
              have hq2 : ∀ f W, (binOp BinOp.eql 41 (.func (.func f) #[] #[]) Value.nilFunc).run Try.prog W = .ok (.bool false) W := fun f W => by rfl
              have hq3 : ∀ W, (binOp BinOp.eql 59 Value.nilFunc Value.nilFunc).run Try.prog W = .ok (.bool true) W := fun W => by rfl
              have hq4 : ∀ f W, (binOp BinOp.eql 59 (.func (.func f) #[] #[]) Value.nilFunc).run Try.prog W = .ok (.bool false) W := fun f W => by rfl
              go_enter Try.func24, Try.ntmps24
              go_wp2_with (first
                | ((with_reducible refine gate_dst (N := 3) rfl ?_); refine box_event ?hg (N := 3) ?hd (cs := #[.int .i64 t.f0, .string t.f1, .int .i64 t.f2, .slice At t.f3.length ct]) (t := 25) ?hr ?_; (case hd => rfl); (case hg => rfl); (case hr => first | (go_simp; done) | (go_simp; rfl)); intro bt hbt w3 hx3 hy3;
                   have hgg3 := Aside0.mk (blk_below hgg.out hy3); have hBT3 := Aside0.mk hx3; have hBB3 := Aside0.mk (hBB.out.trans (hy3.mono hBB.out.size)); have hK3 := Aside0.mk (KeepBut.of_below hy3 g none); have hn3 := Aside0.mk (show w.heap.size ≤ bt ∧ bt ≠ g by omega); have g1 := (blk_cell hgg3.out 1).trans (rfl : _ = some (Value.int .i64 deep)); have b0 := (blk_cell hx3 0).trans (rfl : _ = some (Value.int .i64 t.f0)); have b1 := (blk_cell hx3 1).trans (rfl : _ = some (Value.string t.f1)); have b2 := (blk_cell hx3 2).trans (rfl : _ = some (Value.int .i64 t.f2)); have b3 := (blk_cell hx3 3).trans (rfl : _ = some (Value.slice At t.f3.length ct)); clear hx3 hy3 hbt)
                | (go_at_call 27; (with_reducible refine (arith_Eval.visits k w0 _ g A0 c0 l0 hCC.out t At ct hAt.out.1 hAt.out.2 deep s hBB3.out hGG.out hgg3.out q1 0 q3 hq.out).mono ?_); rintro E w6 ⟨A6, c6, rfl, hC6, hl6, hG6, hB6, hK6⟩; have hC6 := Aside0.mk (And.intro hC6 hl6); clear hl6; have hBT6 := hK6.blk hBT3.out hn3.out.2 (by simp); have y0 := blk_cell hBT6 0; have y1 := blk_cell hBT6 1; have y2 := blk_cell hBT6 2; have y3 := blk_cell hBT6 3; have z0 := blk_frozen hBT6 0; have z1 := blk_frozen hBT6 1; have z2 := blk_frozen hBT6 2; have z3 := blk_frozen hBT6 3; have hBT6 := Aside0.mk hBT6; have hG6 := Aside0.mk hG6; have hB6 := Aside0.mk hB6; have hK6 := Aside0.mk (hK3.out.trans hK6 (.inl rfl))))
              go_quiet (first | (go_at_call 28; refine Calls.quiet_of_same (arith_Eval.binary _ _)) | (go_at_call 29; refine Calls.quiet_of_same (arith_Eval.unary _ _)))
              go_wp2_with (first | (go_at_call 30; (with_reducible refine (arith_Eval.args w0 _ g A0 c0 l0 _ ihA.out q1 A6 c6 hC6.out.1 hC6.out.2 nl.out deep q3 (by first | exact pw_below_drewN (arith_Eval.p4b hB6.out (Nat.le_trans hBB.out.size hn3.out.1)) _ | exact arith_Eval.p4b hB6.out (Nat.le_trans hBB.out.size hn3.out.1)) hGG.out (by first | exact blk_drewN (arith_Eval.p4f hG6.out hn3.out.2.symm) _ | exact arith_Eval.p4f hG6.out hn3.out.2.symm) (a1, a2, ae, ad, as_) ha.out).mono ?_); rintro E w8 ⟨rfl, hG8, hB8, hK8⟩; have hBT8 := hK8.blk (by first | exact blk_drewN (arith_Eval.p4s hBT6.out) _ | exact arith_Eval.p4s hBT6.out) hn3.out.2 (by simp); have u0 := blk_cell hBT8 0; have u1 := blk_cell hBT8 1; have u2 := blk_cell hBT8 2; have u3 := (blk_cell hBT8 3).trans (rfl : _ = some (Value.slice A6 q1.f3.length c6)); have hBT8 := Aside0.mk hBT8; have hG8 := Aside0.mk hG8; have hB8 := Aside0.mk hB8; have hK8 := Aside0.mk ((by first | exact keep_drewN (arith_Eval.p4k hK6.out hn3.out.1) _ | exact arith_Eval.p4k hK6.out hn3.out.1 : KeepBut w _ g none).trans hK8 (.inl rfl))) | ((with_reducible refine gate_dst (N := 8) rfl ?_); refine box_event ?hg (N := 8) ?hd (cs := #[.int .i64 0, .int .i64 0]) (t := 61) ?hr ?_; (case hd => rfl); (case hg => rfl); (case hr => first | (go_simp; done) | (go_simp; rfl)); intro bl hbl w9 hx9 hy9; have hG9 := Aside0.mk (blk_below hG8.out hy9); have hBT9 := blk_below hBT8.out hy9; have hB9 := Aside0.mk (hB8.out.trans (hy9.mono hB8.out.size)); have hK9 := Aside0.mk (hK8.out.trans (KeepBut.of_below hy9 g none) (.inl rfl)); have hn9 := Aside0.mk (show g ≠ bl ∧ bt ≠ bl ∧ w0.heap.size ≤ bl ∧ w.heap.size ≤ bl by have h1 := blk_lt hG8.out; have h2 := blk_lt hBT8.out; have h3 := hB8.out.size; have h4 := hK8.out.1; omega); have c0_ := blk_cell hx9 0; have c1_ := blk_cell hx9 1; have d0_ := blk_frozen hx9 0; have d1_ := blk_frozen hx9 1; have hT9 := blk_far (p := ⟨bl, 1, none⟩) (blk_far (p := ⟨bl, 0, none⟩) hBT9 hn9.out.2.1 (.int .i64 a1)) hn9.out.2.1 (.int .i64 a2); have s3 := (blk_cell hT9 3).trans (rfl : _ = some (Value.slice A6 q1.f3.length c6)); clear hx9 hy9 hbl hBT9 hT9))
              go_ret2
              rw [← h.out]
              exact ⟨rfl, blk_far (p := ⟨bl, 1, none⟩) (blk_far (p := ⟨bl, 0, none⟩) hG9.out hn9.out.1 _) hn9.out.1 _, (hB9.out.setCell (p := ⟨bl, 0, none⟩) hn9.out.2.2.1 _).setCell (p := ⟨bl, 1, none⟩) hn9.out.2.2.1 _, keep_far (p := ⟨bl, 1, none⟩) (keep_far (p := ⟨bl, 0, none⟩) hK9.out hn9.out.2.2.2 _) hn9.out.2.2.2 _⟩
      case pos =>
        rw [if_pos n2] at h
        have l2 := eq_false (show ¬ ((q1.f3.length : Int) > 2) by omega)
        have m2 : ((q1.f3.length : Int) == 2) = true := beq_iff_eq.mpr (by omega)
        have m1 : ((q1.f3.length : Int) == 1) = false := beq_eq_false_iff_ne.mpr (by omega)
        have m0 : ((q1.f3.length : Int) == 0) = false := beq_eq_false_iff_ne.mpr (by omega)
        have nl := Aside0.mk (show q1.f3.length ≤ 2 by omega)
        clear n2
        cases hf : arith_Eval.two q1.f1 with
        | none =>
          rw [hf] at h
          have hfv : arith_Eval.fv (arith_Eval.two q1.f1) = .nilFunc := by rw [hf]; rfl
          have h := Aside0.mk (Option.some.inj (h : some _ = some _))
          clear hf
          have hq1 : ∀ W, (binOp BinOp.eql 41 Value.nilFunc Value.nilFunc).run Try.prog W = .ok (.bool true) W := fun W => by rfl
          have hq2 : ∀ f W, (binOp BinOp.eql 41 (.func (.func f) #[] #[]) Value.nilFunc).run Try.prog W = .ok (.bool false) W := fun f W => by rfl
          have hq3 : ∀ W, (binOp BinOp.eql 59 Value.nilFunc Value.nilFunc).run Try.prog W = .ok (.bool true) W := fun W => by rfl
          have hq4 : ∀ f W, (binOp BinOp.eql 59 (.func (.func f) #[] #[]) Value.nilFunc).run Try.prog W = .ok (.bool false) W := fun f W => by rfl
          go_enter Try.func24, Try.ntmps24
          go_wp2_with (first
            | ((with_reducible refine gate_dst (N := 3) rfl ?_); refine box_event ?hg (N := 3) ?hd (cs := #[.int .i64 t.f0, .string t.f1, .int .i64 t.f2, .slice At t.f3.length ct]) (t := 25) ?hr ?_; (case hd => rfl); (case hg => rfl); (case hr => first | (go_simp; done) | (go_simp; rfl)); intro bt hbt w3 hx3 hy3;
               have hgg3 := Aside0.mk (blk_below hgg.out hy3); have hBT3 := Aside0.mk hx3; have hBB3 := Aside0.mk (hBB.out.trans (hy3.mono hBB.out.size)); have hK3 := Aside0.mk (KeepBut.of_below hy3 g none); have hn3 := Aside0.mk (show w.heap.size ≤ bt ∧ bt ≠ g by omega); have g1 := (blk_cell hgg3.out 1).trans (rfl : _ = some (Value.int .i64 deep)); have b0 := (blk_cell hx3 0).trans (rfl : _ = some (Value.int .i64 t.f0)); have b1 := (blk_cell hx3 1).trans (rfl : _ = some (Value.string t.f1)); have b2 := (blk_cell hx3 2).trans (rfl : _ = some (Value.int .i64 t.f2)); have b3 := (blk_cell hx3 3).trans (rfl : _ = some (Value.slice At t.f3.length ct)); clear hx3 hy3 hbt)
            | (go_at_call 27; (with_reducible refine (arith_Eval.visits k w0 _ g A0 c0 l0 hCC.out t At ct hAt.out.1 hAt.out.2 deep s hBB3.out hGG.out hgg3.out q1 0 q3 hq.out).mono ?_); rintro E w6 ⟨A6, c6, rfl, hC6, hl6, hG6, hB6, hK6⟩; have hC6 := Aside0.mk (And.intro hC6 hl6); clear hl6; have hBT6 := hK6.blk hBT3.out hn3.out.2 (by simp); have y0 := blk_cell hBT6 0; have y1 := blk_cell hBT6 1; have y2 := blk_cell hBT6 2; have y3 := blk_cell hBT6 3; have z0 := blk_frozen hBT6 0; have z1 := blk_frozen hBT6 1; have z2 := blk_frozen hBT6 2; have z3 := blk_frozen hBT6 3; have hBT6 := Aside0.mk hBT6; have hG6 := Aside0.mk hG6; have hB6 := Aside0.mk hB6; have hK6 := Aside0.mk (hK3.out.trans hK6 (.inl rfl))))
          go_quiet (first | (go_at_call 28; refine Calls.quiet_of_same (arith_Eval.binary _ _)) | (go_at_call 29; refine Calls.quiet_of_same (arith_Eval.unary _ _)))
          go_wp2
          go_ret2
          rw [← h.out]
          exact ⟨rfl, blk_drewN (arith_Eval.p4f hG6.out hn3.out.2.symm) _, pw_below_drewN (arith_Eval.p4b hB6.out (Nat.le_trans hBB.out.size hn3.out.1)) _, keep_drewN (arith_Eval.p4k hK6.out hn3.out.1) _⟩
        | some f =>
          rw [hf, if_pos (show (some f).isSome = true from rfl)] at h
          obtain ⟨⟨a1, a2, ae, ad, as_⟩, ha, h⟩ := Option.bind_eq_some_iff.1 h
          have ha := Aside0.mk ha
          dsimp only at h
          by_cases hae : ae = 0
          · have hae1 : (ae == 0) = true := beq_iff_eq.mpr hae
            have hae2 : (ae != 0) = false := bne_eq_false_iff_eq.mpr hae
            rw [if_pos hae] at h
            clear hae
            obtain ⟨⟨n1, n2⟩, hn, h⟩ := Option.bind_eq_some_iff.1 h
            dsimp only at h
            unfold arith_Eval.ap2 at hn
            unfold arith_Eval.two at hf
            have hfd : arith_Eval.fv (arith_Eval.two q1.f1) = arith_Eval.fv (arith_Eval.two q1.f1) := rfl
            conv at hfd => rhs; unfold arith_Eval.two
            by_cases cq0 : q1.f1.toList = ([43] : List UInt8)
            · rw [if_pos cq0] at hn hf hfd
              have hfv : arith_Eval.fv (arith_Eval.two q1.f1) = .func (.func 36) #[] #[] := hfd
              clear hf hfd cq0
              have hnx := Aside0.mk hn
              clear hn
              by_cases hn0 : n2 = 0
              · rw [if_pos hn0] at h
                have w1 : (n2 == 0) = true := beq_iff_eq.mpr hn0
                have w2 : (n2 != 0) = false := bne_eq_false_iff_eq.mpr hn0
                have h := Aside0.mk (Option.some.inj h)
                clear hn0
                have hq1 : ∀ W, (binOp BinOp.eql 41 Value.nilFunc Value.nilFunc).run Try.prog W = .ok (.bool true) W := fun W => by rfl
                have hq2 : ∀ f W, (binOp BinOp.eql 41 (.func (.func f) #[] #[]) Value.nilFunc).run Try.prog W = .ok (.bool false) W := fun f W => by rfl
                have hq3 : ∀ W, (binOp BinOp.eql 59 Value.nilFunc Value.nilFunc).run Try.prog W = .ok (.bool true) W := fun W => by rfl
                have hq4 : ∀ f W, (binOp BinOp.eql 59 (.func (.func f) #[] #[]) Value.nilFunc).run Try.prog W = .ok (.bool false) W := fun f W => by rfl
                go_enter Try.func24, Try.ntmps24
                go_wp2_with (first
                  | ((with_reducible refine gate_dst (N := 3) rfl ?_); refine box_event ?hg (N := 3) ?hd (cs := #[.int .i64 t.f0, .string t.f1, .int .i64 t.f2, .slice At t.f3.length ct]) (t := 25) ?hr ?_; (case hd => rfl); (case hg => rfl); (case hr => first | (go_simp; done) | (go_simp; rfl)); intro bt hbt w3 hx3 hy3;
                     have hgg3 := Aside0.mk (blk_below hgg.out hy3); have hBT3 := Aside0.mk hx3; have hBB3 := Aside0.mk (hBB.out.trans (hy3.mono hBB.out.size)); have hK3 := Aside0.mk (KeepBut.of_below hy3 g none); have hn3 := Aside0.mk (show w.heap.size ≤ bt ∧ bt ≠ g by omega); have g1 := (blk_cell hgg3.out 1).trans (rfl : _ = some (Value.int .i64 deep)); have b0 := (blk_cell hx3 0).trans (rfl : _ = some (Value.int .i64 t.f0)); have b1 := (blk_cell hx3 1).trans (rfl : _ = some (Value.string t.f1)); have b2 := (blk_cell hx3 2).trans (rfl : _ = some (Value.int .i64 t.f2)); have b3 := (blk_cell hx3 3).trans (rfl : _ = some (Value.slice At t.f3.length ct)); clear hx3 hy3 hbt)
                  | (go_at_call 27; (with_reducible refine (arith_Eval.visits k w0 _ g A0 c0 l0 hCC.out t At ct hAt.out.1 hAt.out.2 deep s hBB3.out hGG.out hgg3.out q1 0 q3 hq.out).mono ?_); rintro E w6 ⟨A6, c6, rfl, hC6, hl6, hG6, hB6, hK6⟩; have hC6 := Aside0.mk (And.intro hC6 hl6); clear hl6; have hBT6 := hK6.blk hBT3.out hn3.out.2 (by simp); have y0 := blk_cell hBT6 0; have y1 := blk_cell hBT6 1; have y2 := blk_cell hBT6 2; have y3 := blk_cell hBT6 3; have z0 := blk_frozen hBT6 0; have z1 := blk_frozen hBT6 1; have z2 := blk_frozen hBT6 2; have z3 := blk_frozen hBT6 3; have hBT6 := Aside0.mk hBT6; have hG6 := Aside0.mk hG6; have hB6 := Aside0.mk hB6; have hK6 := Aside0.mk (hK3.out.trans hK6 (.inl rfl))))
                go_quiet (first | (go_at_call 28; refine Calls.quiet_of_same (arith_Eval.binary _ _)) | (go_at_call 29; refine Calls.quiet_of_same (arith_Eval.unary _ _)))
                go_wp2_with (first | (go_at_call 30; (with_reducible refine (arith_Eval.args w0 _ g A0 c0 l0 _ ihA.out q1 A6 c6 hC6.out.1 hC6.out.2 nl.out deep q3 (by first | exact pw_below_drewN (arith_Eval.p4b hB6.out (Nat.le_trans hBB.out.size hn3.out.1)) _ | exact arith_Eval.p4b hB6.out (Nat.le_trans hBB.out.size hn3.out.1)) hGG.out (by first | exact blk_drewN (arith_Eval.p4f hG6.out hn3.out.2.symm) _ | exact arith_Eval.p4f hG6.out hn3.out.2.symm) (a1, a2, ae, ad, as_) ha.out).mono ?_); rintro E w8 ⟨rfl, hG8, hB8, hK8⟩; have hBT8 := hK8.blk (by first | exact blk_drewN (arith_Eval.p4s hBT6.out) _ | exact arith_Eval.p4s hBT6.out) hn3.out.2 (by simp); have u0 := blk_cell hBT8 0; have u1 := blk_cell hBT8 1; have u2 := blk_cell hBT8 2; have u3 := (blk_cell hBT8 3).trans (rfl : _ = some (Value.slice A6 q1.f3.length c6)); have hBT8 := Aside0.mk hBT8; have hG8 := Aside0.mk hG8; have hB8 := Aside0.mk hB8; have hK8 := Aside0.mk ((by first | exact keep_drewN (arith_Eval.p4k hK6.out hn3.out.1) _ | exact arith_Eval.p4k hK6.out hn3.out.1 : KeepBut w _ g none).trans hK8 (.inl rfl))) | ((with_reducible refine gate_dst (N := 8) rfl ?_); refine box_event ?hg (N := 8) ?hd (cs := #[.int .i64 0, .int .i64 0]) (t := 61) ?hr ?_; (case hd => rfl); (case hg => rfl); (case hr => first | (go_simp; done) | (go_simp; rfl)); intro bl hbl w9 hx9 hy9; have hG9 := Aside0.mk (blk_below hG8.out hy9); have hBT9 := blk_below hBT8.out hy9; have hB9 := Aside0.mk (hB8.out.trans (hy9.mono hB8.out.size)); have hK9 := Aside0.mk (hK8.out.trans (KeepBut.of_below hy9 g none) (.inl rfl)); have hn9 := Aside0.mk (show g ≠ bl ∧ bt ≠ bl ∧ w0.heap.size ≤ bl ∧ w.heap.size ≤ bl by have h1 := blk_lt hG8.out; have h2 := blk_lt hBT8.out; have h3 := hB8.out.size; have h4 := hK8.out.1; omega); have c0_ := blk_cell hx9 0; have c1_ := blk_cell hx9 1; have d0_ := blk_frozen hx9 0; have d1_ := blk_frozen hx9 1; have hT9 := blk_far (p := ⟨bl, 1, none⟩) (blk_far (p := ⟨bl, 0, none⟩) hBT9 hn9.out.2.1 (.int .i64 a1)) hn9.out.2.1 (.int .i64 a2); have s3 := (blk_cell hT9 3).trans (rfl : _ = some (Value.slice A6 q1.f3.length c6)); clear hx9 hy9 hbl hBT9 hT9) | (go_at_call 36; (with_reducible refine (num_Add.calls a1 a2 n1 n2 _ hnx.out).mono ?_); rintro E w' ⟨rfl, hd⟩; obtain ⟨⟨m_, rfl⟩⟩ := hd))
                go_ret2
                rw [← h.out]
                exact ⟨rfl, blk_drewN (blk_far (p := ⟨bl, 1, none⟩) (blk_far (p := ⟨bl, 0, none⟩) hG9.out hn9.out.1 _) hn9.out.1 _) _, pw_below_drewN ((hB9.out.setCell (p := ⟨bl, 0, none⟩) hn9.out.2.2.1 _).setCell (p := ⟨bl, 1, none⟩) hn9.out.2.2.1 _) _, keep_drewN (keep_far (p := ⟨bl, 1, none⟩) (keep_far (p := ⟨bl, 0, none⟩) hK9.out hn9.out.2.2.2 _) hn9.out.2.2.2 _) _⟩
              · rw [if_neg hn0] at h
                have w1 : (n2 == 0) = false := beq_eq_false_iff_ne.mpr hn0
                have w2 : (n2 != 0) = true := bne_iff_ne.mpr hn0
                have h := Aside0.mk (Option.some.inj h)
                clear hn0
                have hq1 : ∀ W, (binOp BinOp.eql 41 Value.nilFunc Value.nilFunc).run Try.prog W = .ok (.bool true) W := fun W => by rfl
                have hq2 : ∀ f W, (binOp BinOp.eql 41 (.func (.func f) #[] #[]) Value.nilFunc).run Try.prog W = .ok (.bool false) W := fun f W => by rfl
                have hq3 : ∀ W, (binOp BinOp.eql 59 Value.nilFunc Value.nilFunc).run Try.prog W = .ok (.bool true) W := fun W => by rfl
                have hq4 : ∀ f W, (binOp BinOp.eql 59 (.func (.func f) #[] #[]) Value.nilFunc).run Try.prog W = .ok (.bool false) W := fun f W => by rfl
                go_enter Try.func24, Try.ntmps24
                go_wp2_with (first
                  | ((with_reducible refine gate_dst (N := 3) rfl ?_); refine box_event ?hg (N := 3) ?hd (cs := #[.int .i64 t.f0, .string t.f1, .int .i64 t.f2, .slice At t.f3.length ct]) (t := 25) ?hr ?_; (case hd => rfl); (case hg => rfl); (case hr => first | (go_simp; done) | (go_simp; rfl)); intro bt hbt w3 hx3 hy3;
                     have hgg3 := Aside0.mk (blk_below hgg.out hy3); have hBT3 := Aside0.mk hx3; have hBB3 := Aside0.mk (hBB.out.trans (hy3.mono hBB.out.size)); have hK3 := Aside0.mk (KeepBut.of_below hy3 g none); have hn3 := Aside0.mk (show w.heap.size ≤ bt ∧ bt ≠ g by omega); have g1 := (blk_cell hgg3.out 1).trans (rfl : _ = some (Value.int .i64 deep)); have b0 := (blk_cell hx3 0).trans (rfl : _ = some (Value.int .i64 t.f0)); have b1 := (blk_cell hx3 1).trans (rfl : _ = some (Value.string t.f1)); have b2 := (blk_cell hx3 2).trans (rfl : _ = some (Value.int .i64 t.f2)); have b3 := (blk_cell hx3 3).trans (rfl : _ = some (Value.slice At t.f3.length ct)); clear hx3 hy3 hbt)
                  | (go_at_call 27; (with_reducible refine (arith_Eval.visits k w0 _ g A0 c0 l0 hCC.out t At ct hAt.out.1 hAt.out.2 deep s hBB3.out hGG.out hgg3.out q1 0 q3 hq.out).mono ?_); rintro E w6 ⟨A6, c6, rfl, hC6, hl6, hG6, hB6, hK6⟩; have hC6 := Aside0.mk (And.intro hC6 hl6); clear hl6; have hBT6 := hK6.blk hBT3.out hn3.out.2 (by simp); have y0 := blk_cell hBT6 0; have y1 := blk_cell hBT6 1; have y2 := blk_cell hBT6 2; have y3 := blk_cell hBT6 3; have z0 := blk_frozen hBT6 0; have z1 := blk_frozen hBT6 1; have z2 := blk_frozen hBT6 2; have z3 := blk_frozen hBT6 3; have hBT6 := Aside0.mk hBT6; have hG6 := Aside0.mk hG6; have hB6 := Aside0.mk hB6; have hK6 := Aside0.mk (hK3.out.trans hK6 (.inl rfl))))
                go_quiet (first | (go_at_call 28; refine Calls.quiet_of_same (arith_Eval.binary _ _)) | (go_at_call 29; refine Calls.quiet_of_same (arith_Eval.unary _ _)))
                go_wp2_with (first | (go_at_call 30; (with_reducible refine (arith_Eval.args w0 _ g A0 c0 l0 _ ihA.out q1 A6 c6 hC6.out.1 hC6.out.2 nl.out deep q3 (by first | exact pw_below_drewN (arith_Eval.p4b hB6.out (Nat.le_trans hBB.out.size hn3.out.1)) _ | exact arith_Eval.p4b hB6.out (Nat.le_trans hBB.out.size hn3.out.1)) hGG.out (by first | exact blk_drewN (arith_Eval.p4f hG6.out hn3.out.2.symm) _ | exact arith_Eval.p4f hG6.out hn3.out.2.symm) (a1, a2, ae, ad, as_) ha.out).mono ?_); rintro E w8 ⟨rfl, hG8, hB8, hK8⟩; have hBT8 := hK8.blk (by first | exact blk_drewN (arith_Eval.p4s hBT6.out) _ | exact arith_Eval.p4s hBT6.out) hn3.out.2 (by simp); have u0 := blk_cell hBT8 0; have u1 := blk_cell hBT8 1; have u2 := blk_cell hBT8 2; have u3 := (blk_cell hBT8 3).trans (rfl : _ = some (Value.slice A6 q1.f3.length c6)); have hBT8 := Aside0.mk hBT8; have hG8 := Aside0.mk hG8; have hB8 := Aside0.mk hB8; have hK8 := Aside0.mk ((by first | exact keep_drewN (arith_Eval.p4k hK6.out hn3.out.1) _ | exact arith_Eval.p4k hK6.out hn3.out.1 : KeepBut w _ g none).trans hK8 (.inl rfl))) | ((with_reducible refine gate_dst (N := 8) rfl ?_); refine box_event ?hg (N := 8) ?hd (cs := #[.int .i64 0, .int .i64 0]) (t := 61) ?hr ?_; (case hd => rfl); (case hg => rfl); (case hr => first | (go_simp; done) | (go_simp; rfl)); intro bl hbl w9 hx9 hy9; have hG9 := Aside0.mk (blk_below hG8.out hy9); have hBT9 := blk_below hBT8.out hy9; have hB9 := Aside0.mk (hB8.out.trans (hy9.mono hB8.out.size)); have hK9 := Aside0.mk (hK8.out.trans (KeepBut.of_below hy9 g none) (.inl rfl)); have hn9 := Aside0.mk (show g ≠ bl ∧ bt ≠ bl ∧ w0.heap.size ≤ bl ∧ w.heap.size ≤ bl by have h1 := blk_lt hG8.out; have h2 := blk_lt hBT8.out; have h3 := hB8.out.size; have h4 := hK8.out.1; omega); have c0_ := blk_cell hx9 0; have c1_ := blk_cell hx9 1; have d0_ := blk_frozen hx9 0; have d1_ := blk_frozen hx9 1; have hT9 := blk_far (p := ⟨bl, 1, none⟩) (blk_far (p := ⟨bl, 0, none⟩) hBT9 hn9.out.2.1 (.int .i64 a1)) hn9.out.2.1 (.int .i64 a2); have s3 := (blk_cell hT9 3).trans (rfl : _ = some (Value.slice A6 q1.f3.length c6)); clear hx9 hy9 hbl hBT9 hT9) | (go_at_call 36; (with_reducible refine (num_Add.calls a1 a2 n1 n2 _ hnx.out).mono ?_); rintro E w' ⟨rfl, hd⟩; obtain ⟨⟨m_, rfl⟩⟩ := hd))
                go_ret2
                rw [← h.out]
                exact ⟨rfl, blk_drewN (blk_far (p := ⟨bl, 1, none⟩) (blk_far (p := ⟨bl, 0, none⟩) hG9.out hn9.out.1 _) hn9.out.1 _) _, pw_below_drewN ((hB9.out.setCell (p := ⟨bl, 0, none⟩) hn9.out.2.2.1 _).setCell (p := ⟨bl, 1, none⟩) hn9.out.2.2.1 _) _, keep_drewN (keep_far (p := ⟨bl, 1, none⟩) (keep_far (p := ⟨bl, 0, none⟩) hK9.out hn9.out.2.2.2 _) hn9.out.2.2.2 _) _⟩
            rw [if_neg cq0] at hn hf hfd
            by_cases cq1 : q1.f1.toList = ([45] : List UInt8)
            · rw [if_pos cq1] at hn hf hfd
              have hfv : arith_Eval.fv (arith_Eval.two q1.f1) = .func (.func 37) #[] #[] := hfd
              clear hf hfd cq1
              have hnx := Aside0.mk hn
              clear hn
              by_cases hn0 : n2 = 0
              · rw [if_pos hn0] at h
                have w1 : (n2 == 0) = true := beq_iff_eq.mpr hn0
                have w2 : (n2 != 0) = false := bne_eq_false_iff_eq.mpr hn0
                have h := Aside0.mk (Option.some.inj h)
                clear hn0
                have hq1 : ∀ W, (binOp BinOp.eql 41 Value.nilFunc Value.nilFunc).run Try.prog W = .ok (.bool true) W := fun W => by rfl
                have hq2 : ∀ f W, (binOp BinOp.eql 41 (.func (.func f) #[] #[]) Value.nilFunc).run Try.prog W = .ok (.bool false) W := fun f W => by rfl
                have hq3 : ∀ W, (binOp BinOp.eql 59 Value.nilFunc Value.nilFunc).run Try.prog W = .ok (.bool true) W := fun W => by rfl
                have hq4 : ∀ f W, (binOp BinOp.eql 59 (.func (.func f) #[] #[]) Value.nilFunc).run Try.prog W = .ok (.bool false) W := fun f W => by rfl
                go_enter Try.func24, Try.ntmps24
                go_wp2_with (first
                  | ((with_reducible refine gate_dst (N := 3) rfl ?_); refine box_event ?hg (N := 3) ?hd (cs := #[.int .i64 t.f0, .string t.f1, .int .i64 t.f2, .slice At t.f3.length ct]) (t := 25) ?hr ?_; (case hd => rfl); (case hg => rfl); (case hr => first | (go_simp; done) | (go_simp; rfl)); intro bt hbt w3 hx3 hy3;
                     have hgg3 := Aside0.mk (blk_below hgg.out hy3); have hBT3 := Aside0.mk hx3; have hBB3 := Aside0.mk (hBB.out.trans (hy3.mono hBB.out.size)); have hK3 := Aside0.mk (KeepBut.of_below hy3 g none); have hn3 := Aside0.mk (show w.heap.size ≤ bt ∧ bt ≠ g by omega); have g1 := (blk_cell hgg3.out 1).trans (rfl : _ = some (Value.int .i64 deep)); have b0 := (blk_cell hx3 0).trans (rfl : _ = some (Value.int .i64 t.f0)); have b1 := (blk_cell hx3 1).trans (rfl : _ = some (Value.string t.f1)); have b2 := (blk_cell hx3 2).trans (rfl : _ = some (Value.int .i64 t.f2)); have b3 := (blk_cell hx3 3).trans (rfl : _ = some (Value.slice At t.f3.length ct)); clear hx3 hy3 hbt)
                  | (go_at_call 27; (with_reducible refine (arith_Eval.visits k w0 _ g A0 c0 l0 hCC.out t At ct hAt.out.1 hAt.out.2 deep s hBB3.out hGG.out hgg3.out q1 0 q3 hq.out).mono ?_); rintro E w6 ⟨A6, c6, rfl, hC6, hl6, hG6, hB6, hK6⟩; have hC6 := Aside0.mk (And.intro hC6 hl6); clear hl6; have hBT6 := hK6.blk hBT3.out hn3.out.2 (by simp); have y0 := blk_cell hBT6 0; have y1 := blk_cell hBT6 1; have y2 := blk_cell hBT6 2; have y3 := blk_cell hBT6 3; have z0 := blk_frozen hBT6 0; have z1 := blk_frozen hBT6 1; have z2 := blk_frozen hBT6 2; have z3 := blk_frozen hBT6 3; have hBT6 := Aside0.mk hBT6; have hG6 := Aside0.mk hG6; have hB6 := Aside0.mk hB6; have hK6 := Aside0.mk (hK3.out.trans hK6 (.inl rfl))))
                go_quiet (first | (go_at_call 28; refine Calls.quiet_of_same (arith_Eval.binary _ _)) | (go_at_call 29; refine Calls.quiet_of_same (arith_Eval.unary _ _)))
                go_wp2_with (first | (go_at_call 30; (with_reducible refine (arith_Eval.args w0 _ g A0 c0 l0 _ ihA.out q1 A6 c6 hC6.out.1 hC6.out.2 nl.out deep q3 (by first | exact pw_below_drewN (arith_Eval.p4b hB6.out (Nat.le_trans hBB.out.size hn3.out.1)) _ | exact arith_Eval.p4b hB6.out (Nat.le_trans hBB.out.size hn3.out.1)) hGG.out (by first | exact blk_drewN (arith_Eval.p4f hG6.out hn3.out.2.symm) _ | exact arith_Eval.p4f hG6.out hn3.out.2.symm) (a1, a2, ae, ad, as_) ha.out).mono ?_); rintro E w8 ⟨rfl, hG8, hB8, hK8⟩; have hBT8 := hK8.blk (by first | exact blk_drewN (arith_Eval.p4s hBT6.out) _ | exact arith_Eval.p4s hBT6.out) hn3.out.2 (by simp); have u0 := blk_cell hBT8 0; have u1 := blk_cell hBT8 1; have u2 := blk_cell hBT8 2; have u3 := (blk_cell hBT8 3).trans (rfl : _ = some (Value.slice A6 q1.f3.length c6)); have hBT8 := Aside0.mk hBT8; have hG8 := Aside0.mk hG8; have hB8 := Aside0.mk hB8; have hK8 := Aside0.mk ((by first | exact keep_drewN (arith_Eval.p4k hK6.out hn3.out.1) _ | exact arith_Eval.p4k hK6.out hn3.out.1 : KeepBut w _ g none).trans hK8 (.inl rfl))) | ((with_reducible refine gate_dst (N := 8) rfl ?_); refine box_event ?hg (N := 8) ?hd (cs := #[.int .i64 0, .int .i64 0]) (t := 61) ?hr ?_; (case hd => rfl); (case hg => rfl); (case hr => first | (go_simp; done) | (go_simp; rfl)); intro bl hbl w9 hx9 hy9; have hG9 := Aside0.mk (blk_below hG8.out hy9); have hBT9 := blk_below hBT8.out hy9; have hB9 := Aside0.mk (hB8.out.trans (hy9.mono hB8.out.size)); have hK9 := Aside0.mk (hK8.out.trans (KeepBut.of_below hy9 g none) (.inl rfl)); have hn9 := Aside0.mk (show g ≠ bl ∧ bt ≠ bl ∧ w0.heap.size ≤ bl ∧ w.heap.size ≤ bl by have h1 := blk_lt hG8.out; have h2 := blk_lt hBT8.out; have h3 := hB8.out.size; have h4 := hK8.out.1; omega); have c0_ := blk_cell hx9 0; have c1_ := blk_cell hx9 1; have d0_ := blk_frozen hx9 0; have d1_ := blk_frozen hx9 1; have hT9 := blk_far (p := ⟨bl, 1, none⟩) (blk_far (p := ⟨bl, 0, none⟩) hBT9 hn9.out.2.1 (.int .i64 a1)) hn9.out.2.1 (.int .i64 a2); have s3 := (blk_cell hT9 3).trans (rfl : _ = some (Value.slice A6 q1.f3.length c6)); clear hx9 hy9 hbl hBT9 hT9) | (go_at_call 37; (with_reducible refine (num_Sub.calls a1 a2 n1 n2 _ hnx.out).mono ?_); rintro E w' ⟨rfl, hd⟩; obtain ⟨⟨m_, rfl⟩⟩ := hd))
                go_ret2
                rw [← h.out]
                exact ⟨rfl, blk_drewN (blk_far (p := ⟨bl, 1, none⟩) (blk_far (p := ⟨bl, 0, none⟩) hG9.out hn9.out.1 _) hn9.out.1 _) _, pw_below_drewN ((hB9.out.setCell (p := ⟨bl, 0, none⟩) hn9.out.2.2.1 _).setCell (p := ⟨bl, 1, none⟩) hn9.out.2.2.1 _) _, keep_drewN (keep_far (p := ⟨bl, 1, none⟩) (keep_far (p := ⟨bl, 0, none⟩) hK9.out hn9.out.2.2.2 _) hn9.out.2.2.2 _) _⟩
              · rw [if_neg hn0] at h
                have w1 : (n2 == 0) = false := beq_eq_false_iff_ne.mpr hn0
                have w2 : (n2 != 0) = true := bne_iff_ne.mpr hn0
                have h := Aside0.mk (Option.some.inj h)
                clear hn0
                have hq1 : ∀ W, (binOp BinOp.eql 41 Value.nilFunc Value.nilFunc).run Try.prog W = .ok (.bool true) W := fun W => by rfl
                have hq2 : ∀ f W, (binOp BinOp.eql 41 (.func (.func f) #[] #[]) Value.nilFunc).run Try.prog W = .ok (.bool false) W := fun f W => by rfl
                have hq3 : ∀ W, (binOp BinOp.eql 59 Value.nilFunc Value.nilFunc).run Try.prog W = .ok (.bool true) W := fun W => by rfl
                have hq4 : ∀ f W, (binOp BinOp.eql 59 (.func (.func f) #[] #[]) Value.nilFunc).run Try.prog W = .ok (.bool false) W := fun f W => by rfl
                go_enter Try.func24, Try.ntmps24
                go_wp2_with (first
                  | ((with_reducible refine gate_dst (N := 3) rfl ?_); refine box_event ?hg (N := 3) ?hd (cs := #[.int .i64 t.f0, .string t.f1, .int .i64 t.f2, .slice At t.f3.length ct]) (t := 25) ?hr ?_; (case hd => rfl); (case hg => rfl); (case hr => first | (go_simp; done) | (go_simp; rfl)); intro bt hbt w3 hx3 hy3;
                     have hgg3 := Aside0.mk (blk_below hgg.out hy3); have hBT3 := Aside0.mk hx3; have hBB3 := Aside0.mk (hBB.out.trans (hy3.mono hBB.out.size)); have hK3 := Aside0.mk (KeepBut.of_below hy3 g none); have hn3 := Aside0.mk (show w.heap.size ≤ bt ∧ bt ≠ g by omega); have g1 := (blk_cell hgg3.out 1).trans (rfl : _ = some (Value.int .i64 deep)); have b0 := (blk_cell hx3 0).trans (rfl : _ = some (Value.int .i64 t.f0)); have b1 := (blk_cell hx3 1).trans (rfl : _ = some (Value.string t.f1)); have b2 := (blk_cell hx3 2).trans (rfl : _ = some (Value.int .i64 t.f2)); have b3 := (blk_cell hx3 3).trans (rfl : _ = some (Value.slice At t.f3.length ct)); clear hx3 hy3 hbt)
                  | (go_at_call 27; (with_reducible refine (arith_Eval.visits k w0 _ g A0 c0 l0 hCC.out t At ct hAt.out.1 hAt.out.2 deep s hBB3.out hGG.out hgg3.out q1 0 q3 hq.out).mono ?_); rintro E w6 ⟨A6, c6, rfl, hC6, hl6, hG6, hB6, hK6⟩; have hC6 := Aside0.mk (And.intro hC6 hl6); clear hl6; have hBT6 := hK6.blk hBT3.out hn3.out.2 (by simp); have y0 := blk_cell hBT6 0; have y1 := blk_cell hBT6 1; have y2 := blk_cell hBT6 2; have y3 := blk_cell hBT6 3; have z0 := blk_frozen hBT6 0; have z1 := blk_frozen hBT6 1; have z2 := blk_frozen hBT6 2; have z3 := blk_frozen hBT6 3; have hBT6 := Aside0.mk hBT6; have hG6 := Aside0.mk hG6; have hB6 := Aside0.mk hB6; have hK6 := Aside0.mk (hK3.out.trans hK6 (.inl rfl))))
                go_quiet (first | (go_at_call 28; refine Calls.quiet_of_same (arith_Eval.binary _ _)) | (go_at_call 29; refine Calls.quiet_of_same (arith_Eval.unary _ _)))
                go_wp2_with (first | (go_at_call 30; (with_reducible refine (arith_Eval.args w0 _ g A0 c0 l0 _ ihA.out q1 A6 c6 hC6.out.1 hC6.out.2 nl.out deep q3 (by first | exact pw_below_drewN (arith_Eval.p4b hB6.out (Nat.le_trans hBB.out.size hn3.out.1)) _ | exact arith_Eval.p4b hB6.out (Nat.le_trans hBB.out.size hn3.out.1)) hGG.out (by first | exact blk_drewN (arith_Eval.p4f hG6.out hn3.out.2.symm) _ | exact arith_Eval.p4f hG6.out hn3.out.2.symm) (a1, a2, ae, ad, as_) ha.out).mono ?_); rintro E w8 ⟨rfl, hG8, hB8, hK8⟩; have hBT8 := hK8.blk (by first | exact blk_drewN (arith_Eval.p4s hBT6.out) _ | exact arith_Eval.p4s hBT6.out) hn3.out.2 (by simp); have u0 := blk_cell hBT8 0; have u1 := blk_cell hBT8 1; have u2 := blk_cell hBT8 2; have u3 := (blk_cell hBT8 3).trans (rfl : _ = some (Value.slice A6 q1.f3.length c6)); have hBT8 := Aside0.mk hBT8; have hG8 := Aside0.mk hG8; have hB8 := Aside0.mk hB8; have hK8 := Aside0.mk ((by first | exact keep_drewN (arith_Eval.p4k hK6.out hn3.out.1) _ | exact arith_Eval.p4k hK6.out hn3.out.1 : KeepBut w _ g none).trans hK8 (.inl rfl))) | ((with_reducible refine gate_dst (N := 8) rfl ?_); refine box_event ?hg (N := 8) ?hd (cs := #[.int .i64 0, .int .i64 0]) (t := 61) ?hr ?_; (case hd => rfl); (case hg => rfl); (case hr => first | (go_simp; done) | (go_simp; rfl)); intro bl hbl w9 hx9 hy9; have hG9 := Aside0.mk (blk_below hG8.out hy9); have hBT9 := blk_below hBT8.out hy9; have hB9 := Aside0.mk (hB8.out.trans (hy9.mono hB8.out.size)); have hK9 := Aside0.mk (hK8.out.trans (KeepBut.of_below hy9 g none) (.inl rfl)); have hn9 := Aside0.mk (show g ≠ bl ∧ bt ≠ bl ∧ w0.heap.size ≤ bl ∧ w.heap.size ≤ bl by have h1 := blk_lt hG8.out; have h2 := blk_lt hBT8.out; have h3 := hB8.out.size; have h4 := hK8.out.1; omega); have c0_ := blk_cell hx9 0; have c1_ := blk_cell hx9 1; have d0_ := blk_frozen hx9 0; have d1_ := blk_frozen hx9 1; have hT9 := blk_far (p := ⟨bl, 1, none⟩) (blk_far (p := ⟨bl, 0, none⟩) hBT9 hn9.out.2.1 (.int .i64 a1)) hn9.out.2.1 (.int .i64 a2); have s3 := (blk_cell hT9 3).trans (rfl : _ = some (Value.slice A6 q1.f3.length c6)); clear hx9 hy9 hbl hBT9 hT9) | (go_at_call 37; (with_reducible refine (num_Sub.calls a1 a2 n1 n2 _ hnx.out).mono ?_); rintro E w' ⟨rfl, hd⟩; obtain ⟨⟨m_, rfl⟩⟩ := hd))
                go_ret2
                rw [← h.out]
                exact ⟨rfl, blk_drewN (blk_far (p := ⟨bl, 1, none⟩) (blk_far (p := ⟨bl, 0, none⟩) hG9.out hn9.out.1 _) hn9.out.1 _) _, pw_below_drewN ((hB9.out.setCell (p := ⟨bl, 0, none⟩) hn9.out.2.2.1 _).setCell (p := ⟨bl, 1, none⟩) hn9.out.2.2.1 _) _, keep_drewN (keep_far (p := ⟨bl, 1, none⟩) (keep_far (p := ⟨bl, 0, none⟩) hK9.out hn9.out.2.2.2 _) hn9.out.2.2.2 _) _⟩
            rw [if_neg cq1] at hn hf hfd
            by_cases cq2 : q1.f1.toList = ([42] : List UInt8)
            · rw [if_pos cq2] at hn hf hfd
              have hfv : arith_Eval.fv (arith_Eval.two q1.f1) = .func (.func 38) #[] #[] := hfd
              clear hf hfd cq2
              have hnx := Aside0.mk hn
              clear hn
              by_cases hn0 : n2 = 0
              · rw [if_pos hn0] at h
                have w1 : (n2 == 0) = true := beq_iff_eq.mpr hn0
                have w2 : (n2 != 0) = false := bne_eq_false_iff_eq.mpr hn0
                have h := Aside0.mk (Option.some.inj h)
                clear hn0
                have hq1 : ∀ W, (binOp BinOp.eql 41 Value.nilFunc Value.nilFunc).run Try.prog W = .ok (.bool true) W := fun W => by rfl
                have hq2 : ∀ f W, (binOp BinOp.eql 41 (.func (.func f) #[] #[]) Value.nilFunc).run Try.prog W = .ok (.bool false) W := fun f W => by rfl
                have hq3 : ∀ W, (binOp BinOp.eql 59 Value.nilFunc Value.nilFunc).run Try.prog W = .ok (.bool true) W := fun W => by rfl
                have hq4 : ∀ f W, (binOp BinOp.eql 59 (.func (.func f) #[] #[]) Value.nilFunc).run Try.prog W = .ok (.bool false) W := fun f W => by rfl
                go_enter Try.func24, Try.ntmps24
                go_wp2_with (first
                  | ((with_reducible refine gate_dst (N := 3) rfl ?_); refine box_event ?hg (N := 3) ?hd (cs := #[.int .i64 t.f0, .string t.f1, .int .i64 t.f2, .slice At t.f3.length ct]) (t := 25) ?hr ?_; (case hd => rfl); (case hg => rfl); (case hr => first | (go_simp; done) | (go_simp; rfl)); intro bt hbt w3 hx3 hy3;
                     have hgg3 := Aside0.mk (blk_below hgg.out hy3); have hBT3 := Aside0.mk hx3; have hBB3 := Aside0.mk (hBB.out.trans (hy3.mono hBB.out.size)); have hK3 := Aside0.mk (KeepBut.of_below hy3 g none); have hn3 := Aside0.mk (show w.heap.size ≤ bt ∧ bt ≠ g by omega); have g1 := (blk_cell hgg3.out 1).trans (rfl : _ = some (Value.int .i64 deep)); have b0 := (blk_cell hx3 0).trans (rfl : _ = some (Value.int .i64 t.f0)); have b1 := (blk_cell hx3 1).trans (rfl : _ = some (Value.string t.f1)); have b2 := (blk_cell hx3 2).trans (rfl : _ = some (Value.int .i64 t.f2)); have b3 := (blk_cell hx3 3).trans (rfl : _ = some (Value.slice At t.f3.length ct)); clear hx3 hy3 hbt)
                  | (go_at_call 27; (with_reducible refine (arith_Eval.visits k w0 _ g A0 c0 l0 hCC.out t At ct hAt.out.1 hAt.out.2 deep s hBB3.out hGG.out hgg3.out q1 0 q3 hq.out).mono ?_); rintro E w6 ⟨A6, c6, rfl, hC6, hl6, hG6, hB6, hK6⟩; have hC6 := Aside0.mk (And.intro hC6 hl6); clear hl6; have hBT6 := hK6.blk hBT3.out hn3.out.2 (by simp); have y0 := blk_cell hBT6 0; have y1 := blk_cell hBT6 1; have y2 := blk_cell hBT6 2; have y3 := blk_cell hBT6 3; have z0 := blk_frozen hBT6 0; have z1 := blk_frozen hBT6 1; have z2 := blk_frozen hBT6 2; have z3 := blk_frozen hBT6 3; have hBT6 := Aside0.mk hBT6; have hG6 := Aside0.mk hG6; have hB6 := Aside0.mk hB6; have hK6 := Aside0.mk (hK3.out.trans hK6 (.inl rfl))))
                go_quiet (first | (go_at_call 28; refine Calls.quiet_of_same (arith_Eval.binary _ _)) | (go_at_call 29; refine Calls.quiet_of_same (arith_Eval.unary _ _)))
                go_wp2_with (first | (go_at_call 30; (with_reducible refine (arith_Eval.args w0 _ g A0 c0 l0 _ ihA.out q1 A6 c6 hC6.out.1 hC6.out.2 nl.out deep q3 (by first | exact pw_below_drewN (arith_Eval.p4b hB6.out (Nat.le_trans hBB.out.size hn3.out.1)) _ | exact arith_Eval.p4b hB6.out (Nat.le_trans hBB.out.size hn3.out.1)) hGG.out (by first | exact blk_drewN (arith_Eval.p4f hG6.out hn3.out.2.symm) _ | exact arith_Eval.p4f hG6.out hn3.out.2.symm) (a1, a2, ae, ad, as_) ha.out).mono ?_); rintro E w8 ⟨rfl, hG8, hB8, hK8⟩; have hBT8 := hK8.blk (by first | exact blk_drewN (arith_Eval.p4s hBT6.out) _ | exact arith_Eval.p4s hBT6.out) hn3.out.2 (by simp); have u0 := blk_cell hBT8 0; have u1 := blk_cell hBT8 1; have u2 := blk_cell hBT8 2; have u3 := (blk_cell hBT8 3).trans (rfl : _ = some (Value.slice A6 q1.f3.length c6)); have hBT8 := Aside0.mk hBT8; have hG8 := Aside0.mk hG8; have hB8 := Aside0.mk hB8; have hK8 := Aside0.mk ((by first | exact keep_drewN (arith_Eval.p4k hK6.out hn3.out.1) _ | exact arith_Eval.p4k hK6.out hn3.out.1 : KeepBut w _ g none).trans hK8 (.inl rfl))) | ((with_reducible refine gate_dst (N := 8) rfl ?_); refine box_event ?hg (N := 8) ?hd (cs := #[.int .i64 0, .int .i64 0]) (t := 61) ?hr ?_; (case hd => rfl); (case hg => rfl); (case hr => first | (go_simp; done) | (go_simp; rfl)); intro bl hbl w9 hx9 hy9; have hG9 := Aside0.mk (blk_below hG8.out hy9); have hBT9 := blk_below hBT8.out hy9; have hB9 := Aside0.mk (hB8.out.trans (hy9.mono hB8.out.size)); have hK9 := Aside0.mk (hK8.out.trans (KeepBut.of_below hy9 g none) (.inl rfl)); have hn9 := Aside0.mk (show g ≠ bl ∧ bt ≠ bl ∧ w0.heap.size ≤ bl ∧ w.heap.size ≤ bl by have h1 := blk_lt hG8.out; have h2 := blk_lt hBT8.out; have h3 := hB8.out.size; have h4 := hK8.out.1; omega); have c0_ := blk_cell hx9 0; have c1_ := blk_cell hx9 1; have d0_ := blk_frozen hx9 0; have d1_ := blk_frozen hx9 1; have hT9 := blk_far (p := ⟨bl, 1, none⟩) (blk_far (p := ⟨bl, 0, none⟩) hBT9 hn9.out.2.1 (.int .i64 a1)) hn9.out.2.1 (.int .i64 a2); have s3 := (blk_cell hT9 3).trans (rfl : _ = some (Value.slice A6 q1.f3.length c6)); clear hx9 hy9 hbl hBT9 hT9) | (go_at_call 38; (with_reducible refine (num_Mul.calls a1 a2 n1 n2 _ hnx.out).mono ?_); rintro E w' ⟨rfl, hd⟩; obtain ⟨⟨m_, rfl⟩⟩ := hd))
                go_ret2
                rw [← h.out]
                exact ⟨rfl, blk_drewN (blk_far (p := ⟨bl, 1, none⟩) (blk_far (p := ⟨bl, 0, none⟩) hG9.out hn9.out.1 _) hn9.out.1 _) _, pw_below_drewN ((hB9.out.setCell (p := ⟨bl, 0, none⟩) hn9.out.2.2.1 _).setCell (p := ⟨bl, 1, none⟩) hn9.out.2.2.1 _) _, keep_drewN (keep_far (p := ⟨bl, 1, none⟩) (keep_far (p := ⟨bl, 0, none⟩) hK9.out hn9.out.2.2.2 _) hn9.out.2.2.2 _) _⟩
              · rw [if_neg hn0] at h
                have w1 : (n2 == 0) = false := beq_eq_false_iff_ne.mpr hn0
                have w2 : (n2 != 0) = true := bne_iff_ne.mpr hn0
                have h := Aside0.mk (Option.some.inj h)
                clear hn0
                have hq1 : ∀ W, (binOp BinOp.eql 41 Value.nilFunc Value.nilFunc).run Try.prog W = .ok (.bool true) W := fun W => by rfl
                have hq2 : ∀ f W, (binOp BinOp.eql 41 (.func (.func f) #[] #[]) Value.nilFunc).run Try.prog W = .ok (.bool false) W := fun f W => by rfl
                have hq3 : ∀ W, (binOp BinOp.eql 59 Value.nilFunc Value.nilFunc).run Try.prog W = .ok (.bool true) W := fun W => by rfl
                have hq4 : ∀ f W, (binOp BinOp.eql 59 (.func (.func f) #[] #[]) Value.nilFunc).run Try.prog W = .ok (.bool false) W := fun f W => by rfl
                go_enter Try.func24, Try.ntmps24
                go_wp2_with (first
                  | ((with_reducible refine gate_dst (N := 3) rfl ?_); refine box_event ?hg (N := 3) ?hd (cs := #[.int .i64 t.f0, .string t.f1, .int .i64 t.f2, .slice At t.f3.length ct]) (t := 25) ?hr ?_; (case hd => rfl); (case hg => rfl); (case hr => first | (go_simp; done) | (go_simp; rfl)); intro bt hbt w3 hx3 hy3;
                     have hgg3 := Aside0.mk (blk_below hgg.out hy3); have hBT3 := Aside0.mk hx3; have hBB3 := Aside0.mk (hBB.out.trans (hy3.mono hBB.out.size)); have hK3 := Aside0.mk (KeepBut.of_below hy3 g none); have hn3 := Aside0.mk (show w.heap.size ≤ bt ∧ bt ≠ g by omega); have g1 := (blk_cell hgg3.out 1).trans (rfl : _ = some (Value.int .i64 deep)); have b0 := (blk_cell hx3 0).trans (rfl : _ = some (Value.int .i64 t.f0)); have b1 := (blk_cell hx3 1).trans (rfl : _ = some (Value.string t.f1)); have b2 := (blk_cell hx3 2).trans (rfl : _ = some (Value.int .i64 t.f2)); have b3 := (blk_cell hx3 3).trans (rfl : _ = some (Value.slice At t.f3.length ct)); clear hx3 hy3 hbt)
                  | (go_at_call 27; (with_reducible refine (arith_Eval.visits k w0 _ g A0 c0 l0 hCC.out t At ct hAt.out.1 hAt.out.2 deep s hBB3.out hGG.out hgg3.out q1 0 q3 hq.out).mono ?_); rintro E w6 ⟨A6, c6, rfl, hC6, hl6, hG6, hB6, hK6⟩; have hC6 := Aside0.mk (And.intro hC6 hl6); clear hl6; have hBT6 := hK6.blk hBT3.out hn3.out.2 (by simp); have y0 := blk_cell hBT6 0; have y1 := blk_cell hBT6 1; have y2 := blk_cell hBT6 2; have y3 := blk_cell hBT6 3; have z0 := blk_frozen hBT6 0; have z1 := blk_frozen hBT6 1; have z2 := blk_frozen hBT6 2; have z3 := blk_frozen hBT6 3; have hBT6 := Aside0.mk hBT6; have hG6 := Aside0.mk hG6; have hB6 := Aside0.mk hB6; have hK6 := Aside0.mk (hK3.out.trans hK6 (.inl rfl))))
                go_quiet (first | (go_at_call 28; refine Calls.quiet_of_same (arith_Eval.binary _ _)) | (go_at_call 29; refine Calls.quiet_of_same (arith_Eval.unary _ _)))
                go_wp2_with (first | (go_at_call 30; (with_reducible refine (arith_Eval.args w0 _ g A0 c0 l0 _ ihA.out q1 A6 c6 hC6.out.1 hC6.out.2 nl.out deep q3 (by first | exact pw_below_drewN (arith_Eval.p4b hB6.out (Nat.le_trans hBB.out.size hn3.out.1)) _ | exact arith_Eval.p4b hB6.out (Nat.le_trans hBB.out.size hn3.out.1)) hGG.out (by first | exact blk_drewN (arith_Eval.p4f hG6.out hn3.out.2.symm) _ | exact arith_Eval.p4f hG6.out hn3.out.2.symm) (a1, a2, ae, ad, as_) ha.out).mono ?_); rintro E w8 ⟨rfl, hG8, hB8, hK8⟩; have hBT8 := hK8.blk (by first | exact blk_drewN (arith_Eval.p4s hBT6.out) _ | exact arith_Eval.p4s hBT6.out) hn3.out.2 (by simp); have u0 := blk_cell hBT8 0; have u1 := blk_cell hBT8 1; have u2 := blk_cell hBT8 2; have u3 := (blk_cell hBT8 3).trans (rfl : _ = some (Value.slice A6 q1.f3.length c6)); have hBT8 := Aside0.mk hBT8; have hG8 := Aside0.mk hG8; have hB8 := Aside0.mk hB8; have hK8 := Aside0.mk ((by first | exact keep_drewN (arith_Eval.p4k hK6.out hn3.out.1) _ | exact arith_Eval.p4k hK6.out hn3.out.1 : KeepBut w _ g none).trans hK8 (.inl rfl))) | ((with_reducible refine gate_dst (N := 8) rfl ?_); refine box_event ?hg (N := 8) ?hd (cs := #[.int .i64 0, .int .i64 0]) (t := 61) ?hr ?_; (case hd => rfl); (case hg => rfl); (case hr => first | (go_simp; done) | (go_simp; rfl)); intro bl hbl w9 hx9 hy9; have hG9 := Aside0.mk (blk_below hG8.out hy9); have hBT9 := blk_below hBT8.out hy9; have hB9 := Aside0.mk (hB8.out.trans (hy9.mono hB8.out.size)); have hK9 := Aside0.mk (hK8.out.trans (KeepBut.of_below hy9 g none) (.inl rfl)); have hn9 := Aside0.mk (show g ≠ bl ∧ bt ≠ bl ∧ w0.heap.size ≤ bl ∧ w.heap.size ≤ bl by have h1 := blk_lt hG8.out; have h2 := blk_lt hBT8.out; have h3 := hB8.out.size; have h4 := hK8.out.1; omega); have c0_ := blk_cell hx9 0; have c1_ := blk_cell hx9 1; have d0_ := blk_frozen hx9 0; have d1_ := blk_frozen hx9 1; have hT9 := blk_far (p := ⟨bl, 1, none⟩) (blk_far (p := ⟨bl, 0, none⟩) hBT9 hn9.out.2.1 (.int .i64 a1)) hn9.out.2.1 (.int .i64 a2); have s3 := (blk_cell hT9 3).trans (rfl : _ = some (Value.slice A6 q1.f3.length c6)); clear hx9 hy9 hbl hBT9 hT9) | (go_at_call 38; (with_reducible refine (num_Mul.calls a1 a2 n1 n2 _ hnx.out).mono ?_); rintro E w' ⟨rfl, hd⟩; obtain ⟨⟨m_, rfl⟩⟩ := hd))
                go_ret2
                rw [← h.out]
                exact ⟨rfl, blk_drewN (blk_far (p := ⟨bl, 1, none⟩) (blk_far (p := ⟨bl, 0, none⟩) hG9.out hn9.out.1 _) hn9.out.1 _) _, pw_below_drewN ((hB9.out.setCell (p := ⟨bl, 0, none⟩) hn9.out.2.2.1 _).setCell (p := ⟨bl, 1, none⟩) hn9.out.2.2.1 _) _, keep_drewN (keep_far (p := ⟨bl, 1, none⟩) (keep_far (p := ⟨bl, 0, none⟩) hK9.out hn9.out.2.2.2 _) hn9.out.2.2.2 _) _⟩
            rw [if_neg cq2] at hn hf hfd
            by_cases cq3 : q1.f1.toList = ([47, 47] : List UInt8)
            · rw [if_pos cq3] at hn hf hfd
              have hfv : arith_Eval.fv (arith_Eval.two q1.f1) = .func (.func 39) #[] #[] := hfd
              clear hf hfd cq3
              have hnx := Aside0.mk hn
              clear hn
              by_cases hn0 : n2 = 0
              · rw [if_pos hn0] at h
                have w1 : (n2 == 0) = true := beq_iff_eq.mpr hn0
                have w2 : (n2 != 0) = false := bne_eq_false_iff_eq.mpr hn0
                have h := Aside0.mk (Option.some.inj h)
                clear hn0
                have hq1 : ∀ W, (binOp BinOp.eql 41 Value.nilFunc Value.nilFunc).run Try.prog W = .ok (.bool true) W := fun W => by rfl
                have hq2 : ∀ f W, (binOp BinOp.eql 41 (.func (.func f) #[] #[]) Value.nilFunc).run Try.prog W = .ok (.bool false) W := fun f W => by rfl
                have hq3 : ∀ W, (binOp BinOp.eql 59 Value.nilFunc Value.nilFunc).run Try.prog W = .ok (.bool true) W := fun W => by rfl
                have hq4 : ∀ f W, (binOp BinOp.eql 59 (.func (.func f) #[] #[]) Value.nilFunc).run Try.prog W = .ok (.bool false) W := fun f W => by rfl
                go_enter Try.func24, Try.ntmps24
                go_wp2_with (first
                  | ((with_reducible refine gate_dst (N := 3) rfl ?_); refine box_event ?hg (N := 3) ?hd (cs := #[.int .i64 t.f0, .string t.f1, .int .i64 t.f2, .slice At t.f3.length ct]) (t := 25) ?hr ?_; (case hd => rfl); (case hg => rfl); (case hr => first | (go_simp; done) | (go_simp; rfl)); intro bt hbt w3 hx3 hy3;
                     have hgg3 := Aside0.mk (blk_below hgg.out hy3); have hBT3 := Aside0.mk hx3; have hBB3 := Aside0.mk (hBB.out.trans (hy3.mono hBB.out.size)); have hK3 := Aside0.mk (KeepBut.of_below hy3 g none); have hn3 := Aside0.mk (show w.heap.size ≤ bt ∧ bt ≠ g by omega); have g1 := (blk_cell hgg3.out 1).trans (rfl : _ = some (Value.int .i64 deep)); have b0 := (blk_cell hx3 0).trans (rfl : _ = some (Value.int .i64 t.f0)); have b1 := (blk_cell hx3 1).trans (rfl : _ = some (Value.string t.f1)); have b2 := (blk_cell hx3 2).trans (rfl : _ = some (Value.int .i64 t.f2)); have b3 := (blk_cell hx3 3).trans (rfl : _ = some (Value.slice At t.f3.length ct)); clear hx3 hy3 hbt)
                  | (go_at_call 27; (with_reducible refine (arith_Eval.visits k w0 _ g A0 c0 l0 hCC.out t At ct hAt.out.1 hAt.out.2 deep s hBB3.out hGG.out hgg3.out q1 0 q3 hq.out).mono ?_); rintro E w6 ⟨A6, c6, rfl, hC6, hl6, hG6, hB6, hK6⟩; have hC6 := Aside0.mk (And.intro hC6 hl6); clear hl6; have hBT6 := hK6.blk hBT3.out hn3.out.2 (by simp); have y0 := blk_cell hBT6 0; have y1 := blk_cell hBT6 1; have y2 := blk_cell hBT6 2; have y3 := blk_cell hBT6 3; have z0 := blk_frozen hBT6 0; have z1 := blk_frozen hBT6 1; have z2 := blk_frozen hBT6 2; have z3 := blk_frozen hBT6 3; have hBT6 := Aside0.mk hBT6; have hG6 := Aside0.mk hG6; have hB6 := Aside0.mk hB6; have hK6 := Aside0.mk (hK3.out.trans hK6 (.inl rfl))))
                go_quiet (first | (go_at_call 28; refine Calls.quiet_of_same (arith_Eval.binary _ _)) | (go_at_call 29; refine Calls.quiet_of_same (arith_Eval.unary _ _)))
                go_wp2_with (first | (go_at_call 30; (with_reducible refine (arith_Eval.args w0 _ g A0 c0 l0 _ ihA.out q1 A6 c6 hC6.out.1 hC6.out.2 nl.out deep q3 (by first | exact pw_below_drewN (arith_Eval.p4b hB6.out (Nat.le_trans hBB.out.size hn3.out.1)) _ | exact arith_Eval.p4b hB6.out (Nat.le_trans hBB.out.size hn3.out.1)) hGG.out (by first | exact blk_drewN (arith_Eval.p4f hG6.out hn3.out.2.symm) _ | exact arith_Eval.p4f hG6.out hn3.out.2.symm) (a1, a2, ae, ad, as_) ha.out).mono ?_); rintro E w8 ⟨rfl, hG8, hB8, hK8⟩; have hBT8 := hK8.blk (by first | exact blk_drewN (arith_Eval.p4s hBT6.out) _ | exact arith_Eval.p4s hBT6.out) hn3.out.2 (by simp); have u0 := blk_cell hBT8 0; have u1 := blk_cell hBT8 1; have u2 := blk_cell hBT8 2; have u3 := (blk_cell hBT8 3).trans (rfl : _ = some (Value.slice A6 q1.f3.length c6)); have hBT8 := Aside0.mk hBT8; have hG8 := Aside0.mk hG8; have hB8 := Aside0.mk hB8; have hK8 := Aside0.mk ((by first | exact keep_drewN (arith_Eval.p4k hK6.out hn3.out.1) _ | exact arith_Eval.p4k hK6.out hn3.out.1 : KeepBut w _ g none).trans hK8 (.inl rfl))) | ((with_reducible refine gate_dst (N := 8) rfl ?_); refine box_event ?hg (N := 8) ?hd (cs := #[.int .i64 0, .int .i64 0]) (t := 61) ?hr ?_; (case hd => rfl); (case hg => rfl); (case hr => first | (go_simp; done) | (go_simp; rfl)); intro bl hbl w9 hx9 hy9; have hG9 := Aside0.mk (blk_below hG8.out hy9); have hBT9 := blk_below hBT8.out hy9; have hB9 := Aside0.mk (hB8.out.trans (hy9.mono hB8.out.size)); have hK9 := Aside0.mk (hK8.out.trans (KeepBut.of_below hy9 g none) (.inl rfl)); have hn9 := Aside0.mk (show g ≠ bl ∧ bt ≠ bl ∧ w0.heap.size ≤ bl ∧ w.heap.size ≤ bl by have h1 := blk_lt hG8.out; have h2 := blk_lt hBT8.out; have h3 := hB8.out.size; have h4 := hK8.out.1; omega); have c0_ := blk_cell hx9 0; have c1_ := blk_cell hx9 1; have d0_ := blk_frozen hx9 0; have d1_ := blk_frozen hx9 1; have hT9 := blk_far (p := ⟨bl, 1, none⟩) (blk_far (p := ⟨bl, 0, none⟩) hBT9 hn9.out.2.1 (.int .i64 a1)) hn9.out.2.1 (.int .i64 a2); have s3 := (blk_cell hT9 3).trans (rfl : _ = some (Value.slice A6 q1.f3.length c6)); clear hx9 hy9 hbl hBT9 hT9) | (go_at_call 39; (with_reducible refine (num_Quo.calls a1 a2 n1 n2 _ hnx.out).mono ?_); rintro E w' ⟨rfl, hd⟩; obtain ⟨⟨m_, rfl⟩⟩ := hd))
                go_ret2
                rw [← h.out]
                exact ⟨rfl, blk_drewN (blk_far (p := ⟨bl, 1, none⟩) (blk_far (p := ⟨bl, 0, none⟩) hG9.out hn9.out.1 _) hn9.out.1 _) _, pw_below_drewN ((hB9.out.setCell (p := ⟨bl, 0, none⟩) hn9.out.2.2.1 _).setCell (p := ⟨bl, 1, none⟩) hn9.out.2.2.1 _) _, keep_drewN (keep_far (p := ⟨bl, 1, none⟩) (keep_far (p := ⟨bl, 0, none⟩) hK9.out hn9.out.2.2.2 _) hn9.out.2.2.2 _) _⟩
              · rw [if_neg hn0] at h
                have w1 : (n2 == 0) = false := beq_eq_false_iff_ne.mpr hn0
                have w2 : (n2 != 0) = true := bne_iff_ne.mpr hn0
                have h := Aside0.mk (Option.some.inj h)
                clear hn0
                have hq1 : ∀ W, (binOp BinOp.eql 41 Value.nilFunc Value.nilFunc).run Try.prog W = .ok (.bool true) W := fun W => by rfl
                have hq2 : ∀ f W, (binOp BinOp.eql 41 (.func (.func f) #[] #[]) Value.nilFunc).run Try.prog W = .ok (.bool false) W := fun f W => by rfl
                have hq3 : ∀ W, (binOp BinOp.eql 59 Value.nilFunc Value.nilFunc).run Try.prog W = .ok (.bool true) W := fun W => by rfl
                have hq4 : ∀ f W, (binOp BinOp.eql 59 (.func (.func f) #[] #[]) Value.nilFunc).run Try.prog W = .ok (.bool false) W := fun f W => by rfl
                go_enter Try.func24, Try.ntmps24
                go_wp2_with (first
                  | ((with_reducible refine gate_dst (N := 3) rfl ?_); refine box_event ?hg (N := 3) ?hd (cs := #[.int .i64 t.f0, .string t.f1, .int .i64 t.f2, .slice At t.f3.length ct]) (t := 25) ?hr ?_; (case hd => rfl); (case hg => rfl); (case hr => first | (go_simp; done) | (go_simp; rfl)); intro bt hbt w3 hx3 hy3;
                     have hgg3 := Aside0.mk (blk_below hgg.out hy3); have hBT3 := Aside0.mk hx3; have hBB3 := Aside0.mk (hBB.out.trans (hy3.mono hBB.out.size)); have hK3 := Aside0.mk (KeepBut.of_below hy3 g none); have hn3 := Aside0.mk (show w.heap.size ≤ bt ∧ bt ≠ g by omega); have g1 := (blk_cell hgg3.out 1).trans (rfl : _ = some (Value.int .i64 deep)); have b0 := (blk_cell hx3 0).trans (rfl : _ = some (Value.int .i64 t.f0)); have b1 := (blk_cell hx3 1).trans (rfl : _ = some (Value.string t.f1)); have b2 := (blk_cell hx3 2).trans (rfl : _ = some (Value.int .i64 t.f2)); have b3 := (blk_cell hx3 3).trans (rfl : _ = some (Value.slice At t.f3.length ct)); clear hx3 hy3 hbt)
                  | (go_at_call 27; (with_reducible refine (arith_Eval.visits k w0 _ g A0 c0 l0 hCC.out t At ct hAt.out.1 hAt.out.2 deep s hBB3.out hGG.out hgg3.out q1 0 q3 hq.out).mono ?_); rintro E w6 ⟨A6, c6, rfl, hC6, hl6, hG6, hB6, hK6⟩; have hC6 := Aside0.mk (And.intro hC6 hl6); clear hl6; have hBT6 := hK6.blk hBT3.out hn3.out.2 (by simp); have y0 := blk_cell hBT6 0; have y1 := blk_cell hBT6 1; have y2 := blk_cell hBT6 2; have y3 := blk_cell hBT6 3; have z0 := blk_frozen hBT6 0; have z1 := blk_frozen hBT6 1; have z2 := blk_frozen hBT6 2; have z3 := blk_frozen hBT6 3; have hBT6 := Aside0.mk hBT6; have hG6 := Aside0.mk hG6; have hB6 := Aside0.mk hB6; have hK6 := Aside0.mk (hK3.out.trans hK6 (.inl rfl))))
                go_quiet (first | (go_at_call 28; refine Calls.quiet_of_same (arith_Eval.binary _ _)) | (go_at_call 29; refine Calls.quiet_of_same (arith_Eval.unary _ _)))
                go_wp2_with (first | (go_at_call 30; (with_reducible refine (arith_Eval.args w0 _ g A0 c0 l0 _ ihA.out q1 A6 c6 hC6.out.1 hC6.out.2 nl.out deep q3 (by first | exact pw_below_drewN (arith_Eval.p4b hB6.out (Nat.le_trans hBB.out.size hn3.out.1)) _ | exact arith_Eval.p4b hB6.out (Nat.le_trans hBB.out.size hn3.out.1)) hGG.out (by first | exact blk_drewN (arith_Eval.p4f hG6.out hn3.out.2.symm) _ | exact arith_Eval.p4f hG6.out hn3.out.2.symm) (a1, a2, ae, ad, as_) ha.out).mono ?_); rintro E w8 ⟨rfl, hG8, hB8, hK8⟩; have hBT8 := hK8.blk (by first | exact blk_drewN (arith_Eval.p4s hBT6.out) _ | exact arith_Eval.p4s hBT6.out) hn3.out.2 (by simp); have u0 := blk_cell hBT8 0; have u1 := blk_cell hBT8 1; have u2 := blk_cell hBT8 2; have u3 := (blk_cell hBT8 3).trans (rfl : _ = some (Value.slice A6 q1.f3.length c6)); have hBT8 := Aside0.mk hBT8; have hG8 := Aside0.mk hG8; have hB8 := Aside0.mk hB8; have hK8 := Aside0.mk ((by first | exact keep_drewN (arith_Eval.p4k hK6.out hn3.out.1) _ | exact arith_Eval.p4k hK6.out hn3.out.1 : KeepBut w _ g none).trans hK8 (.inl rfl))) | ((with_reducible refine gate_dst (N := 8) rfl ?_); refine box_event ?hg (N := 8) ?hd (cs := #[.int .i64 0, .int .i64 0]) (t := 61) ?hr ?_; (case hd => rfl); (case hg => rfl); (case hr => first | (go_simp; done) | (go_simp; rfl)); intro bl hbl w9 hx9 hy9; have hG9 := Aside0.mk (blk_below hG8.out hy9); have hBT9 := blk_below hBT8.out hy9; have hB9 := Aside0.mk (hB8.out.trans (hy9.mono hB8.out.size)); have hK9 := Aside0.mk (hK8.out.trans (KeepBut.of_below hy9 g none) (.inl rfl)); have hn9 := Aside0.mk (show g ≠ bl ∧ bt ≠ bl ∧ w0.heap.size ≤ bl ∧ w.heap.size ≤ bl by have h1 := blk_lt hG8.out; have h2 := blk_lt hBT8.out; have h3 := hB8.out.size; have h4 := hK8.out.1; omega); have c0_ := blk_cell hx9 0; have c1_ := blk_cell hx9 1; have d0_ := blk_frozen hx9 0; have d1_ := blk_frozen hx9 1; have hT9 := blk_far (p := ⟨bl, 1, none⟩) (blk_far (p := ⟨bl, 0, none⟩) hBT9 hn9.out.2.1 (.int .i64 a1)) hn9.out.2.1 (.int .i64 a2); have s3 := (blk_cell hT9 3).trans (rfl : _ = some (Value.slice A6 q1.f3.length c6)); clear hx9 hy9 hbl hBT9 hT9) | (go_at_call 39; (with_reducible refine (num_Quo.calls a1 a2 n1 n2 _ hnx.out).mono ?_); rintro E w' ⟨rfl, hd⟩; obtain ⟨⟨m_, rfl⟩⟩ := hd))
                go_ret2
                rw [← h.out]
                exact ⟨rfl, blk_drewN (blk_far (p := ⟨bl, 1, none⟩) (blk_far (p := ⟨bl, 0, none⟩) hG9.out hn9.out.1 _) hn9.out.1 _) _, pw_below_drewN ((hB9.out.setCell (p := ⟨bl, 0, none⟩) hn9.out.2.2.1 _).setCell (p := ⟨bl, 1, none⟩) hn9.out.2.2.1 _) _, keep_drewN (keep_far (p := ⟨bl, 1, none⟩) (keep_far (p := ⟨bl, 0, none⟩) hK9.out hn9.out.2.2.2 _) hn9.out.2.2.2 _) _⟩
            rw [if_neg cq3] at hn hf hfd
            by_cases cq4 : q1.f1.toList = ([114, 101, 109] : List UInt8)
            · rw [if_pos cq4] at hn hf hfd
              have hfv : arith_Eval.fv (arith_Eval.two q1.f1) = .func (.func 40) #[] #[] := hfd
              clear hf hfd cq4
              have hnx := Aside0.mk hn
              clear hn
              by_cases hn0 : n2 = 0
              · rw [if_pos hn0] at h
                have w1 : (n2 == 0) = true := beq_iff_eq.mpr hn0
                have w2 : (n2 != 0) = false := bne_eq_false_iff_eq.mpr hn0
                have h := Aside0.mk (Option.some.inj h)
                clear hn0
                have hq1 : ∀ W, (binOp BinOp.eql 41 Value.nilFunc Value.nilFunc).run Try.prog W = .ok (.bool true) W := fun W => by rfl
                have hq2 : ∀ f W, (binOp BinOp.eql 41 (.func (.func f) #[] #[]) Value.nilFunc).run Try.prog W = .ok (.bool false) W := fun f W => by rfl
                have hq3 : ∀ W, (binOp BinOp.eql 59 Value.nilFunc Value.nilFunc).run Try.prog W = .ok (.bool true) W := fun W => by rfl
                have hq4 : ∀ f W, (binOp BinOp.eql 59 (.func (.func f) #[] #[]) Value.nilFunc).run Try.prog W = .ok (.bool false) W := fun f W => by rfl
                go_enter Try.func24, Try.ntmps24
                go_wp2_with (first
                  | ((with_reducible refine gate_dst (N := 3) rfl ?_); refine box_event ?hg (N := 3) ?hd (cs := #[.int .i64 t.f0, .string t.f1, .int .i64 t.f2, .slice At t.f3.length ct]) (t := 25) ?hr ?_; (case hd => rfl); (case hg => rfl); (case hr => first | (go_simp; done) | (go_simp; rfl)); intro bt hbt w3 hx3 hy3;
                     have hgg3 := Aside0.mk (blk_below hgg.out hy3); have hBT3 := Aside0.mk hx3; have hBB3 := Aside0.mk (hBB.out.trans (hy3.mono hBB.out.size)); have hK3 := Aside0.mk (KeepBut.of_below hy3 g none); have hn3 := Aside0.mk (show w.heap.size ≤ bt ∧ bt ≠ g by omega); have g1 := (blk_cell hgg3.out 1).trans (rfl : _ = some (Value.int .i64 deep)); have b0 := (blk_cell hx3 0).trans (rfl : _ = some (Value.int .i64 t.f0)); have b1 := (blk_cell hx3 1).trans (rfl : _ = some (Value.string t.f1)); have b2 := (blk_cell hx3 2).trans (rfl : _ = some (Value.int .i64 t.f2)); have b3 := (blk_cell hx3 3).trans (rfl : _ = some (Value.slice At t.f3.length ct)); clear hx3 hy3 hbt)
                  | (go_at_call 27; (with_reducible refine (arith_Eval.visits k w0 _ g A0 c0 l0 hCC.out t At ct hAt.out.1 hAt.out.2 deep s hBB3.out hGG.out hgg3.out q1 0 q3 hq.out).mono ?_); rintro E w6 ⟨A6, c6, rfl, hC6, hl6, hG6, hB6, hK6⟩; have hC6 := Aside0.mk (And.intro hC6 hl6); clear hl6; have hBT6 := hK6.blk hBT3.out hn3.out.2 (by simp); have y0 := blk_cell hBT6 0; have y1 := blk_cell hBT6 1; have y2 := blk_cell hBT6 2; have y3 := blk_cell hBT6 3; have z0 := blk_frozen hBT6 0; have z1 := blk_frozen hBT6 1; have z2 := blk_frozen hBT6 2; have z3 := blk_frozen hBT6 3; have hBT6 := Aside0.mk hBT6; have hG6 := Aside0.mk hG6; have hB6 := Aside0.mk hB6; have hK6 := Aside0.mk (hK3.out.trans hK6 (.inl rfl))))
                go_quiet (first | (go_at_call 28; refine Calls.quiet_of_same (arith_Eval.binary _ _)) | (go_at_call 29; refine Calls.quiet_of_same (arith_Eval.unary _ _)))
                go_wp2_with (first | (go_at_call 30; (with_reducible refine (arith_Eval.args w0 _ g A0 c0 l0 _ ihA.out q1 A6 c6 hC6.out.1 hC6.out.2 nl.out deep q3 (by first | exact pw_below_drewN (arith_Eval.p4b hB6.out (Nat.le_trans hBB.out.size hn3.out.1)) _ | exact arith_Eval.p4b hB6.out (Nat.le_trans hBB.out.size hn3.out.1)) hGG.out (by first | exact blk_drewN (arith_Eval.p4f hG6.out hn3.out.2.symm) _ | exact arith_Eval.p4f hG6.out hn3.out.2.symm) (a1, a2, ae, ad, as_) ha.out).mono ?_); rintro E w8 ⟨rfl, hG8, hB8, hK8⟩; have hBT8 := hK8.blk (by first | exact blk_drewN (arith_Eval.p4s hBT6.out) _ | exact arith_Eval.p4s hBT6.out) hn3.out.2 (by simp); have u0 := blk_cell hBT8 0; have u1 := blk_cell hBT8 1; have u2 := blk_cell hBT8 2; have u3 := (blk_cell hBT8 3).trans (rfl : _ = some (Value.slice A6 q1.f3.length c6)); have hBT8 := Aside0.mk hBT8; have hG8 := Aside0.mk hG8; have hB8 := Aside0.mk hB8; have hK8 := Aside0.mk ((by first | exact keep_drewN (arith_Eval.p4k hK6.out hn3.out.1) _ | exact arith_Eval.p4k hK6.out hn3.out.1 : KeepBut w _ g none).trans hK8 (.inl rfl))) | ((with_reducible refine gate_dst (N := 8) rfl ?_); refine box_event ?hg (N := 8) ?hd (cs := #[.int .i64 0, .int .i64 0]) (t := 61) ?hr ?_; (case hd => rfl); (case hg => rfl); (case hr => first | (go_simp; done) | (go_simp; rfl)); intro bl hbl w9 hx9 hy9; have hG9 := Aside0.mk (blk_below hG8.out hy9); have hBT9 := blk_below hBT8.out hy9; have hB9 := Aside0.mk (hB8.out.trans (hy9.mono hB8.out.size)); have hK9 := Aside0.mk (hK8.out.trans (KeepBut.of_below hy9 g none) (.inl rfl)); have hn9 := Aside0.mk (show g ≠ bl ∧ bt ≠ bl ∧ w0.heap.size ≤ bl ∧ w.heap.size ≤ bl by have h1 := blk_lt hG8.out; have h2 := blk_lt hBT8.out; have h3 := hB8.out.size; have h4 := hK8.out.1; omega); have c0_ := blk_cell hx9 0; have c1_ := blk_cell hx9 1; have d0_ := blk_frozen hx9 0; have d1_ := blk_frozen hx9 1; have hT9 := blk_far (p := ⟨bl, 1, none⟩) (blk_far (p := ⟨bl, 0, none⟩) hBT9 hn9.out.2.1 (.int .i64 a1)) hn9.out.2.1 (.int .i64 a2); have s3 := (blk_cell hT9 3).trans (rfl : _ = some (Value.slice A6 q1.f3.length c6)); clear hx9 hy9 hbl hBT9 hT9) | (go_at_call 40; (with_reducible refine (num_Rem.calls a1 a2 n1 n2 _ hnx.out).mono ?_); rintro E w' ⟨rfl, hd⟩; obtain ⟨⟨m_, rfl⟩⟩ := hd))
                go_ret2
                rw [← h.out]
                exact ⟨rfl, blk_drewN (blk_far (p := ⟨bl, 1, none⟩) (blk_far (p := ⟨bl, 0, none⟩) hG9.out hn9.out.1 _) hn9.out.1 _) _, pw_below_drewN ((hB9.out.setCell (p := ⟨bl, 0, none⟩) hn9.out.2.2.1 _).setCell (p := ⟨bl, 1, none⟩) hn9.out.2.2.1 _) _, keep_drewN (keep_far (p := ⟨bl, 1, none⟩) (keep_far (p := ⟨bl, 0, none⟩) hK9.out hn9.out.2.2.2 _) hn9.out.2.2.2 _) _⟩
              · rw [if_neg hn0] at h
                have w1 : (n2 == 0) = false := beq_eq_false_iff_ne.mpr hn0
                have w2 : (n2 != 0) = true := bne_iff_ne.mpr hn0
                have h := Aside0.mk (Option.some.inj h)
                clear hn0
                have hq1 : ∀ W, (binOp BinOp.eql 41 Value.nilFunc Value.nilFunc).run Try.prog W = .ok (.bool true) W := fun W => by rfl
                have hq2 : ∀ f W, (binOp BinOp.eql 41 (.func (.func f) #[] #[]) Value.nilFunc).run Try.prog W = .ok (.bool false) W := fun f W => by rfl
                have hq3 : ∀ W, (binOp BinOp.eql 59 Value.nilFunc Value.nilFunc).run Try.prog W = .ok (.bool true) W := fun W => by rfl
                have hq4 : ∀ f W, (binOp BinOp.eql 59 (.func (.func f) #[] #[]) Value.nilFunc).run Try.prog W = .ok (.bool false) W := fun f W => by rfl
                go_enter Try.func24, Try.ntmps24
                go_wp2_with (first
                  | ((with_reducible refine gate_dst (N := 3) rfl ?_); refine box_event ?hg (N := 3) ?hd (cs := #[.int .i64 t.f0, .string t.f1, .int .i64 t.f2, .slice At t.f3.length ct]) (t := 25) ?hr ?_; (case hd => rfl); (case hg => rfl); (case hr => first | (go_simp; done) | (go_simp; rfl)); intro bt hbt w3 hx3 hy3;
                     have hgg3 := Aside0.mk (blk_below hgg.out hy3); have hBT3 := Aside0.mk hx3; have hBB3 := Aside0.mk (hBB.out.trans (hy3.mono hBB.out.size)); have hK3 := Aside0.mk (KeepBut.of_below hy3 g none); have hn3 := Aside0.mk (show w.heap.size ≤ bt ∧ bt ≠ g by omega); have g1 := (blk_cell hgg3.out 1).trans (rfl : _ = some (Value.int .i64 deep)); have b0 := (blk_cell hx3 0).trans (rfl : _ = some (Value.int .i64 t.f0)); have b1 := (blk_cell hx3 1).trans (rfl : _ = some (Value.string t.f1)); have b2 := (blk_cell hx3 2).trans (rfl : _ = some (Value.int .i64 t.f2)); have b3 := (blk_cell hx3 3).trans (rfl : _ = some (Value.slice At t.f3.length ct)); clear hx3 hy3 hbt)
                  | (go_at_call 27; (with_reducible refine (arith_Eval.visits k w0 _ g A0 c0 l0 hCC.out t At ct hAt.out.1 hAt.out.2 deep s hBB3.out hGG.out hgg3.out q1 0 q3 hq.out).mono ?_); rintro E w6 ⟨A6, c6, rfl, hC6, hl6, hG6, hB6, hK6⟩; have hC6 := Aside0.mk (And.intro hC6 hl6); clear hl6; have hBT6 := hK6.blk hBT3.out hn3.out.2 (by simp); have y0 := blk_cell hBT6 0; have y1 := blk_cell hBT6 1; have y2 := blk_cell hBT6 2; have y3 := blk_cell hBT6 3; have z0 := blk_frozen hBT6 0; have z1 := blk_frozen hBT6 1; have z2 := blk_frozen hBT6 2; have z3 := blk_frozen hBT6 3; have hBT6 := Aside0.mk hBT6; have hG6 := Aside0.mk hG6; have hB6 := Aside0.mk hB6; have hK6 := Aside0.mk (hK3.out.trans hK6 (.inl rfl))))
                go_quiet (first | (go_at_call 28; refine Calls.quiet_of_same (arith_Eval.binary _ _)) | (go_at_call 29; refine Calls.quiet_of_same (arith_Eval.unary _ _)))
                go_wp2_with (first | (go_at_call 30; (with_reducible refine (arith_Eval.args w0 _ g A0 c0 l0 _ ihA.out q1 A6 c6 hC6.out.1 hC6.out.2 nl.out deep q3 (by first | exact pw_below_drewN (arith_Eval.p4b hB6.out (Nat.le_trans hBB.out.size hn3.out.1)) _ | exact arith_Eval.p4b hB6.out (Nat.le_trans hBB.out.size hn3.out.1)) hGG.out (by first | exact blk_drewN (arith_Eval.p4f hG6.out hn3.out.2.symm) _ | exact arith_Eval.p4f hG6.out hn3.out.2.symm) (a1, a2, ae, ad, as_) ha.out).mono ?_); rintro E w8 ⟨rfl, hG8, hB8, hK8⟩; have hBT8 := hK8.blk (by first | exact blk_drewN (arith_Eval.p4s hBT6.out) _ | exact arith_Eval.p4s hBT6.out) hn3.out.2 (by simp); have u0 := blk_cell hBT8 0; have u1 := blk_cell hBT8 1; have u2 := blk_cell hBT8 2; have u3 := (blk_cell hBT8 3).trans (rfl : _ = some (Value.slice A6 q1.f3.length c6)); have hBT8 := Aside0.mk hBT8; have hG8 := Aside0.mk hG8; have hB8 := Aside0.mk hB8; have hK8 := Aside0.mk ((by first | exact keep_drewN (arith_Eval.p4k hK6.out hn3.out.1) _ | exact arith_Eval.p4k hK6.out hn3.out.1 : KeepBut w _ g none).trans hK8 (.inl rfl))) | ((with_reducible refine gate_dst (N := 8) rfl ?_); refine box_event ?hg (N := 8) ?hd (cs := #[.int .i64 0, .int .i64 0]) (t := 61) ?hr ?_; (case hd => rfl); (case hg => rfl); (case hr => first | (go_simp; done) | (go_simp; rfl)); intro bl hbl w9 hx9 hy9; have hG9 := Aside0.mk (blk_below hG8.out hy9); have hBT9 := blk_below hBT8.out hy9; have hB9 := Aside0.mk (hB8.out.trans (hy9.mono hB8.out.size)); have hK9 := Aside0.mk (hK8.out.trans (KeepBut.of_below hy9 g none) (.inl rfl)); have hn9 := Aside0.mk (show g ≠ bl ∧ bt ≠ bl ∧ w0.heap.size ≤ bl ∧ w.heap.size ≤ bl by have h1 := blk_lt hG8.out; have h2 := blk_lt hBT8.out; have h3 := hB8.out.size; have h4 := hK8.out.1; omega); have c0_ := blk_cell hx9 0; have c1_ := blk_cell hx9 1; have d0_ := blk_frozen hx9 0; have d1_ := blk_frozen hx9 1; have hT9 := blk_far (p := ⟨bl, 1, none⟩) (blk_far (p := ⟨bl, 0, none⟩) hBT9 hn9.out.2.1 (.int .i64 a1)) hn9.out.2.1 (.int .i64 a2); have s3 := (blk_cell hT9 3).trans (rfl : _ = some (Value.slice A6 q1.f3.length c6)); clear hx9 hy9 hbl hBT9 hT9) | (go_at_call 40; (with_reducible refine (num_Rem.calls a1 a2 n1 n2 _ hnx.out).mono ?_); rintro E w' ⟨rfl, hd⟩; obtain ⟨⟨m_, rfl⟩⟩ := hd))
                go_ret2
                rw [← h.out]
                exact ⟨rfl, blk_drewN (blk_far (p := ⟨bl, 1, none⟩) (blk_far (p := ⟨bl, 0, none⟩) hG9.out hn9.out.1 _) hn9.out.1 _) _, pw_below_drewN ((hB9.out.setCell (p := ⟨bl, 0, none⟩) hn9.out.2.2.1 _).setCell (p := ⟨bl, 1, none⟩) hn9.out.2.2.1 _) _, keep_drewN (keep_far (p := ⟨bl, 1, none⟩) (keep_far (p := ⟨bl, 0, none⟩) hK9.out hn9.out.2.2.2 _) hn9.out.2.2.2 _) _⟩
            rw [if_neg cq4] at hn hf hfd
            by_cases cq5 : q1.f1.toList = ([109, 111, 100] : List UInt8)
            · rw [if_pos cq5] at hn hf hfd
              have hfv : arith_Eval.fv (arith_Eval.two q1.f1) = .func (.func 41) #[] #[] := hfd
              clear hf hfd cq5
              have hnx := Aside0.mk hn
              clear hn
              by_cases hn0 : n2 = 0
              · rw [if_pos hn0] at h
                have w1 : (n2 == 0) = true := beq_iff_eq.mpr hn0
                have w2 : (n2 != 0) = false := bne_eq_false_iff_eq.mpr hn0
                have h := Aside0.mk (Option.some.inj h)
                clear hn0
                have hq1 : ∀ W, (binOp BinOp.eql 41 Value.nilFunc Value.nilFunc).run Try.prog W = .ok (.bool true) W := fun W => by rfl
                have hq2 : ∀ f W, (binOp BinOp.eql 41 (.func (.func f) #[] #[]) Value.nilFunc).run Try.prog W = .ok (.bool false) W := fun f W => by rfl
                have hq3 : ∀ W, (binOp BinOp.eql 59 Value.nilFunc Value.nilFunc).run Try.prog W = .ok (.bool true) W := fun W => by rfl
                have hq4 : ∀ f W, (binOp BinOp.eql 59 (.func (.func f) #[] #[]) Value.nilFunc).run Try.prog W = .ok (.bool false) W := fun f W => by rfl
                go_enter Try.func24, Try.ntmps24
                go_wp2_with (first
                  | ((with_reducible refine gate_dst (N := 3) rfl ?_); refine box_event ?hg (N := 3) ?hd (cs := #[.int .i64 t.f0, .string t.f1, .int .i64 t.f2, .slice At t.f3.length ct]) (t := 25) ?hr ?_; (case hd => rfl); (case hg => rfl); (case hr => first | (go_simp; done) | (go_simp; rfl)); intro bt hbt w3 hx3 hy3;
                     have hgg3 := Aside0.mk (blk_below hgg.out hy3); have hBT3 := Aside0.mk hx3; have hBB3 := Aside0.mk (hBB.out.trans (hy3.mono hBB.out.size)); have hK3 := Aside0.mk (KeepBut.of_below hy3 g none); have hn3 := Aside0.mk (show w.heap.size ≤ bt ∧ bt ≠ g by omega); have g1 := (blk_cell hgg3.out 1).trans (rfl : _ = some (Value.int .i64 deep)); have b0 := (blk_cell hx3 0).trans (rfl : _ = some (Value.int .i64 t.f0)); have b1 := (blk_cell hx3 1).trans (rfl : _ = some (Value.string t.f1)); have b2 := (blk_cell hx3 2).trans (rfl : _ = some (Value.int .i64 t.f2)); have b3 := (blk_cell hx3 3).trans (rfl : _ = some (Value.slice At t.f3.length ct)); clear hx3 hy3 hbt)
                  | (go_at_call 27; (with_reducible refine (arith_Eval.visits k w0 _ g A0 c0 l0 hCC.out t At ct hAt.out.1 hAt.out.2 deep s hBB3.out hGG.out hgg3.out q1 0 q3 hq.out).mono ?_); rintro E w6 ⟨A6, c6, rfl, hC6, hl6, hG6, hB6, hK6⟩; have hC6 := Aside0.mk (And.intro hC6 hl6); clear hl6; have hBT6 := hK6.blk hBT3.out hn3.out.2 (by simp); have y0 := blk_cell hBT6 0; have y1 := blk_cell hBT6 1; have y2 := blk_cell hBT6 2; have y3 := blk_cell hBT6 3; have z0 := blk_frozen hBT6 0; have z1 := blk_frozen hBT6 1; have z2 := blk_frozen hBT6 2; have z3 := blk_frozen hBT6 3; have hBT6 := Aside0.mk hBT6; have hG6 := Aside0.mk hG6; have hB6 := Aside0.mk hB6; have hK6 := Aside0.mk (hK3.out.trans hK6 (.inl rfl))))
                go_quiet (first | (go_at_call 28; refine Calls.quiet_of_same (arith_Eval.binary _ _)) | (go_at_call 29; refine Calls.quiet_of_same (arith_Eval.unary _ _)))
                go_wp2_with (first | (go_at_call 30; (with_reducible refine (arith_Eval.args w0 _ g A0 c0 l0 _ ihA.out q1 A6 c6 hC6.out.1 hC6.out.2 nl.out deep q3 (by first | exact pw_below_drewN (arith_Eval.p4b hB6.out (Nat.le_trans hBB.out.size hn3.out.1)) _ | exact arith_Eval.p4b hB6.out (Nat.le_trans hBB.out.size hn3.out.1)) hGG.out (by first | exact blk_drewN (arith_Eval.p4f hG6.out hn3.out.2.symm) _ | exact arith_Eval.p4f hG6.out hn3.out.2.symm) (a1, a2, ae, ad, as_) ha.out).mono ?_); rintro E w8 ⟨rfl, hG8, hB8, hK8⟩; have hBT8 := hK8.blk (by first | exact blk_drewN (arith_Eval.p4s hBT6.out) _ | exact arith_Eval.p4s hBT6.out) hn3.out.2 (by simp); have u0 := blk_cell hBT8 0; have u1 := blk_cell hBT8 1; have u2 := blk_cell hBT8 2; have u3 := (blk_cell hBT8 3).trans (rfl : _ = some (Value.slice A6 q1.f3.length c6)); have hBT8 := Aside0.mk hBT8; have hG8 := Aside0.mk hG8; have hB8 := Aside0.mk hB8; have hK8 := Aside0.mk ((by first | exact keep_drewN (arith_Eval.p4k hK6.out hn3.out.1) _ | exact arith_Eval.p4k hK6.out hn3.out.1 : KeepBut w _ g none).trans hK8 (.inl rfl))) | ((with_reducible refine gate_dst (N := 8) rfl ?_); refine box_event ?hg (N := 8) ?hd (cs := #[.int .i64 0, .int .i64 0]) (t := 61) ?hr ?_; (case hd => rfl); (case hg => rfl); (case hr => first | (go_simp; done) | (go_simp; rfl)); intro bl hbl w9 hx9 hy9; have hG9 := Aside0.mk (blk_below hG8.out hy9); have hBT9 := blk_below hBT8.out hy9; have hB9 := Aside0.mk (hB8.out.trans (hy9.mono hB8.out.size)); have hK9 := Aside0.mk (hK8.out.trans (KeepBut.of_below hy9 g none) (.inl rfl)); have hn9 := Aside0.mk (show g ≠ bl ∧ bt ≠ bl ∧ w0.heap.size ≤ bl ∧ w.heap.size ≤ bl by have h1 := blk_lt hG8.out; have h2 := blk_lt hBT8.out; have h3 := hB8.out.size; have h4 := hK8.out.1; omega); have c0_ := blk_cell hx9 0; have c1_ := blk_cell hx9 1; have d0_ := blk_frozen hx9 0; have d1_ := blk_frozen hx9 1; have hT9 := blk_far (p := ⟨bl, 1, none⟩) (blk_far (p := ⟨bl, 0, none⟩) hBT9 hn9.out.2.1 (.int .i64 a1)) hn9.out.2.1 (.int .i64 a2); have s3 := (blk_cell hT9 3).trans (rfl : _ = some (Value.slice A6 q1.f3.length c6)); clear hx9 hy9 hbl hBT9 hT9) | (go_at_call 41; (with_reducible refine (num_Mod.calls a1 a2 n1 n2 _ hnx.out).mono ?_); rintro E w' ⟨rfl, hd⟩; obtain ⟨⟨m_, rfl⟩⟩ := hd))
                go_ret2
                rw [← h.out]
                exact ⟨rfl, blk_drewN (blk_far (p := ⟨bl, 1, none⟩) (blk_far (p := ⟨bl, 0, none⟩) hG9.out hn9.out.1 _) hn9.out.1 _) _, pw_below_drewN ((hB9.out.setCell (p := ⟨bl, 0, none⟩) hn9.out.2.2.1 _).setCell (p := ⟨bl, 1, none⟩) hn9.out.2.2.1 _) _, keep_drewN (keep_far (p := ⟨bl, 1, none⟩) (keep_far (p := ⟨bl, 0, none⟩) hK9.out hn9.out.2.2.2 _) hn9.out.2.2.2 _) _⟩
              · rw [if_neg hn0] at h
                have w1 : (n2 == 0) = false := beq_eq_false_iff_ne.mpr hn0
                have w2 : (n2 != 0) = true := bne_iff_ne.mpr hn0
                have h := Aside0.mk (Option.some.inj h)
                clear hn0
                have hq1 : ∀ W, (binOp BinOp.eql 41 Value.nilFunc Value.nilFunc).run Try.prog W = .ok (.bool true) W := fun W => by rfl
                have hq2 : ∀ f W, (binOp BinOp.eql 41 (.func (.func f) #[] #[]) Value.nilFunc).run Try.prog W = .ok (.bool false) W := fun f W => by rfl
                have hq3 : ∀ W, (binOp BinOp.eql 59 Value.nilFunc Value.nilFunc).run Try.prog W = .ok (.bool true) W := fun W => by rfl
                have hq4 : ∀ f W, (binOp BinOp.eql 59 (.func (.func f) #[] #[]) Value.nilFunc).run Try.prog W = .ok (.bool false) W := fun f W => by rfl
                go_enter Try.func24, Try.ntmps24
                go_wp2_with (first
                  | ((with_reducible refine gate_dst (N := 3) rfl ?_); refine box_event ?hg (N := 3) ?hd (cs := #[.int .i64 t.f0, .string t.f1, .int .i64 t.f2, .slice At t.f3.length ct]) (t := 25) ?hr ?_; (case hd => rfl); (case hg => rfl); (case hr => first | (go_simp; done) | (go_simp; rfl)); intro bt hbt w3 hx3 hy3;
                     have hgg3 := Aside0.mk (blk_below hgg.out hy3); have hBT3 := Aside0.mk hx3; have hBB3 := Aside0.mk (hBB.out.trans (hy3.mono hBB.out.size)); have hK3 := Aside0.mk (KeepBut.of_below hy3 g none); have hn3 := Aside0.mk (show w.heap.size ≤ bt ∧ bt ≠ g by omega); have g1 := (blk_cell hgg3.out 1).trans (rfl : _ = some (Value.int .i64 deep)); have b0 := (blk_cell hx3 0).trans (rfl : _ = some (Value.int .i64 t.f0)); have b1 := (blk_cell hx3 1).trans (rfl : _ = some (Value.string t.f1)); have b2 := (blk_cell hx3 2).trans (rfl : _ = some (Value.int .i64 t.f2)); have b3 := (blk_cell hx3 3).trans (rfl : _ = some (Value.slice At t.f3.length ct)); clear hx3 hy3 hbt)
                  | (go_at_call 27; (with_reducible refine (arith_Eval.visits k w0 _ g A0 c0 l0 hCC.out t At ct hAt.out.1 hAt.out.2 deep s hBB3.out hGG.out hgg3.out q1 0 q3 hq.out).mono ?_); rintro E w6 ⟨A6, c6, rfl, hC6, hl6, hG6, hB6, hK6⟩; have hC6 := Aside0.mk (And.intro hC6 hl6); clear hl6; have hBT6 := hK6.blk hBT3.out hn3.out.2 (by simp); have y0 := blk_cell hBT6 0; have y1 := blk_cell hBT6 1; have y2 := blk_cell hBT6 2; have y3 := blk_cell hBT6 3; have z0 := blk_frozen hBT6 0; have z1 := blk_frozen hBT6 1; have z2 := blk_frozen hBT6 2; have z3 := blk_frozen hBT6 3; have hBT6 := Aside0.mk hBT6; have hG6 := Aside0.mk hG6; have hB6 := Aside0.mk hB6; have hK6 := Aside0.mk (hK3.out.trans hK6 (.inl rfl))))
                go_quiet (first | (go_at_call 28; refine Calls.quiet_of_same (arith_Eval.binary _ _)) | (go_at_call 29; refine Calls.quiet_of_same (arith_Eval.unary _ _)))
                go_wp2_with (first | (go_at_call 30; (with_reducible refine (arith_Eval.args w0 _ g A0 c0 l0 _ ihA.out q1 A6 c6 hC6.out.1 hC6.out.2 nl.out deep q3 (by first | exact pw_below_drewN (arith_Eval.p4b hB6.out (Nat.le_trans hBB.out.size hn3.out.1)) _ | exact arith_Eval.p4b hB6.out (Nat.le_trans hBB.out.size hn3.out.1)) hGG.out (by first | exact blk_drewN (arith_Eval.p4f hG6.out hn3.out.2.symm) _ | exact arith_Eval.p4f hG6.out hn3.out.2.symm) (a1, a2, ae, ad, as_) ha.out).mono ?_); rintro E w8 ⟨rfl, hG8, hB8, hK8⟩; have hBT8 := hK8.blk (by first | exact blk_drewN (arith_Eval.p4s hBT6.out) _ | exact arith_Eval.p4s hBT6.out) hn3.out.2 (by simp); have u0 := blk_cell hBT8 0; have u1 := blk_cell hBT8 1; have u2 := blk_cell hBT8 2; have u3 := (blk_cell hBT8 3).trans (rfl : _ = some (Value.slice A6 q1.f3.length c6)); have hBT8 := Aside0.mk hBT8; have hG8 := Aside0.mk hG8; have hB8 := Aside0.mk hB8; have hK8 := Aside0.mk ((by first | exact keep_drewN (arith_Eval.p4k hK6.out hn3.out.1) _ | exact arith_Eval.p4k hK6.out hn3.out.1 : KeepBut w _ g none).trans hK8 (.inl rfl))) | ((with_reducible refine gate_dst (N := 8) rfl ?_); refine box_event ?hg (N := 8) ?hd (cs := #[.int .i64 0, .int .i64 0]) (t := 61) ?hr ?_; (case hd => rfl); (case hg => rfl); (case hr => first | (go_simp; done) | (go_simp; rfl)); intro bl hbl w9 hx9 hy9; have hG9 := Aside0.mk (blk_below hG8.out hy9); have hBT9 := blk_below hBT8.out hy9; have hB9 := Aside0.mk (hB8.out.trans (hy9.mono hB8.out.size)); have hK9 := Aside0.mk (hK8.out.trans (KeepBut.of_below hy9 g none) (.inl rfl)); have hn9 := Aside0.mk (show g ≠ bl ∧ bt ≠ bl ∧ w0.heap.size ≤ bl ∧ w.heap.size ≤ bl by have h1 := blk_lt hG8.out; have h2 := blk_lt hBT8.out; have h3 := hB8.out.size; have h4 := hK8.out.1; omega); have c0_ := blk_cell hx9 0; have c1_ := blk_cell hx9 1; have d0_ := blk_frozen hx9 0; have d1_ := blk_frozen hx9 1; have hT9 := blk_far (p := ⟨bl, 1, none⟩) (blk_far (p := ⟨bl, 0, none⟩) hBT9 hn9.out.2.1 (.int .i64 a1)) hn9.out.2.1 (.int .i64 a2); have s3 := (blk_cell hT9 3).trans (rfl : _ = some (Value.slice A6 q1.f3.length c6)); clear hx9 hy9 hbl hBT9 hT9) | (go_at_call 41; (with_reducible refine (num_Mod.calls a1 a2 n1 n2 _ hnx.out).mono ?_); rintro E w' ⟨rfl, hd⟩; obtain ⟨⟨m_, rfl⟩⟩ := hd))
                go_ret2
                rw [← h.out]
                exact ⟨rfl, blk_drewN (blk_far (p := ⟨bl, 1, none⟩) (blk_far (p := ⟨bl, 0, none⟩) hG9.out hn9.out.1 _) hn9.out.1 _) _, pw_below_drewN ((hB9.out.setCell (p := ⟨bl, 0, none⟩) hn9.out.2.2.1 _).setCell (p := ⟨bl, 1, none⟩) hn9.out.2.2.1 _) _, keep_drewN (keep_far (p := ⟨bl, 1, none⟩) (keep_far (p := ⟨bl, 0, none⟩) hK9.out hn9.out.2.2.2 _) hn9.out.2.2.2 _) _⟩
            rw [if_neg cq5] at hn hf hfd
            cases hf
          · rw [if_neg hae] at h
            have hae1 : (ae == 0) = false := beq_eq_false_iff_ne.mpr hae
            have hae2 : (ae != 0) = true := bne_iff_ne.mpr hae
            have h := Aside0.mk (Option.some.inj h)
            have hfv : arith_Eval.fv (arith_Eval.two q1.f1) = .func (.func f) #[] #[] := by rw [hf]; rfl
            clear hae hf
            have hq1 : ∀ W, (binOp BinOp.eql 41 Value.nilFunc Value.nilFunc).run Try.prog W = .ok (.bool true) W := fun W => by rfl
            have hq2 : ∀ f W, (binOp BinOp.eql 41 (.func (.func f) #[] #[]) Value.nilFunc).run Try.prog W = .ok (.bool false) W := fun f W => by rfl
            have hq3 : ∀ W, (binOp BinOp.eql 59 Value.nilFunc Value.nilFunc).run Try.prog W = .ok (.bool true) W := fun W => by rfl
            have hq4 : ∀ f W, (binOp BinOp.eql 59 (.func (.func f) #[] #[]) Value.nilFunc).run Try.prog W = .ok (.bool false) W := fun f W => by rfl
            go_enter Try.func24, Try.ntmps24
            go_wp2_with (first
              | ((with_reducible refine gate_dst (N := 3) rfl ?_); refine box_event ?hg (N := 3) ?hd (cs := #[.int .i64 t.f0, .string t.f1, .int .i64 t.f2, .slice At t.f3.length ct]) (t := 25) ?hr ?_; (case hd => rfl); (case hg => rfl); (case hr => first | (go_simp; done) | (go_simp; rfl)); intro bt hbt w3 hx3 hy3;
                 have hgg3 := Aside0.mk (blk_below hgg.out hy3); have hBT3 := Aside0.mk hx3; have hBB3 := Aside0.mk (hBB.out.trans (hy3.mono hBB.out.size)); have hK3 := Aside0.mk (KeepBut.of_below hy3 g none); have hn3 := Aside0.mk (show w.heap.size ≤ bt ∧ bt ≠ g by omega); have g1 := (blk_cell hgg3.out 1).trans (rfl : _ = some (Value.int .i64 deep)); have b0 := (blk_cell hx3 0).trans (rfl : _ = some (Value.int .i64 t.f0)); have b1 := (blk_cell hx3 1).trans (rfl : _ = some (Value.string t.f1)); have b2 := (blk_cell hx3 2).trans (rfl : _ = some (Value.int .i64 t.f2)); have b3 := (blk_cell hx3 3).trans (rfl : _ = some (Value.slice At t.f3.length ct)); clear hx3 hy3 hbt)
              | (go_at_call 27; (with_reducible refine (arith_Eval.visits k w0 _ g A0 c0 l0 hCC.out t At ct hAt.out.1 hAt.out.2 deep s hBB3.out hGG.out hgg3.out q1 0 q3 hq.out).mono ?_); rintro E w6 ⟨A6, c6, rfl, hC6, hl6, hG6, hB6, hK6⟩; have hC6 := Aside0.mk (And.intro hC6 hl6); clear hl6; have hBT6 := hK6.blk hBT3.out hn3.out.2 (by simp); have y0 := blk_cell hBT6 0; have y1 := blk_cell hBT6 1; have y2 := blk_cell hBT6 2; have y3 := blk_cell hBT6 3; have z0 := blk_frozen hBT6 0; have z1 := blk_frozen hBT6 1; have z2 := blk_frozen hBT6 2; have z3 := blk_frozen hBT6 3; have hBT6 := Aside0.mk hBT6; have hG6 := Aside0.mk hG6; have hB6 := Aside0.mk hB6; have hK6 := Aside0.mk (hK3.out.trans hK6 (.inl rfl))))
            go_quiet (first | (go_at_call 28; refine Calls.quiet_of_same (arith_Eval.binary _ _)) | (go_at_call 29; refine Calls.quiet_of_same (arith_Eval.unary _ _)))
            go_wp2_with (first | (go_at_call 30; (with_reducible refine (arith_Eval.args w0 _ g A0 c0 l0 _ ihA.out q1 A6 c6 hC6.out.1 hC6.out.2 nl.out deep q3 (by first | exact pw_below_drewN (arith_Eval.p4b hB6.out (Nat.le_trans hBB.out.size hn3.out.1)) _ | exact arith_Eval.p4b hB6.out (Nat.le_trans hBB.out.size hn3.out.1)) hGG.out (by first | exact blk_drewN (arith_Eval.p4f hG6.out hn3.out.2.symm) _ | exact arith_Eval.p4f hG6.out hn3.out.2.symm) (a1, a2, ae, ad, as_) ha.out).mono ?_); rintro E w8 ⟨rfl, hG8, hB8, hK8⟩; have hBT8 := hK8.blk (by first | exact blk_drewN (arith_Eval.p4s hBT6.out) _ | exact arith_Eval.p4s hBT6.out) hn3.out.2 (by simp); have u0 := blk_cell hBT8 0; have u1 := blk_cell hBT8 1; have u2 := blk_cell hBT8 2; have u3 := (blk_cell hBT8 3).trans (rfl : _ = some (Value.slice A6 q1.f3.length c6)); have hBT8 := Aside0.mk hBT8; have hG8 := Aside0.mk hG8; have hB8 := Aside0.mk hB8; have hK8 := Aside0.mk ((by first | exact keep_drewN (arith_Eval.p4k hK6.out hn3.out.1) _ | exact arith_Eval.p4k hK6.out hn3.out.1 : KeepBut w _ g none).trans hK8 (.inl rfl))) | ((with_reducible refine gate_dst (N := 8) rfl ?_); refine box_event ?hg (N := 8) ?hd (cs := #[.int .i64 0, .int .i64 0]) (t := 61) ?hr ?_; (case hd => rfl); (case hg => rfl); (case hr => first | (go_simp; done) | (go_simp; rfl)); intro bl hbl w9 hx9 hy9; have hG9 := Aside0.mk (blk_below hG8.out hy9); have hBT9 := blk_below hBT8.out hy9; have hB9 := Aside0.mk (hB8.out.trans (hy9.mono hB8.out.size)); have hK9 := Aside0.mk (hK8.out.trans (KeepBut.of_below hy9 g none) (.inl rfl)); have hn9 := Aside0.mk (show g ≠ bl ∧ bt ≠ bl ∧ w0.heap.size ≤ bl ∧ w.heap.size ≤ bl by have h1 := blk_lt hG8.out; have h2 := blk_lt hBT8.out; have h3 := hB8.out.size; have h4 := hK8.out.1; omega); have c0_ := blk_cell hx9 0; have c1_ := blk_cell hx9 1; have d0_ := blk_frozen hx9 0; have d1_ := blk_frozen hx9 1; have hT9 := blk_far (p := ⟨bl, 1, none⟩) (blk_far (p := ⟨bl, 0, none⟩) hBT9 hn9.out.2.1 (.int .i64 a1)) hn9.out.2.1 (.int .i64 a2); have s3 := (blk_cell hT9 3).trans (rfl : _ = some (Value.slice A6 q1.f3.length c6)); clear hx9 hy9 hbl hBT9 hT9))
            go_ret2
            rw [← h.out]
            exact ⟨rfl, blk_far (p := ⟨bl, 1, none⟩) (blk_far (p := ⟨bl, 0, none⟩) hG9.out hn9.out.1 _) hn9.out.1 _, (hB9.out.setCell (p := ⟨bl, 0, none⟩) hn9.out.2.2.1 _).setCell (p := ⟨bl, 1, none⟩) hn9.out.2.2.1 _, keep_far (p := ⟨bl, 1, none⟩) (keep_far (p := ⟨bl, 0, none⟩) hK9.out hn9.out.2.2.2 _) hn9.out.2.2.2 _⟩
    · rw [if_neg he] at h
      have e1 : (q2 == 0) = false := beq_eq_false_iff_ne.mpr he
      have e2 : (q2 != 0) = true := bne_iff_ne.mpr he
      have h := Aside0.mk (Option.some.inj h)
      clear he
      go_enter Try.func24, Try.ntmps24
      go_wp2_with (first
        | ((with_reducible refine gate_dst (N := 3) rfl ?_); refine box_event ?hg (N := 3) ?hd (cs := #[.int .i64 t.f0, .string t.f1, .int .i64 t.f2, .slice At t.f3.length ct]) (t := 25) ?hr ?_; (case hd => rfl); (case hg => rfl); (case hr => first | (go_simp; done) | (go_simp; rfl)); intro bt hbt w3 hx3 hy3;
           have hgg3 := Aside0.mk (blk_below hgg.out hy3); have hBT3 := Aside0.mk hx3; have hBB3 := Aside0.mk (hBB.out.trans (hy3.mono hBB.out.size)); have hK3 := Aside0.mk (KeepBut.of_below hy3 g none); have hn3 := Aside0.mk (show w.heap.size ≤ bt ∧ bt ≠ g by omega); have g1 := (blk_cell hgg3.out 1).trans (rfl : _ = some (Value.int .i64 deep)); have b0 := (blk_cell hx3 0).trans (rfl : _ = some (Value.int .i64 t.f0)); have b1 := (blk_cell hx3 1).trans (rfl : _ = some (Value.string t.f1)); have b2 := (blk_cell hx3 2).trans (rfl : _ = some (Value.int .i64 t.f2)); have b3 := (blk_cell hx3 3).trans (rfl : _ = some (Value.slice At t.f3.length ct)); clear hx3 hy3 hbt)
        | (go_at_call 27; (with_reducible refine (arith_Eval.visits k w0 _ g A0 c0 l0 hCC.out t At ct hAt.out.1 hAt.out.2 deep s hBB3.out hGG.out hgg3.out q1 q2 q3 hq.out).mono ?_); rintro E w6 ⟨A6, c6, rfl, hC6, hl6, hG6, hB6, hK6⟩; have hC6 := Aside0.mk (And.intro hC6 hl6); clear hl6; have hBT6 := hK6.blk hBT3.out hn3.out.2 (by simp); have y0 := blk_cell hBT6 0; have y1 := blk_cell hBT6 1; have y2 := blk_cell hBT6 2; have y3 := blk_cell hBT6 3; have z0 := blk_frozen hBT6 0; have z1 := blk_frozen hBT6 1; have z2 := blk_frozen hBT6 2; have z3 := blk_frozen hBT6 3; have hBT6 := Aside0.mk hBT6; have hG6 := Aside0.mk hG6; have hB6 := Aside0.mk hB6; have hK6 := Aside0.mk (hK3.out.trans hK6 (.inl rfl))))
      go_ret2
      rw [← h.out]
      exact ⟨rfl, arith_Eval.p4f hG6.out (fun e => hn3.out.2 e.symm), arith_Eval.p4b hB6.out (Nat.le_trans hBB.out.size hn3.out.1), arith_Eval.p4k hK6.out hn3.out.1⟩
theorem arith_Eval.vl_mono (l : List S45) : ∀ k t s, LeO (arith_Eval.vl k l t s) (arith_Eval.vl (k + 1) l t s)
  | 0, _, _ => fun r h => by simp [arith_Eval.vl] at h
  | k + 1, t, s => by
    unfold arith_Eval.vl
    refine LeO.ite (LeO.ite ?_ (LeO.refl _)) (LeO.refl _)
    cases subst_Look.find t.f2 l with
    | none => exact LeO.refl _
    | some x => exact arith_Eval.vl_mono l k x _
theorem arith_Eval.visit_mono (l : List S45) (k : Nat) (t : S25) (s : Int) : LeO (arith_Eval.visit k l t s) (arith_Eval.visit (k + 1) l t s) := by
  unfold arith_Eval.visit
  exact LeO.bind (arith_Eval.vl_mono l k _ _) (fun _ => LeO.refl _)
theorem arith_Eval.al_mono {v v' : S25 → Int → Int → Option (Int × Int × Int × Int)} (hv : ∀ t d s, LeO (v t d s) (v' t d s)) : ∀ (l : List S25) (i : Nat) (x y d s : Int), LeO (arith_Eval.al v l i x y d s) (arith_Eval.al v' l i x y d s)
  | [], _, _, _, _, _ => LeO.refl _
  | a :: r, i, x, y, d, s => by
    unfold arith_Eval.al
    exact LeO.bind (hv _ _ _) (fun _ => LeO.ite (arith_Eval.al_mono hv r _ _ _ _ _) (LeO.refl _))
theorem arith_Eval.args_mono {v v' : S25 → Int → Int → Option (Int × Int × Int × Int)} (hv : ∀ t d s, LeO (v t d s) (v' t d s)) (l : List S25) (d s : Int) : LeO (arith_Eval.argsf v l d s) (arith_Eval.argsf v' l d s) := by
  unfold arith_Eval.argsf
  exact LeO.bind (arith_Eval.al_mono hv _ _ _ _ _ _) (fun _ => LeO.refl _)
theorem arith_Eval.val_mono (l : List S45) : ∀ k t d s, LeO (arith_Eval.val l k t d s) (arith_Eval.val l (k + 1) t d s)
  | 0, _, _, _ => fun r h => by simp [arith_Eval.val] at h
  | k + 1, t, d, s => by
    have ih := arith_Eval.val_mono l k
    rw [show arith_Eval.val l (k + 1) = _ from rfl, show arith_Eval.val l (k + 1 + 1) = _ from rfl]
    simp only [arith_Eval.val]
    refine LeO.ite (LeO.refl _) (LeO.bind (arith_Eval.visit_mono l k _ _) (fun q => LeO.ite (LeO.ite (LeO.refl _) (LeO.ite (LeO.refl _) (LeO.ite (LeO.ite (LeO.ite ?_ (LeO.refl _)) (LeO.ite (LeO.ite ?_ (LeO.refl _)) (LeO.refl _))) (LeO.refl _)))) (LeO.refl _)))
    · exact LeO.bind (arith_Eval.args_mono ih _ _ _) (fun _ => LeO.refl _)
    · exact LeO.bind (arith_Eval.args_mono ih _ _ _) (fun _ => LeO.refl _)
def arith_Eval.f (k : Nat) (l0 : List (S45)) (a1_0 : Int) (a1_1 : ByteArray) (a1_2 : Int) (l1_3 : List (S25)) : Option (Int × Int) := (arith_Eval.val l0 k ⟨a1_0, a1_1, a1_2, l1_3⟩ 0 0).bind fun r => some (r.1, r.2.1)
theorem arith_Eval.mono : ∀ a0 a1_0 a1_1 a1_2 a1_3 k, LeO (arith_Eval.f k a0 a1_0 a1_1 a1_2 a1_3) (arith_Eval.f (k + 1) a0 a1_0 a1_1 a1_2 a1_3) := by
  intro a0 a1 a2 a3 a4 k
  unfold arith_Eval.f
  exact LeO.bind (arith_Eval.val_mono _ _ _ _ _) (fun _ => LeO.refl _)
set_option maxRecDepth 100000 in
theorem arith_Eval.calls (k : Nat) (A0 : Option Addr) (c0 : Nat) (l0 : List (S45)) (a1_0 : Int) (a1_1 : ByteArray) (a1_2 : Int) (A1_3 : Option Addr) (c1_3 : Nat) (l1_3 : List (S25)) (r1 : Int) (r2 : Int) (w : World) (hr0 : Kd.C k45 w A0 l0.length l0) (hc0 : l0.length ≤ c0) (hr1_3 : Kd.C k25 w A1_3 l1_3.length l1_3) (hc1_3 : l1_3.length ≤ c1_3) (h : arith_Eval.f k l0 a1_0 a1_1 a1_2 l1_3 = some (r1, r2)) :
    Calls Try.prog 9 #[.slice A0 l0.length c0, .agg #[.int .i64 a1_0, .string a1_1, .int .i64 a1_2, .slice A1_3 l1_3.length c1_3]] w fun e w' => e = .returned (.tuple #[.int .i64 r1, .int .i64 r2]) ∧ Below w.heap.size w w' := by
  obtain ⟨q, hq, hr⟩ := Option.bind_eq_some_iff.1 h
  simp only [Option.some.injEq, Prod.mk.injEq] at hr
  obtain ⟨rfl, rfl⟩ := hr
  clear h
  have hq := Aside0.mk hq
  have hC := Aside0.mk (And.intro hr0 (And.intro hr1_3 hc1_3))
  clear hr0 hr1_3 hc1_3 hc0
  go_enter Try.func9, Try.ntmps9
  go_wp2_with (first
    | ((with_reducible refine gate_dst (N := 3) rfl ?_); refine box_event ?hg (N := 3) ?hd (cs := #[.int .i64 a1_0, .string a1_1, .int .i64 a1_2, .slice A1_3 l1_3.length c1_3]) (t := 25) ?hr ?_; (case hd => rfl); (case hg => rfl); (case hr => first | (go_simp; done) | (go_simp; rfl)); intro bt hbt w3 hx3 hy3;
       have hBT3 := Aside0.mk hx3; have hB3 := Aside0.mk hy3; clear hx3 hy3 hbt)
    | ((with_reducible refine gate_dst (N := 9) rfl ?_); refine box_event ?hg (N := 9) ?hd (cs := #[.slice A0 l0.length c0, .int .i64 0, .int .i64 0]) (t := 49) ?hr ?_; (case hd => rfl); (case hg => rfl); (case hr => first | (go_simp; done) | (go_simp; rfl)); intro g hbg w4 hx4 hy4;
       have hBT4 := blk_below hBT3.out hy4; have b0 := (blk_cell hBT4 0).trans (rfl : _ = some (Value.int .i64 a1_0)); have b1 := (blk_cell hBT4 1).trans (rfl : _ = some (Value.string a1_1)); have b2 := (blk_cell hBT4 2).trans (rfl : _ = some (Value.int .i64 a1_2)); have b3 := (blk_cell hBT4 3).trans (rfl : _ = some (Value.slice A1_3 l1_3.length c1_3)); have hBG := Aside0.mk hx4; have hB4 := Aside0.mk (hB3.out.trans (hy4.mono hB3.out.size)); have hg0 := Aside0.mk (show w.heap.size ≤ g by have := hB3.out.size; omega); clear hx4 hy4 hbg hBT4)
    | (go_at_call 24; (with_reducible refine (arith_Eval.Val.use (arith_Eval.values w g A0 c0 l0 hC.out.1 hg0.out k) _ ⟨a1_0, a1_1, a1_2, l1_3⟩ A1_3 c1_3 0 0 q hC.out.2.1 hC.out.2.2 hB4.out hBG.out hq.out).mono ?_); rintro E w6 ⟨rfl, hG6, hB6, hK6⟩; have hB6 := Aside0.mk hB6; clear hG6 hK6))
  go_ret2
  exact ⟨rfl, hB6.out⟩

end Go.Proofs.Ytmiapolhklapnaa.P
