-- PRINTED by a program of this session over the kit's print.py.
import Derived.Test.YtjichkjnodabiaaDoorPx0
import Derived.Test.YtjichkjnodabiaaDoorPx2
import Derived.Test.YtjichkjnodabiaaDoorPx3
import Derived.Test.YtjichkjnodabiaaDoorPx4
namespace Go.Proofs.YtjichkjnodabiaaDoor.P
open Go.Own Go.RowKit Go.Proofs.YtjichkjnodabiaaDoorW.PrintWords Go.Proofs.YtjichkjnodabiaaDoorW.PrintLast Go.Proofs.YtjichkjnodabiaaDoorW.PrintMore
attribute [local go_sem] max2_int min2_int max_two min_two max_three min_three max_four min_four   -- for this text's walks alone
set_option linter.unusedVariables false
set_option linter.unusedSimpArgs false

/-! ### token_Cut: function 10 (given) -/
-- char_Class.calls num_Read.calls utf8_DecodeRuneInString.calls strings_HasPrefix.calls strings_CutPrefix.calls token_word.calls token_sign.calls token_digit.calls
def classN.c5 (x : Int) : Int := if 65 ≤ x ∧ x ≤ 90 then 2 else if 48 ≤ x ∧ x ≤ 57 then 3 else 0
def classN.c4 (x : Int) : Int := if 97 ≤ x ∧ x ≤ 122 then 1 else classN.c5 x
def classN.c3 (x : Int) : Int := if x = 39 then 8 else if x = 95 then 2 else classN.c4 x
def classN.c2 (x : Int) : Int := if x = 40 then 7 else if x = 41 then 7 else if x = 91 then 7 else if x = 93 then 7 else if x = 123 then 7 else if x = 125 then 7 else classN.c3 x
def classN.c1 (x : Int) : Int := if x = 33 then 6 else if x = 59 then 6 else if x = 44 then 6 else if x = 124 then 6 else classN.c2 x
def classN.c0 (x : Int) : Int := if x = 9 then 5 else if x = 10 then 5 else if x = 13 then 5 else if x = 32 then 5 else classN.c1 x
/-- a rune's class -/
def classN (x : Int) : Int := if x = 43 then 4 else if x = 45 then 4 else if x = 42 then 4 else if x = 47 then 4 else if x = 92 then 4 else if x = 94 then 4 else if x = 60 then 4 else if x = 62 then 4 else if x = 61 then 4 else if x = 126 then 4 else if x = 58 then 4 else if x = 46 then 4 else if x = 63 then 4 else if x = 64 then 4 else if x = 35 then 4 else if x = 38 then 4 else if x = 36 then 4 else classN.c0 x
theorem classN.e5 (k : Nat) (x : Int) (b : Bool) : char_Class.j4 (k + 2) x b = some (if b = true then 1 else classN.c5 x) := by
  cases b
  · simp only [char_Class.j4, char_Class.j5, classN.c5]
    by_cases h1 : 65 ≤ x <;> by_cases h2 : x ≤ 90 <;> by_cases h3 : 48 ≤ x <;> by_cases h4 : x ≤ 57 <;> simp [h1, h2, h3, h4]
  · simp [char_Class.j4]
theorem classN.e4 (k : Nat) (x y : Int) (b : Bool) : char_Class.j3 (k + 3) x y b = some (if b = true then 7 else if y = 39 then 8 else if y = 95 then 2 else classN.c4 x) := by
  cases b
  · simp only [char_Class.j3, classN.e5, classN.c4]
    by_cases h1 : 97 ≤ x <;> by_cases h2 : x ≤ 122 <;> by_cases h3 : y = 39 <;> by_cases h4 : y = 95 <;> simp [h1, h2, h3, h4]
  · simp [char_Class.j3]
theorem classN.e3 (k : Nat) (x : Int) (b : Bool) : char_Class.j2 (k + 4) x x b = some (if b = true then 6 else classN.c2 x) := by
  cases b
  · simp only [char_Class.j2, classN.e4, classN.c2, classN.c3]
    by_cases h1 : x = 40 <;> by_cases h2 : x = 41 <;> by_cases h3 : x = 91 <;> by_cases h4 : x = 93 <;> by_cases h5 : x = 123 <;> by_cases h6 : x = 125 <;> simp [h1, h2, h3, h4, h5, h6]
  · simp [char_Class.j2]
theorem classN.e2 (k : Nat) (x : Int) (b : Bool) : char_Class.j1 (k + 5) x x b = some (if b = true then 5 else classN.c1 x) := by
  cases b
  · simp only [char_Class.j1, classN.e3, classN.c1]
    by_cases h1 : x = 33 <;> by_cases h2 : x = 59 <;> by_cases h3 : x = 44 <;> by_cases h4 : x = 124 <;> simp [h1, h2, h3, h4]
  · simp [char_Class.j1]
theorem classN.e1 (k : Nat) (x : Int) (b : Bool) : char_Class.j0 (k + 6) x x b = some (if b = true then 4 else classN.c0 x) := by
  cases b
  · simp only [char_Class.j0, classN.e2, classN.c0]
    by_cases h1 : x = 9 <;> by_cases h2 : x = 10 <;> by_cases h3 : x = 13 <;> by_cases h4 : x = 32 <;> simp [h1, h2, h3, h4]
  · simp [char_Class.j0]
theorem class_all (k : Nat) (x : Int) : char_Class.f (k + 6) x = some (classN x) := by
  unfold char_Class.f classN
  simp only [classN.e1]
  by_cases h43 : x = 43
  · rw [if_pos h43, if_pos h43, if_pos (by simpa using h43)]
  rw [if_neg h43, if_neg h43]
  by_cases h45 : x = 45
  · rw [if_pos h45, if_pos h45, if_pos (by simpa using h45)]
  rw [if_neg h45, if_neg h45]
  by_cases h42 : x = 42
  · rw [if_pos h42, if_pos h42, if_pos (by simpa using h42)]
  rw [if_neg h42, if_neg h42]
  by_cases h47 : x = 47
  · rw [if_pos h47, if_pos h47, if_pos (by simpa using h47)]
  rw [if_neg h47, if_neg h47]
  by_cases h92 : x = 92
  · rw [if_pos h92, if_pos h92, if_pos (by simpa using h92)]
  rw [if_neg h92, if_neg h92]
  by_cases h94 : x = 94
  · rw [if_pos h94, if_pos h94, if_pos (by simpa using h94)]
  rw [if_neg h94, if_neg h94]
  by_cases h60 : x = 60
  · rw [if_pos h60, if_pos h60, if_pos (by simpa using h60)]
  rw [if_neg h60, if_neg h60]
  by_cases h62 : x = 62
  · rw [if_pos h62, if_pos h62, if_pos (by simpa using h62)]
  rw [if_neg h62, if_neg h62]
  by_cases h61 : x = 61
  · rw [if_pos h61, if_pos h61, if_pos (by simpa using h61)]
  rw [if_neg h61, if_neg h61]
  by_cases h126 : x = 126
  · rw [if_pos h126, if_pos h126, if_pos (by simpa using h126)]
  rw [if_neg h126, if_neg h126]
  by_cases h58 : x = 58
  · rw [if_pos h58, if_pos h58, if_pos (by simpa using h58)]
  rw [if_neg h58, if_neg h58]
  by_cases h46 : x = 46
  · rw [if_pos h46, if_pos h46, if_pos (by simpa using h46)]
  rw [if_neg h46, if_neg h46]
  by_cases h63 : x = 63
  · rw [if_pos h63, if_pos h63, if_pos (by simpa using h63)]
  rw [if_neg h63, if_neg h63]
  by_cases h64 : x = 64
  · rw [if_pos h64, if_pos h64, if_pos (by simpa using h64)]
  rw [if_neg h64, if_neg h64]
  by_cases h35 : x = 35
  · rw [if_pos h35, if_pos h35, if_pos (by simpa using h35)]
  rw [if_neg h35, if_neg h35]
  by_cases h38 : x = 38
  · rw [if_pos h38, if_pos h38, if_pos (by simpa using h38)]
  rw [if_neg h38, if_neg h38]
  by_cases h : x = 36
  · rw [if_pos (by simpa using h), if_pos h]
  · rw [if_neg (by simpa using h), if_neg h]
theorem class_some (c : Int) : char_Class.f 8 c = some (classN c) := class_all 2 c
theorem drawn_heap {w w' : World} (h : Drawn0 w w') : w'.heap = w.heap := by
  obtain ⟨n, rfl⟩ := h
  induction n generalizing w with
  | zero => rfl
  | succ n ih => exact (ih (w := w.drew)).trans rfl
/-- the cutter in memory -/
structure token_Cut.Ct (w0 w : World) (g : Nat) (s : ByteArray) (p : Int) (gl : Bool) (v : Value) (l : List S30) : Prop where
  blk : w.heap[g]? = some (.cells #[.string s, .int .i64 p, .bool gl, v] 37 (0, 0))
  own : Kd.R k30 30 w w0.heap.size (fun _ => True) v l
  ge : w0.heap.size ≤ g
  bel : Below w0.heap.size w0 w
theorem token_Cut.Ct.below {w0 w w' : World} {g : Nat} {s : ByteArray} {p : Int} {gl : Bool} {v : Value} {l : List S30} (h : token_Cut.Ct w0 w g s p gl v l) (hb : Below w.heap.size w w') : token_Cut.Ct w0 w' g s p gl v l :=
  ⟨blk_below h.blk hb, Kd.R_below h.own hb, h.ge, h.bel.trans (hb.mono h.bel.size)⟩
theorem token_Cut.ty : ∀ q, q ∈ 30 :: k30.E → q ≠ 37 := fun q hq => by
  rw [show k30.E = [] from rfl] at hq
  simp only [List.mem_singleton] at hq
  subst hq
  decide
theorem token_Cut.Ct.set0 {w0 w : World} {g : Nat} {s : ByteArray} {p : Int} {gl : Bool} {v : Value} {l : List S30} (h : token_Cut.Ct w0 w g s p gl v l) (s' : ByteArray) : token_Cut.Ct w0 (w.setCell ⟨g, 0, none⟩ (.string s')) g s' p gl v l :=
  ⟨blk_put h.blk 0 _ rfl, Kd.R_set h.own h.blk token_Cut.ty 0 _, h.ge, h.bel.setCell h.ge _⟩
theorem token_Cut.Ct.set1 {w0 w : World} {g : Nat} {s : ByteArray} {p : Int} {gl : Bool} {v : Value} {l : List S30} (h : token_Cut.Ct w0 w g s p gl v l) (p' : Int) : token_Cut.Ct w0 (w.setCell ⟨g, 1, none⟩ (.int .i64 p')) g s p' gl v l :=
  ⟨blk_put h.blk 1 _ rfl, Kd.R_set h.own h.blk token_Cut.ty 1 _, h.ge, h.bel.setCell h.ge _⟩
theorem token_Cut.Ct.set2 {w0 w : World} {g : Nat} {s : ByteArray} {p : Int} {gl : Bool} {v : Value} {l : List S30} (h : token_Cut.Ct w0 w g s p gl v l) (gl' : Bool) : token_Cut.Ct w0 (w.setCell ⟨g, 2, none⟩ (.bool gl')) g s p gl' v l :=
  ⟨blk_put h.blk 2 _ rfl, Kd.R_set h.own h.blk token_Cut.ty 2 _, h.ge, h.bel.setCell h.ge _⟩
theorem token_Cut.Ct.drewN {w0 w : World} {g : Nat} {s : ByteArray} {p : Int} {gl : Bool} {v : Value} {l : List S30} (h : token_Cut.Ct w0 w g s p gl v l) (n : Nat) : token_Cut.Ct w0 (w.drewN n) g s p gl v l :=
  h.below (pw_below_drewN (Below.refl _ _) n)
theorem token_Cut.Ct.drew {w0 w : World} {g : Nat} {s : ByteArray} {p : Int} {gl : Bool} {v : Value} {l : List S30} (h : token_Cut.Ct w0 w g s p gl v l) : token_Cut.Ct w0 w.drew g s p gl v l :=
  h.below (Below.refl _ _).drew
/-- the world behind drop -/
def token_Cut.dropped (w : World) (g : Nat) (s : ByteArray) (p : Int) (n : Nat) : World := ((w.setCell ⟨g, 0, none⟩ (.string (s.extract n s.size))).setCell ⟨g, 1, none⟩ (.int .i64 (p + n))).drew
theorem token_Cut.Ct.dropped {w0 w : World} {g : Nat} {s : ByteArray} {p : Int} {gl : Bool} {v : Value} {l : List S30} (h : token_Cut.Ct w0 w g s p gl v l) (n : Nat) : token_Cut.Ct w0 (token_Cut.dropped w g s p n) g (s.extract n s.size) (p + n) gl v l :=
  ((h.set0 _).set1 _).drew
theorem token_Cut.far_dropped {w : World} {k t : Nat} {cs : Array Value} (h : w.heap[k]? = some (.cells cs t (0, 0))) {g : Nat} (hne : k ≠ g) (s : ByteArray) (p : Int) (n : Nat) : (token_Cut.dropped w g s p n).heap[k]? = some (.cells cs t (0, 0)) :=
  blk_far (p := ⟨g, 1, none⟩) (blk_far (p := ⟨g, 0, none⟩) h hne _) hne _
theorem token_Cut.Ct.mk3 {w0 w : World} {g : Nat} {s : ByteArray} {p : Int} {gl : Bool} {v v1 : Value} {l : List S30} (hb : w.heap[g]? = some (.cells #[.string s, .int .i64 p, .bool gl, v] 37 (0, 0))) (ho : Kd.R k30 30 w w0.heap.size (fun _ => True) v1 l) (hg : w0.heap.size ≤ g) (hB : Below w0.heap.size w0 w) : token_Cut.Ct w0 (w.setCell ⟨g, 3, none⟩ v1) g s p gl v1 l :=
  ⟨blk_put hb 3 _ rfl, Kd.R_set ho hb token_Cut.ty 3 _, hg, hB.setCell hg _⟩
/-- what a token is made of -/
theorem token_Cut.info : (Tryd.prog.info? 30).map (fun i => (i.zero, i.size, i.bytes)) = some (some (.agg #[(.int .i64 0), (.string ⟨#[]⟩), (.int .i64 0), (.int .i64 0)]), 4, 40) := by kernel_rfl
theorem token_Cut.app {ops : Array Oper} {o : Oper} {a : Act} {Q : Exit → Act → World → Prop} {K : Act → World → Prop} {E : Prop} {w0 W : World} (hg : o.guard = none) (s x : Operand)
    (ho : o.op = .call { callee := .builtin .append, args := #[s, x], argTypes := #[23, 23] }) (v : Value) (l : List S30) (kd : Int) (tx : ByteArray) (N p : Int) (hs : a.eval s = v) (hx : a.eval x = .slice (some ⟨W.heap.size, 0, none⟩) 1 1)
    (HO : Kd.R k30 30 W w0.heap.size (fun _ => True) v l) (HB : Below w0.heap.size w0 W) (hl : l.length ≤ 100000)
    (h : ∀ v1 w1, Kd.R k30 30 w1 w0.heap.size (fun _ => True) v1 (l ++ [⟨kd, tx, N, p⟩]) → Below w0.heap.size w0 w1 → W.grownBy w1 v.ownBlock → K (a.put o.dst v1) w1) :
    if Region.wanted o (yielded ops a.tmps) = true then Oper.wp Tryd.prog o a (W.alloc (.cells #[.int .i64 kd, .string tx, .int .i64 N, .int .i64 p] 30)) K Q else E := by
  have hw : Region.wanted o (yielded ops a.tmps) = true := by simp [Region.wanted, hg]
  have := Kd.R_append_step (P := Tryd.prog) (ops := ops) (o := o) (a := a) (Q := Q) (Kc := K) k30 (w0 := w0) (W := W) w0.heap.size hw s x 23 30 (.agg #[(.int .i64 0), (.string ⟨#[]⟩), (.int .i64 0), (.int .i64 0)]) 40 ho Tryd.underlying23 token_Cut.info rfl (by decide) (by omega) v l (⟨kd, tx, N, p⟩ : S30) [.int .i64 kd, .string tx, .int .i64 N, .int .i64 p] (fun _ => True) (fun _ => False) hs hx (k30_mkM _ _ _ _) (fun _ hk => hk.elim) (fun _ _ => trivial) HO HB HB.size (by omega) (fun v1 w1 h1 h2 h3 _ => h v1 w1 h1 h2 h3)
  rw [if_pos hw] at this ⊢
  exact this
set_option maxRecDepth 100000 in
set_option maxHeartbeats 2000000 in
/-- drop passes over some bytes. -/
theorem token_Cut.drop (w0 w : World) (g : Nat) (s : ByteArray) (p : Int) (gl : Bool) (v : Value) (l : List S30) (n : Nat) (h : token_Cut.Ct w0 w g s p gl v l) (hn : n ≤ s.size) (h0 : 0 ≤ p) (hs : p + s.size ≤ 9223372036854775807) :
    Calls Tryd.prog 28 #[.pointer (some ⟨g, 0, none⟩), .int .i64 n] w fun e w' => e = .returned (.tuple #[]) ∧ w' = token_Cut.dropped w g s p n := by
  have H := Aside0.mk h
  have x0 : w.cell? ⟨g, 0, none⟩ = some (.string s) := (blk_cell h.blk 0).trans rfl
  have x1 : w.cell? ⟨g, 1, none⟩ = some (.int .i64 p) := (blk_cell h.blk 1).trans rfl
  have f0 := blk_frozen h.blk 0
  have f1 := blk_frozen h.blk 1
  have hw : wrap64 (p + n) = p + n := by unfold wrap64; omega
  have hn0 : ((n : Int) ≥ 0) = True := eq_true (Int.natCast_nonneg n)
  have hn1 : ((n : Int) ≤ (s.size : Int)) = True := eq_true (by omega)
  clear h
  go_enter Tryd.func28, Tryd.ntmps28
  go_wp2
  go_region
  all_goals (go_end0; exact ⟨rfl, rfl⟩)
theorem token_Cut.dropI (w0 w : World) (g : Nat) (s : ByteArray) (p : Int) (gl : Bool) (v : Value) (l : List S30) (n : Nat) (m : Int) (hm : m = (n : Int)) (h : token_Cut.Ct w0 w g s p gl v l) (hn : n ≤ s.size) (h0 : 0 ≤ p) (hs : p + s.size ≤ 9223372036854775807) :
    Calls Tryd.prog 28 #[.pointer (some ⟨g, 0, none⟩), .int .i64 m] w fun e w' => e = .returned (.tuple #[]) ∧ w' = token_Cut.dropped w g s p n := by
  subst hm
  exact token_Cut.drop w0 w g s p gl v l n h hn h0 hs
/-- a bracket right behind is a TOpen -/
def token_Cut.glue (kd : Int) (tx : ByteArray) : Bool := kd == 1 || kd == 2 || kd == 3 || tx.toList == ([93] : List UInt8) || tx.toList == ([125] : List UInt8)
theorem token_Cut.glue_cases (kd : Int) (tx : ByteArray) : ((kd == 1) = true ∧ token_Cut.glue kd tx = true) ∨ ((kd == 1) = false ∧ (kd == 2) = true ∧ token_Cut.glue kd tx = true) ∨ ((kd == 1) = false ∧ (kd == 2) = false ∧ (kd == 3) = true ∧ token_Cut.glue kd tx = true) ∨
    ((kd == 1) = false ∧ (kd == 2) = false ∧ (kd == 3) = false ∧ (tx.toList == ([93] : List UInt8)) = true ∧ token_Cut.glue kd tx = true) ∨ ((kd == 1) = false ∧ (kd == 2) = false ∧ (kd == 3) = false ∧ (tx.toList == ([93] : List UInt8)) = false ∧ (tx.toList == ([125] : List UInt8)) = true ∧ token_Cut.glue kd tx = true) ∨
    ((kd == 1) = false ∧ (kd == 2) = false ∧ (kd == 3) = false ∧ (tx.toList == ([93] : List UInt8)) = false ∧ (tx.toList == ([125] : List UInt8)) = false ∧ token_Cut.glue kd tx = false) := by
  unfold token_Cut.glue
  generalize (kd == 1) = b1
  generalize (kd == 2) = b2
  generalize (kd == 3) = b3
  generalize (tx.toList == ([93] : List UInt8)) = b4
  generalize (tx.toList == ([125] : List UInt8)) = b5
  revert b1 b2 b3 b4 b5
  decide
set_option maxRecDepth 100000 in
set_option maxHeartbeats 4000000 in
/-- lay tells a token of some bytes. -/
theorem token_Cut.lay (w0 w : World) (g : Nat) (s : ByteArray) (p : Int) (gl : Bool) (v : Value) (l : List S30) (kd : Int) (tx : ByteArray) (N a0 : Int) (n : Nat) (h : token_Cut.Ct w0 w g s p gl v l) (hn : n ≤ s.size) (h0 : 0 ≤ p) (hs : p + s.size ≤ 9223372036854775807) (hl : l.length ≤ 100000) :
    Calls Tryd.prog 30 #[.pointer (some ⟨g, 0, none⟩), .agg #[.int .i64 kd, .string tx, .int .i64 N, .int .i64 a0], .int .i64 n] w fun e w' => e = .returned (.tuple #[]) ∧ ∃ v', token_Cut.Ct w0 w' g (s.extract n s.size) (p + n) (token_Cut.glue kd tx) v' (l ++ [⟨kd, tx, N, p⟩]) := by
  have hne : g ≠ w.heap.size := Nat.ne_of_lt (blk_lt h.blk)
  have H1 := h.below (below_alloc (Below.refl _ _) (.cells #[.int .i64 kd, .string tx, .int .i64 N, .int .i64 a0] 30))
  have HX := blk_new w (.cells #[.int .i64 kd, .string tx, .int .i64 N, .int .i64 a0] 30)
  have x1 := (blk_cell H1.blk 1).trans rfl
  have y3 := (blk_cell HX 3).trans rfl
  have f3 := blk_frozen HX 3
  have H2 := h.below (below_alloc (Below.refl _ _) (.cells #[.int .i64 kd, .string tx, .int .i64 N, .int .i64 p] 30))
  have HY := Aside0.mk (blk_new w (.cells #[.int .i64 kd, .string tx, .int .i64 N, .int .i64 p] 30))
  replace HX := Aside0.mk HX
  replace H1 := Aside0.mk H1
  replace H2 := Aside0.mk H2
  have HG := Aside0.mk (show w0.heap.size ≤ w.heap.size from h.bel.size)
  have HV := Aside0.mk (show some w.heap.size ≠ v.ownBlock from fun e => absurd ((Kd.R_bound h.own).1 _ e.symm).2.2.1 (Nat.lt_irrefl _))
  clear h
  go_enter Tryd.func30, Tryd.ntmps30
  go_wp2
  clear x1 y3 f3 HX H1
  obtain ⟨W2, hW2⟩ : ∃ W2, W2 = w.alloc (.cells #[.int .i64 kd, .string tx, .int .i64 N, .int .i64 p] 30) := ⟨_, rfl⟩
  rw [← hW2] at H2 HY ⊢
  clear hW2
  obtain ⟨gb, hgb⟩ : ∃ gb, gb = w.heap.size := ⟨_, rfl⟩
  rw [← hgb] at HG HY HV hne ⊢
  clear hgb
  have x3 : W2.cell? ⟨g, 3, none⟩ = some v := (blk_cell H2.out.blk 3).trans rfl
  have y0 : W2.cell? ⟨gb, 0, none⟩ = some (.int .i64 kd) := (blk_cell HY.out 0).trans rfl
  have y1 : W2.cell? ⟨gb, 1, none⟩ = some (.string tx) := (blk_cell HY.out 1).trans rfl
  have y2 : W2.cell? ⟨gb, 2, none⟩ = some (.int .i64 N) := (blk_cell HY.out 2).trans rfl
  have y3 : W2.cell? ⟨gb, 3, none⟩ = some (.int .i64 p) := (blk_cell HY.out 3).trans rfl
  have f3 := blk_frozen H2.out.blk 3
  have xa3 : (W2.alloc (.cells #[.int .i64 kd, .string tx, .int .i64 N, .int .i64 p] 30)).cell? ⟨g, 3, none⟩ = some v := (blk_cell (H2.out.below (below_alloc (Below.refl _ _) _)).blk 3).trans rfl
  go_region_law (refine token_Cut.app (W := W2.drew) (w0 := w0) ?l1 (.tmp 15) (.tmp 17) ?l2 v l kd tx N p ?l3 ?l4 H2.out.drew.own H2.out.drew.bel hl ?_; (case l1 => rfl); (case l2 => rfl); (case l3 => rfl); (case l4 => rfl); intro v1 w1 ho hb hgr; obtain ⟨A1, c1, ev⟩ := Kd.R_slice ho; rw [List.length_append, List.length_singleton] at ev; subst ev; have hg1 := Aside0.mk (blk_grown H2.out.drew.blk hgr (Kd.R_ne H2.out.own H2.out.blk (by decide))); have hx1 := Aside0.mk (blk_grown (blk_drew HY.out) hgr HV.out); have z3 : w1.cell? ⟨g, 3, none⟩ = some v := (blk_cell hg1.out 3).trans rfl; have q3 := blk_frozen hg1.out 3; have H3 := Aside0.mk (token_Cut.Ct.mk3 hg1.out ho H2.out.ge hb); have HZ := Aside0.mk (blk_far (p := ⟨g, 3, none⟩) hx1.out hne.symm (.slice A1 (l.length + 1) c1)); clear ho hb hgr)
  all_goals (rcases token_Cut.glue_cases kd tx with ⟨e0, eg⟩ | ⟨e0, e2, eg⟩ | ⟨e0, e2, e4, eg⟩ | ⟨e0, e2, e4, e6, eg⟩ | ⟨e0, e2, e4, e6, e8, eg⟩ | ⟨e0, e2, e4, e6, e8, eg⟩)
  all_goals
    have gn : g ≠ gb := hne
    go_wp2_with (first | (go_at_call 28; (with_reducible refine (token_Cut.drop w0 _ g s p gl _ _ n H3.out hn h0 hs).mono ?_); rintro e w4 ⟨rfl, hw4⟩; have H4 := Aside0.mk (H3.out.dropped n); have HQ := Aside0.mk (token_Cut.far_dropped HZ.out gn.symm s p n); rw [← hw4] at H4 HQ; clear hw4 H3 HZ; have q0 : w4.cell? ⟨gb, 0, none⟩ = some (.int .i64 kd) := (blk_cell HQ.out 0).trans rfl; have q1 : w4.cell? ⟨gb, 1, none⟩ = some (.string tx) := (blk_cell HQ.out 1).trans rfl; have q2 : w4.cell? ⟨g, 2, none⟩ = some (.bool gl) := (blk_cell H4.out.blk 2).trans rfl; have qf := blk_frozen H4.out.blk 2))
    go_end0
    exact ⟨rfl, _, by rw [eg]; exact H4.out.set2 _⟩
/-- how many bytes at the beginning have runes that will do -/
def token_Cut.whL (q : Int → Bool) (n : Nat) : List (Nat × Nat) → Nat
  | [] => n
  | x :: l => if q (classN x.2) = true then token_Cut.whL q n l else x.1
def token_Cut.wh (q : Int → Bool) (s : ByteArray) : Nat := token_Cut.whL q s.size (runesOf s)
def token_Cut.qword (k : Int) : Bool := decide (1 ≤ k) && decide (k ≤ 3)
def token_Cut.qsign (k : Int) : Bool := k == 4
def token_Cut.qdigit (k : Int) : Bool := k == 3
theorem token_Cut.word_some (k : Int) : token_word.f k = some (token_Cut.qword k) := by
  unfold token_word.f token_Cut.qword
  by_cases h : k ≥ 1
  · rw [if_pos h, show decide (1 ≤ k) = true from decide_eq_true h]; rfl
  · rw [if_neg h, show decide (1 ≤ k) = false from decide_eq_false h]; rfl
theorem token_Cut.sign_some (k : Int) : token_sign.f k = some (token_Cut.qsign k) := rfl
theorem token_Cut.digit_some (k : Int) : token_digit.f k = some (token_Cut.qdigit k) := rfl
set_option maxRecDepth 100000 in
set_option maxHeartbeats 2000000 in
theorem token_Cut.while_word (w0 w : World) (g : Nat) (s : ByteArray) (p : Int) (gl : Bool) (v : Value) (l : List S30) (h : token_Cut.Ct w0 w g s p gl v l) :
    Calls Tryd.prog 32 #[.pointer (some ⟨g, 0, none⟩), .func (.func 33) #[] #[]] w fun e w' => e = .returned (.int .i64 (token_Cut.wh token_Cut.qword s : Nat)) ∧ Below w.heap.size w w' := by
  have hlt := blk_lt h.blk
  have x0 : w.cell? ⟨g, 0, none⟩ = some (.string s) := (blk_cell h.blk 0).trans rfl
  have HX := Aside0.mk x0
  clear h
  go_enter Tryd.func32, Tryd.ntmps32
  go_wp2
  go_loopw [] (fun wr => ∃ (pos fuel : Nat), Aside0 (wr.heap[w.heap.size]? = some (.stringIter s pos) ∧ Below w.heap.size w wr ∧ s.size ≤ pos + fuel ∧ token_Cut.whL token_Cut.qword s.size (runesAt s fuel pos) = token_Cut.wh token_Cut.qword s)) (fun wr => s.size - wr.iterPos w.heap.size)
  case atStart => exact ⟨0, s.size, ⟨World.iter_heap w s 0, (Below.refl _ w).alloc (Nat.le_refl _) _, by omega, rfl⟩⟩
  case round =>
    obtain ⟨pos, fuel, HA⟩ := hrel
    clear x0
    have HIT := Aside0.mk HA.out.1
    have HB := Aside0.mk HA.out.2.1
    by_cases hp : pos < s.size
    · have hnx : ∀ ty, (Instr.next (.pointer (some ⟨w.heap.size, 0, none⟩)) true ty).run Tryd.prog wr = _ := fun ty => Lib.run_next_any_at wr w.heap.size s pos ty HIT.out hp
      obtain ⟨f', -, hf', hst⟩ := runesAt_step hp HA.out.2.2.1
      have hgo := HA.out.2.2.2
      rw [hst] at hgo
      clear hst
      have hwd := Lib.decode_width_pos s pos hp
      generalize hc : (Utf8.decode s pos).1 = c at hgo hnx
      generalize hn : (Utf8.decode s pos).2 = n at hgo hnx hf' hwd
      obtain ⟨kk, hkk⟩ : ∃ kk, classN c = kk := ⟨_, rfl⟩
      have HC := Aside0.mk (hkk ▸ class_some c)
      simp only [token_Cut.whL, hkk] at hgo
      have HF := Aside0.mk hf'
      have HW := Aside0.mk (And.intro hwd hp)
      have HB2 := Aside0.mk (Lib.below_iterAt HB.out (Nat.le_refl _) s (pos + n))
      have HI2 := Aside0.mk (Lib.iterAt_heap wr w.heap.size s pos (pos + n) HIT.out)
      clear hkk hc hn hf' hwd HA
      obtain ⟨b, hb⟩ : ∃ b, token_Cut.qword kk = b := ⟨_, rfl⟩
      have HD := Aside0.mk (hb ▸ token_Cut.word_some kk)
      rw [hb] at hgo
      clear hb
      cases b with
      | true =>
        rw [if_pos rfl] at hgo
        have HGO := Aside0.mk hgo
        clear hgo
        go_wp2_with (first
          | (go_at_call 24; (with_reducible refine (char_Class.calls 8 _ kk _ HC.out).mono ?_); rintro e w5 ⟨rfl, hd5⟩; have hh5 := drawn_heap hd5; have HD5 := Aside0.mk hd5; clear hd5)
          | (go_at_call 33; (with_reducible refine (token_word.calls _ true _ HD.out).mono ?_); rintro e w6 ⟨rfl, hd6⟩; have hh6 := drawn_heap hd6; have HD6 := Aside0.mk hd6; clear hd6))
        go_roundw
        case rel => exact ⟨pos + n, f', ⟨by rw [hh6, hh5]; exact HI2.out, (HB2.out.trans (HD5.out.below.mono (by rw [Lib.iterAt_size]; exact HB.out.size))).trans (HD6.out.below.mono (by rw [hh5, Lib.iterAt_size]; exact HB.out.size)), HF.out, HGO.out⟩⟩
        case measure => simp only [World.iterPos, hh6, hh5, HI2.out, HIT.out]; have := HW.out; omega
      | false =>
        rw [if_neg (by decide)] at hgo
        have HGO := Aside0.mk hgo
        clear hgo
        go_wp2_with (first
          | (go_at_call 24; (with_reducible refine (char_Class.calls 8 _ kk _ HC.out).mono ?_); rintro e w5 ⟨rfl, hd5⟩; have hh5 := drawn_heap hd5; have HD5 := Aside0.mk hd5; clear hd5)
          | (go_at_call 33; (with_reducible refine (token_word.calls _ false _ HD.out).mono ?_); rintro e w6 ⟨rfl, hd6⟩; have hh6 := drawn_heap hd6; have HD6 := Aside0.mk hd6; clear hd6))
        go_ret
        exact ⟨by rw [← HGO.out]; rfl, (HB2.out.trans (HD5.out.below.mono (by rw [Lib.iterAt_size]; exact HB.out.size))).trans (HD6.out.below.mono (by rw [hh5, Lib.iterAt_size]; exact HB.out.size))⟩
    · have hnx : ∀ ty, (Instr.next (.pointer (some ⟨w.heap.size, 0, none⟩)) true ty).run Tryd.prog wr = _ := fun ty => Lib.run_next_end_at wr w.heap.size s pos ty HIT.out hp
      have hgo := HA.out.2.2.2
      rw [runesAt_end hp] at hgo
      simp only [token_Cut.whL] at hgo
      have HGO := Aside0.mk hgo
      have hx := (HB.out.cell (p := ⟨g, 0, none⟩) hlt).trans HX.out
      clear hgo HA
      go_wp2
      go_ret
      exact ⟨by rw [← HGO.out]; rfl, HB.out⟩
set_option maxRecDepth 100000 in
set_option maxHeartbeats 2000000 in
theorem token_Cut.while_sign (w0 w : World) (g : Nat) (s : ByteArray) (p : Int) (gl : Bool) (v : Value) (l : List S30) (h : token_Cut.Ct w0 w g s p gl v l) :
    Calls Tryd.prog 32 #[.pointer (some ⟨g, 0, none⟩), .func (.func 35) #[] #[]] w fun e w' => e = .returned (.int .i64 (token_Cut.wh token_Cut.qsign s : Nat)) ∧ Below w.heap.size w w' := by
  have hlt := blk_lt h.blk
  have x0 : w.cell? ⟨g, 0, none⟩ = some (.string s) := (blk_cell h.blk 0).trans rfl
  have HX := Aside0.mk x0
  clear h
  go_enter Tryd.func32, Tryd.ntmps32
  go_wp2
  go_loopw [] (fun wr => ∃ (pos fuel : Nat), Aside0 (wr.heap[w.heap.size]? = some (.stringIter s pos) ∧ Below w.heap.size w wr ∧ s.size ≤ pos + fuel ∧ token_Cut.whL token_Cut.qsign s.size (runesAt s fuel pos) = token_Cut.wh token_Cut.qsign s)) (fun wr => s.size - wr.iterPos w.heap.size)
  case atStart => exact ⟨0, s.size, ⟨World.iter_heap w s 0, (Below.refl _ w).alloc (Nat.le_refl _) _, by omega, rfl⟩⟩
  case round =>
    obtain ⟨pos, fuel, HA⟩ := hrel
    clear x0
    have HIT := Aside0.mk HA.out.1
    have HB := Aside0.mk HA.out.2.1
    by_cases hp : pos < s.size
    · have hnx : ∀ ty, (Instr.next (.pointer (some ⟨w.heap.size, 0, none⟩)) true ty).run Tryd.prog wr = _ := fun ty => Lib.run_next_any_at wr w.heap.size s pos ty HIT.out hp
      obtain ⟨f', -, hf', hst⟩ := runesAt_step hp HA.out.2.2.1
      have hgo := HA.out.2.2.2
      rw [hst] at hgo
      clear hst
      have hwd := Lib.decode_width_pos s pos hp
      generalize hc : (Utf8.decode s pos).1 = c at hgo hnx
      generalize hn : (Utf8.decode s pos).2 = n at hgo hnx hf' hwd
      obtain ⟨kk, hkk⟩ : ∃ kk, classN c = kk := ⟨_, rfl⟩
      have HC := Aside0.mk (hkk ▸ class_some c)
      simp only [token_Cut.whL, hkk] at hgo
      have HF := Aside0.mk hf'
      have HW := Aside0.mk (And.intro hwd hp)
      have HB2 := Aside0.mk (Lib.below_iterAt HB.out (Nat.le_refl _) s (pos + n))
      have HI2 := Aside0.mk (Lib.iterAt_heap wr w.heap.size s pos (pos + n) HIT.out)
      clear hkk hc hn hf' hwd HA
      obtain ⟨b, hb⟩ : ∃ b, token_Cut.qsign kk = b := ⟨_, rfl⟩
      have HD := Aside0.mk (hb ▸ token_Cut.sign_some kk)
      rw [hb] at hgo
      clear hb
      cases b with
      | true =>
        rw [if_pos rfl] at hgo
        have HGO := Aside0.mk hgo
        clear hgo
        go_wp2_with (first
          | (go_at_call 24; (with_reducible refine (char_Class.calls 8 _ kk _ HC.out).mono ?_); rintro e w5 ⟨rfl, hd5⟩; have hh5 := drawn_heap hd5; have HD5 := Aside0.mk hd5; clear hd5)
          | (go_at_call 35; (with_reducible refine (token_sign.calls _ true _ HD.out).mono ?_); rintro e w6 ⟨rfl, hd6⟩; have hh6 := drawn_heap hd6; have HD6 := Aside0.mk hd6; clear hd6))
        go_roundw
        case rel => exact ⟨pos + n, f', ⟨by rw [hh6, hh5]; exact HI2.out, (HB2.out.trans (HD5.out.below.mono (by rw [Lib.iterAt_size]; exact HB.out.size))).trans (HD6.out.below.mono (by rw [hh5, Lib.iterAt_size]; exact HB.out.size)), HF.out, HGO.out⟩⟩
        case measure => simp only [World.iterPos, hh6, hh5, HI2.out, HIT.out]; have := HW.out; omega
      | false =>
        rw [if_neg (by decide)] at hgo
        have HGO := Aside0.mk hgo
        clear hgo
        go_wp2_with (first
          | (go_at_call 24; (with_reducible refine (char_Class.calls 8 _ kk _ HC.out).mono ?_); rintro e w5 ⟨rfl, hd5⟩; have hh5 := drawn_heap hd5; have HD5 := Aside0.mk hd5; clear hd5)
          | (go_at_call 35; (with_reducible refine (token_sign.calls _ false _ HD.out).mono ?_); rintro e w6 ⟨rfl, hd6⟩; have hh6 := drawn_heap hd6; have HD6 := Aside0.mk hd6; clear hd6))
        go_ret
        exact ⟨by rw [← HGO.out]; rfl, (HB2.out.trans (HD5.out.below.mono (by rw [Lib.iterAt_size]; exact HB.out.size))).trans (HD6.out.below.mono (by rw [hh5, Lib.iterAt_size]; exact HB.out.size))⟩
    · have hnx : ∀ ty, (Instr.next (.pointer (some ⟨w.heap.size, 0, none⟩)) true ty).run Tryd.prog wr = _ := fun ty => Lib.run_next_end_at wr w.heap.size s pos ty HIT.out hp
      have hgo := HA.out.2.2.2
      rw [runesAt_end hp] at hgo
      simp only [token_Cut.whL] at hgo
      have HGO := Aside0.mk hgo
      have hx := (HB.out.cell (p := ⟨g, 0, none⟩) hlt).trans HX.out
      clear hgo HA
      go_wp2
      go_ret
      exact ⟨by rw [← HGO.out]; rfl, HB.out⟩
set_option maxRecDepth 100000 in
set_option maxHeartbeats 2000000 in
theorem token_Cut.while_digit (w0 w : World) (g : Nat) (s : ByteArray) (p : Int) (gl : Bool) (v : Value) (l : List S30) (h : token_Cut.Ct w0 w g s p gl v l) :
    Calls Tryd.prog 32 #[.pointer (some ⟨g, 0, none⟩), .func (.func 49) #[] #[]] w fun e w' => e = .returned (.int .i64 (token_Cut.wh token_Cut.qdigit s : Nat)) ∧ Below w.heap.size w w' := by
  have hlt := blk_lt h.blk
  have x0 : w.cell? ⟨g, 0, none⟩ = some (.string s) := (blk_cell h.blk 0).trans rfl
  have HX := Aside0.mk x0
  clear h
  go_enter Tryd.func32, Tryd.ntmps32
  go_wp2
  go_loopw [] (fun wr => ∃ (pos fuel : Nat), Aside0 (wr.heap[w.heap.size]? = some (.stringIter s pos) ∧ Below w.heap.size w wr ∧ s.size ≤ pos + fuel ∧ token_Cut.whL token_Cut.qdigit s.size (runesAt s fuel pos) = token_Cut.wh token_Cut.qdigit s)) (fun wr => s.size - wr.iterPos w.heap.size)
  case atStart => exact ⟨0, s.size, ⟨World.iter_heap w s 0, (Below.refl _ w).alloc (Nat.le_refl _) _, by omega, rfl⟩⟩
  case round =>
    obtain ⟨pos, fuel, HA⟩ := hrel
    clear x0
    have HIT := Aside0.mk HA.out.1
    have HB := Aside0.mk HA.out.2.1
    by_cases hp : pos < s.size
    · have hnx : ∀ ty, (Instr.next (.pointer (some ⟨w.heap.size, 0, none⟩)) true ty).run Tryd.prog wr = _ := fun ty => Lib.run_next_any_at wr w.heap.size s pos ty HIT.out hp
      obtain ⟨f', -, hf', hst⟩ := runesAt_step hp HA.out.2.2.1
      have hgo := HA.out.2.2.2
      rw [hst] at hgo
      clear hst
      have hwd := Lib.decode_width_pos s pos hp
      generalize hc : (Utf8.decode s pos).1 = c at hgo hnx
      generalize hn : (Utf8.decode s pos).2 = n at hgo hnx hf' hwd
      obtain ⟨kk, hkk⟩ : ∃ kk, classN c = kk := ⟨_, rfl⟩
      have HC := Aside0.mk (hkk ▸ class_some c)
      simp only [token_Cut.whL, hkk] at hgo
      have HF := Aside0.mk hf'
      have HW := Aside0.mk (And.intro hwd hp)
      have HB2 := Aside0.mk (Lib.below_iterAt HB.out (Nat.le_refl _) s (pos + n))
      have HI2 := Aside0.mk (Lib.iterAt_heap wr w.heap.size s pos (pos + n) HIT.out)
      clear hkk hc hn hf' hwd HA
      obtain ⟨b, hb⟩ : ∃ b, token_Cut.qdigit kk = b := ⟨_, rfl⟩
      have HD := Aside0.mk (hb ▸ token_Cut.digit_some kk)
      rw [hb] at hgo
      clear hb
      cases b with
      | true =>
        rw [if_pos rfl] at hgo
        have HGO := Aside0.mk hgo
        clear hgo
        go_wp2_with (first
          | (go_at_call 24; (with_reducible refine (char_Class.calls 8 _ kk _ HC.out).mono ?_); rintro e w5 ⟨rfl, hd5⟩; have hh5 := drawn_heap hd5; have HD5 := Aside0.mk hd5; clear hd5)
          | (go_at_call 49; (with_reducible refine (token_digit.calls _ true _ HD.out).mono ?_); rintro e w6 ⟨rfl, hd6⟩; have hh6 := drawn_heap hd6; have HD6 := Aside0.mk hd6; clear hd6))
        go_roundw
        case rel => exact ⟨pos + n, f', ⟨by rw [hh6, hh5]; exact HI2.out, (HB2.out.trans (HD5.out.below.mono (by rw [Lib.iterAt_size]; exact HB.out.size))).trans (HD6.out.below.mono (by rw [hh5, Lib.iterAt_size]; exact HB.out.size)), HF.out, HGO.out⟩⟩
        case measure => simp only [World.iterPos, hh6, hh5, HI2.out, HIT.out]; have := HW.out; omega
      | false =>
        rw [if_neg (by decide)] at hgo
        have HGO := Aside0.mk hgo
        clear hgo
        go_wp2_with (first
          | (go_at_call 24; (with_reducible refine (char_Class.calls 8 _ kk _ HC.out).mono ?_); rintro e w5 ⟨rfl, hd5⟩; have hh5 := drawn_heap hd5; have HD5 := Aside0.mk hd5; clear hd5)
          | (go_at_call 49; (with_reducible refine (token_digit.calls _ false _ HD.out).mono ?_); rintro e w6 ⟨rfl, hd6⟩; have hh6 := drawn_heap hd6; have HD6 := Aside0.mk hd6; clear hd6))
        go_ret
        exact ⟨by rw [← HGO.out]; rfl, (HB2.out.trans (HD5.out.below.mono (by rw [Lib.iterAt_size]; exact HB.out.size))).trans (HD6.out.below.mono (by rw [hh5, Lib.iterAt_size]; exact HB.out.size))⟩
    · have hnx : ∀ ty, (Instr.next (.pointer (some ⟨w.heap.size, 0, none⟩)) true ty).run Tryd.prog wr = _ := fun ty => Lib.run_next_end_at wr w.heap.size s pos ty HIT.out hp
      have hgo := HA.out.2.2.2
      rw [runesAt_end hp] at hgo
      simp only [token_Cut.whL] at hgo
      have HGO := Aside0.mk hgo
      have hx := (HB.out.cell (p := ⟨g, 0, none⟩) hlt).trans HX.out
      clear hgo HA
      go_wp2
      go_ret
      exact ⟨by rw [← HGO.out]; rfl, HB.out⟩
/-- what a blank or a remark at the beginning takes; some none: it has no end; none: there is none -/
def token_Cut.blank (s : ByteArray) : Option (Option Nat) :=
  if classN (bt s 0) = 5 then some (some 1)
  else if bt s 0 = 37 then some (some (if Lib.indexByte s.data.toList 10 < 0 then s.size else (Lib.indexByte s.data.toList 10).toNat))
  else if strings_HasPrefix.f s (⟨#[47, 42]⟩ : ByteArray) = some true then
    (if Lib.index (s.extract 2 s.size).data.toList [42, 47] < 0 then some none else some (some ((Lib.index (s.extract 2 s.size).data.toList [42, 47]).toNat + 4)))
  else none
/-- blanks -/
def token_Cut.bl : Nat → ByteArray → Int → Bool → Bool × ByteArray × Int × Bool
  | 0, s, p, gl => (true, s, p, gl)
  | k + 1, s, p, gl => if s.size = 0 then (true, s, p, gl) else
    match token_Cut.blank s with
    | none => (true, s, p, gl)
    | some none => (false, s, p, gl)
    | some (some n) => token_Cut.bl k (s.extract n s.size) (p + n) false
theorem token_Cut.hp_some (s : ByteArray) : ∃ b, strings_HasPrefix.f s (⟨#[47, 42]⟩ : ByteArray) = some b := by
  unfold strings_HasPrefix.f stringslite_HasPrefix.f
  have h2 : ((⟨#[47, 42]⟩ : ByteArray).size : Int) = 2 := rfl
  rw [h2]
  by_cases h : (s.size : Int) ≥ 2
  · rw [if_pos h, if_pos (by decide), if_pos h]; exact ⟨_, rfl⟩
  · rw [if_neg h]; exact ⟨_, rfl⟩
theorem token_Cut.hp_two {s : ByteArray} (hb : strings_HasPrefix.f s (⟨#[47, 42]⟩ : ByteArray) = some true) : 2 ≤ s.size := by
  unfold strings_HasPrefix.f stringslite_HasPrefix.f at hb
  have h2 : ((⟨#[47, 42]⟩ : ByteArray).size : Int) = 2 := rfl
  rw [h2] at hb
  by_cases h : (s.size : Int) ≥ 2
  · omega
  · rw [if_neg h] at hb; exact absurd hb (by simp)
/-- the size of what is left, out of the memory -/
def token_Cut.left (g : Nat) (w : World) : Nat := match w.cell? ⟨g, 0, none⟩ with
  | some (.string s) => s.size
  | _ => 0
theorem token_Cut.left_eq {w0 w : World} {g : Nat} {s : ByteArray} {p : Int} {gl : Bool} {v : Value} {l : List S30} (h : token_Cut.Ct w0 w g s p gl v l) : token_Cut.left g w = s.size := by
  unfold token_Cut.left
  rw [show w.cell? ⟨g, 0, none⟩ = some (.string s) from (blk_cell h.blk 0).trans rfl]
set_option maxRecDepth 100000 in
set_option maxHeartbeats 4000000 in
/-- blanks passes over blanks and remarks. -/
theorem token_Cut.blanks (w0 w : World) (g : Nat) (s : ByteArray) (p : Int) (gl : Bool) (v : Value) (l : List S30) (h : token_Cut.Ct w0 w g s p gl v l) (hT : Tabs w0) (h0 : 0 ≤ p) (hs : p + s.size ≤ 5000) (ok : Bool) (s2 : ByteArray) (p2 : Int) (gl2 : Bool) (hR : token_Cut.bl s.size s p gl = (ok, s2, p2, gl2)) :
    Calls Tryd.prog 15 #[.pointer (some ⟨g, 0, none⟩)] w fun e w' => e = .returned (.bool ok) ∧ token_Cut.Ct w0 w' g s2 p2 gl2 v l ∧ 0 ≤ p2 ∧ p2 + s2.size = p + s.size := by
  have H := Aside0.mk h
  have HT := Aside0.mk hT
  have HR := Aside0.mk hR
  clear h hT hR
  go_enter Tryd.func15, Tryd.ntmps15
  go_wp2
  go_loopw [] (fun wr => ∃ (s' : ByteArray) (p' : Int) (gl' : Bool) (k : Nat), Aside0 (token_Cut.Ct w0 wr g s' p' gl' v l ∧ s'.size ≤ k ∧ token_Cut.bl k s' p' gl' = (ok, s2, p2, gl2) ∧ 0 ≤ p' ∧ p' + s'.size = p + s.size)) (fun wr => token_Cut.left g wr)
  case atStart => exact ⟨s, p, gl, s.size, ⟨H.out, Nat.le_refl _, HR.out, h0, rfl⟩⟩
  case round =>
    obtain ⟨s', p', gl', k, HA⟩ := hrel
    have HC := Aside0.mk HA.out.1
    have hk := HA.out.2.1
    have hb := HA.out.2.2.1
    have hp0 := HA.out.2.2.2.1
    have hps := HA.out.2.2.2.2
    have x0 : wr.cell? ⟨g, 0, none⟩ = some (.string s') := (blk_cell HC.out.blk 0).trans rfl
    have x2 : wr.cell? ⟨g, 2, none⟩ = some (.bool gl') := (blk_cell HC.out.blk 2).trans rfl
    have f2 := blk_frozen HC.out.blk 2
    clear HA H HR
    by_cases hz : s'.size = 0
    · obtain rfl : s' = ⟨#[]⟩ := ByteArray.ext (Array.eq_empty_of_size_eq_zero hz)
      have he : token_Cut.bl k ⟨#[]⟩ p' gl' = (true, ⟨#[]⟩, p', gl') := by cases k <;> rfl
      rw [he] at hb
      cases hb
      go_wp2
      go_ret
      exact ⟨rfl, HC.out, hp0, hps⟩
    · obtain ⟨k, rfl⟩ : ∃ j, k = j + 1 := ⟨k - 1, by omega⟩
      unfold token_Cut.bl at hb
      rw [if_neg hz] at hb
      have HZ := Aside0.mk hz
      have hpos : 0 < s'.size := by omega
      have he : (!s'.toList.isEmpty) = true := by rw [Bool.not_eq_true']; cases h : s'.toList with
        | nil => exact absurd (show s'.size = 0 by rw [Lib.size_eq, ← Lib.toList_data, h]; rfl) hz
        | cons a l => rfl
      have hbt : ((s'[0]'hpos).toNat : Int) = bt s' 0 := bt_at s' 0 hpos
      have hbr := bt_range s' 0
      have hw32 : wrap32 (bt s' 0) = bt s' 0 := by unfold wrap32; omega
      have HS := Aside0.mk (show p' + s'.size ≤ 9223372036854775807 by omega)
      have hn1 : token_Cut.blank s' = token_Cut.blank s' := rfl
      conv at hn1 => rhs; unfold token_Cut.blank
      obtain ⟨kk, hkk⟩ : ∃ kk, classN (bt s' 0) = kk := ⟨_, rfl⟩
      have HK := Aside0.mk (hkk ▸ class_some (bt s' 0))
      rw [hkk] at hn1
      clear hkk
      generalize hB : bt s' 0 = B at hn1 hbt hbr hw32 HK
      by_cases b5 : kk = 5
      · rw [if_pos b5] at hn1
        rw [hn1] at hb
        have k5 : (kk == 5) = true := by simp [b5]
        have HN := Aside0.mk (show 1 ≤ s'.size by omega)
        have HBL := Aside0.mk hb
        clear hn1 b5 hb hB hz
        go_wp2_with (first | (go_at_call 24; (with_reducible refine (char_Class.calls 8 _ kk _ HK.out).mono ?_); rintro e w5 ⟨rfl, ⟨n5, rfl⟩⟩) | (go_at_call 28; (with_reducible refine (token_Cut.dropI w0 _ g s' p' gl' v l 1 _ (by first | rfl | omega) (by repeat (first | exact HC.out | refine token_Cut.Ct.drewN ?_ _)) HN.out hp0 HS.out).mono ?_); rintro e w4 ⟨rfl, hw4⟩; have H4 := Aside0.mk (show token_Cut.Ct w0 w4 g (s'.extract 1 s'.size) (p' + (1 : Nat)) gl' v l by rw [hw4]; exact token_Cut.Ct.dropped (by repeat (first | exact HC.out | refine token_Cut.Ct.drewN ?_ _)) 1); clear hw4; have q2 : w4.cell? ⟨g, 2, none⟩ = some (.bool gl') := (blk_cell H4.out.blk 2).trans rfl; have qf := blk_frozen H4.out.blk 2))
        go_roundw
        case rel => exact ⟨_, _, _, k, ⟨H4.out.set2 false, by rw [ByteArray.size_extract]; have := HN.out; omega, HBL.out, by omega, by rw [ByteArray.size_extract]; have := HN.out; omega⟩⟩
        case measure =>
          rw [token_Cut.left_eq (H4.out.set2 false), token_Cut.left_eq HC.out, ByteArray.size_extract]
          have := HN.out
          omega
      rw [if_neg b5] at hn1
      have k5 : (kk == 5) = false := by simp [b5]
      clear b5
      by_cases b37 : B = 37
      · rw [if_pos b37] at hn1
        have k37 : (B == 37) = true := by simp [b37]
        obtain ⟨i, hi⟩ : ∃ i, Lib.indexByte s'.data.toList 10 = i := ⟨_, rfl⟩
        rw [hi] at hn1
        have HI := Aside0.mk (show ∀ W : World, Calls Tryd.prog 25 #[.string s', .int .u8 10] W (fun e w' => e = .returned (.int .i64 i) ∧ w' = W) from fun W => hi ▸ Tryd.strings_IndexByte s' 10 W)
        have hig := Lib.indexByte_ge s'.data.toList 10
        rw [hi] at hig
        by_cases hi0 : i < 0
        · rw [if_pos hi0] at hn1
          rw [hn1] at hb
          have ki : decide (i < 0) = true := decide_eq_true hi0
          have HN := Aside0.mk (Nat.le_refl s'.size)
          have HBL := Aside0.mk hb
          clear hn1 hb hz hi hi0 hig hB b37
          go_wp2_with (first | (go_at_call 24; (with_reducible refine (char_Class.calls 8 _ kk _ HK.out).mono ?_); rintro e w5 ⟨rfl, ⟨n5, rfl⟩⟩) | (go_at_call 25; (with_reducible refine (HI.out _).mono ?_); rintro e w6 ⟨rfl, rfl⟩) | (go_at_call 28; (with_reducible refine (token_Cut.dropI w0 _ g s' p' gl' v l s'.size _ (by first | rfl | omega) (by repeat (first | exact HC.out | refine token_Cut.Ct.drewN ?_ _)) HN.out hp0 HS.out).mono ?_); rintro e w4 ⟨rfl, hw4⟩; have H4 := Aside0.mk (show token_Cut.Ct w0 w4 g (s'.extract s'.size s'.size) (p' + (s'.size : Nat)) gl' v l by rw [hw4]; exact token_Cut.Ct.dropped (by repeat (first | exact HC.out | refine token_Cut.Ct.drewN ?_ _)) s'.size); clear hw4; have q2 : w4.cell? ⟨g, 2, none⟩ = some (.bool gl') := (blk_cell H4.out.blk 2).trans rfl; have qf := blk_frozen H4.out.blk 2))
          go_roundw
          case rel => exact ⟨_, _, _, k, ⟨H4.out.set2 false, by rw [ByteArray.size_extract]; have := HN.out; omega, HBL.out, by omega, by rw [ByteArray.size_extract]; have := HN.out; omega⟩⟩
          case measure =>
            rw [token_Cut.left_eq (H4.out.set2 false), token_Cut.left_eq HC.out, ByteArray.size_extract]
            have := HN.out
            omega
        · rw [if_neg hi0] at hn1
          rw [hn1] at hb
          have ki : decide (i < 0) = false := decide_eq_false hi0
          obtain ⟨o, rfl⟩ : ∃ o : Nat, i = o := ⟨i.toNat, by omega⟩
          obtain ⟨ho1, ho2⟩ := Lib.indexByte_some hi
          have ho3 : o < s'.data.toList.length := (List.getElem?_eq_some_iff.1 ho1).1
          have ho4 : 0 < o := by
            rcases Nat.eq_zero_or_pos o with rfl | h
            · exfalso
              have h1 : s'.data.toList[0]? = some (s'[0]'hpos) := by
                rw [List.getElem?_eq_getElem (by rw [← Lib.size_eq]; exact hpos)]; rfl
              rw [h1] at ho1
              have h2 : (s'[0]'hpos) = 10 := Option.some.inj ho1
              rw [h2] at hbt
              rw [b37] at hbt
              exact absurd hbt (by decide)
            · exact h
          rw [← Lib.size_eq] at ho3
          have HN := Aside0.mk (show o ≤ s'.size by omega)
          rw [Int.toNat_natCast] at hb
          have HBL := Aside0.mk hb
          clear hn1 hb hz hi hi0 hig ho1 ho2 hB b37
          go_wp2_with (first | (go_at_call 24; (with_reducible refine (char_Class.calls 8 _ kk _ HK.out).mono ?_); rintro e w5 ⟨rfl, ⟨n5, rfl⟩⟩) | (go_at_call 25; (with_reducible refine (HI.out _).mono ?_); rintro e w6 ⟨rfl, rfl⟩) | (go_at_call 28; (with_reducible refine (token_Cut.dropI w0 _ g s' p' gl' v l o _ (by first | rfl | omega) (by repeat (first | exact HC.out | refine token_Cut.Ct.drewN ?_ _)) HN.out hp0 HS.out).mono ?_); rintro e w4 ⟨rfl, hw4⟩; have H4 := Aside0.mk (show token_Cut.Ct w0 w4 g (s'.extract o s'.size) (p' + (o : Nat)) gl' v l by rw [hw4]; exact token_Cut.Ct.dropped (by repeat (first | exact HC.out | refine token_Cut.Ct.drewN ?_ _)) o); clear hw4; have q2 : w4.cell? ⟨g, 2, none⟩ = some (.bool gl') := (blk_cell H4.out.blk 2).trans rfl; have qf := blk_frozen H4.out.blk 2))
          go_roundw
          case rel => exact ⟨_, _, _, k, ⟨H4.out.set2 false, by rw [ByteArray.size_extract]; have := HN.out; omega, HBL.out, by omega, by rw [ByteArray.size_extract]; have := HN.out; omega⟩⟩
          case measure =>
            rw [token_Cut.left_eq (H4.out.set2 false), token_Cut.left_eq HC.out, ByteArray.size_extract]
            have := HN.out
            omega
      rw [if_neg b37] at hn1
      have k37 : (B == 37) = false := by simp [b37]
      clear b37
      obtain ⟨bb, hbb⟩ : ∃ bb, strings_HasPrefix.f s' (⟨#[47, 42]⟩ : ByteArray) = some bb := token_Cut.hp_some s'
      have HH := Aside0.mk hbb
      rw [hbb] at hn1
      cases bb with
      | false =>
        rw [if_neg (by simp)] at hn1
        rw [hn1] at hb
        simp only [Prod.mk.injEq] at hb
        obtain ⟨e1, e2, e3, e4⟩ := hb
        subst e1 e2 e3 e4
        clear hn1 hbb hz
        go_wp2_with (first | (go_at_call 24; (with_reducible refine (char_Class.calls 8 _ kk _ HK.out).mono ?_); rintro e w5 ⟨rfl, ⟨n5, rfl⟩⟩) | (go_at_call 26; (with_reducible refine (strings_HasPrefix.calls s' _ false _ HH.out).mono ?_); rintro e w7 ⟨rfl, ⟨n7, rfl⟩⟩))
        go_ret
        exact ⟨rfl, (by repeat (first | exact HC.out | refine token_Cut.Ct.drewN ?_ _)), hp0, hps⟩
      | true =>
        rw [if_pos rfl] at hn1
        have h2 := token_Cut.hp_two hbb
        have h2i : (2 : Int) ≤ (s'.size : Int) := by omega
        obtain ⟨j, hj⟩ : ∃ j, Lib.index (s'.extract 2 s'.size).data.toList [42, 47] = j := ⟨_, rfl⟩
        rw [hj] at hn1
        have HJ := Aside0.mk (show ∀ W : World, Tabs W → Calls Tryd.prog 27 #[.string (s'.extract 2 s'.size), .string (⟨#[42, 47]⟩ : ByteArray)] W (fun e w' => e = .returned (.int .i64 j) ∧ w' = W) from fun W hW => by
          obtain ⟨m, hm⟩ := hW.2.2.2
          have := Tryd.strings_Index (s'.extract 2 s'.size) ⟨#[42, 47]⟩ m W (by rw [ByteArray.size_extract]; omega) hm
          rw [show (⟨#[42, 47]⟩ : ByteArray).data.toList = [42, 47] from rfl, hj] at this
          exact this)
        have hjg := Lib.index_ge (s'.extract 2 s'.size).data.toList [42, 47]
        rw [hj] at hjg
        by_cases hj0 : j < 0
        · rw [if_pos hj0] at hn1
          rw [hn1] at hb
          simp only [Prod.mk.injEq] at hb
          obtain ⟨e1, e2, e3, e4⟩ := hb
          subst e1 e2 e3 e4
          have kj : decide (j < 0) = true := decide_eq_true hj0
          clear hn1 hbb hz hj hj0 hjg
          go_wp2_with (first | (go_at_call 24; (with_reducible refine (char_Class.calls 8 _ kk _ HK.out).mono ?_); rintro e w5 ⟨rfl, ⟨n5, rfl⟩⟩) | (go_at_call 26; (with_reducible refine (strings_HasPrefix.calls s' _ true _ HH.out).mono ?_); rintro e w7 ⟨rfl, ⟨n7, rfl⟩⟩) | (go_at_call 27; (with_reducible refine (HJ.out _ (HT.out.below (by repeat (first | exact HC.out.bel | refine pw_below_drewN ?_ _)))).mono ?_); rintro e w8 ⟨rfl, rfl⟩))
          go_ret
          exact ⟨rfl, (by repeat (first | exact HC.out | refine token_Cut.Ct.drewN ?_ _)), hp0, hps⟩
        · rw [if_neg hj0] at hn1
          rw [hn1] at hb
          have kj : decide (j < 0) = false := decide_eq_false hj0
          have hr := Lib.index_room _ _ (show 0 ≤ Lib.index (s'.extract 2 s'.size).data.toList [42, 47] by rw [hj]; omega)
          rw [hj, ← Lib.size_eq, ByteArray.size_extract] at hr
          obtain ⟨o, rfl⟩ : ∃ o : Nat, j = o := ⟨j.toNat, by omega⟩
          simp only [List.length_cons, List.length_nil] at hr
          have HN := Aside0.mk (show o + 4 ≤ s'.size by omega)
          rw [Int.toNat_natCast] at hb
          have HBL := Aside0.mk hb
          have hwj : wrap64 ((o : Int) + 4) = ((o + 4 : Nat) : Int) := by unfold wrap64; omega
          clear hn1 hbb hz hj hj0 hjg hr
          go_wp2_with (first | (go_at_call 24; (with_reducible refine (char_Class.calls 8 _ kk _ HK.out).mono ?_); rintro e w5 ⟨rfl, ⟨n5, rfl⟩⟩) | (go_at_call 26; (with_reducible refine (strings_HasPrefix.calls s' _ true _ HH.out).mono ?_); rintro e w7 ⟨rfl, ⟨n7, rfl⟩⟩) | (go_at_call 27; (with_reducible refine (HJ.out _ (HT.out.below (by repeat (first | exact HC.out.bel | refine pw_below_drewN ?_ _)))).mono ?_); rintro e w8 ⟨rfl, rfl⟩) | (go_at_call 28; (with_reducible refine (token_Cut.dropI w0 _ g s' p' gl' v l (o + 4) _ (by first | rfl | omega) (by repeat (first | exact HC.out | refine token_Cut.Ct.drewN ?_ _)) HN.out hp0 HS.out).mono ?_); rintro e w4 ⟨rfl, hw4⟩; have H4 := Aside0.mk (show token_Cut.Ct w0 w4 g (s'.extract (o + 4) s'.size) (p' + ((o + 4) : Nat)) gl' v l by rw [hw4]; exact token_Cut.Ct.dropped (by repeat (first | exact HC.out | refine token_Cut.Ct.drewN ?_ _)) (o + 4)); clear hw4; have q2 : w4.cell? ⟨g, 2, none⟩ = some (.bool gl') := (blk_cell H4.out.blk 2).trans rfl; have qf := blk_frozen H4.out.blk 2))
          go_roundw
          case rel => exact ⟨_, _, _, k, ⟨H4.out.set2 false, by rw [ByteArray.size_extract]; have := HN.out; omega, HBL.out, by omega, by rw [ByteArray.size_extract]; have := HN.out; omega⟩⟩
          case measure =>
            rw [token_Cut.left_eq (H4.out.set2 false), token_Cut.left_eq HC.out, ByteArray.size_extract]
            have := HN.out
            omega
theorem token_Cut.layI (w0 w : World) (g : Nat) (s : ByteArray) (p : Int) (gl : Bool) (v : Value) (l : List S30) (kd : Int) (tx : ByteArray) (N a0 : Int) (n : Nat) (m : Int) (hm : m = (n : Int)) (h : token_Cut.Ct w0 w g s p gl v l) (hn : n ≤ s.size) (h0 : 0 ≤ p) (hs : p + s.size ≤ 9223372036854775807) (hl : l.length ≤ 100000) :
    Calls Tryd.prog 30 #[.pointer (some ⟨g, 0, none⟩), .agg #[.int .i64 kd, .string tx, .int .i64 N, .int .i64 a0], .int .i64 m] w fun e w' => e = .returned (.tuple #[]) ∧ ∃ v', token_Cut.Ct w0 w' g (s.extract n s.size) (p + n) (token_Cut.glue kd tx) v' (l ++ [⟨kd, tx, N, p⟩]) := by
  subst hm
  exact token_Cut.lay w0 w g s p gl v l kd tx N a0 n h hn h0 hs hl
theorem token_Cut.while_eq {f : Nat} {args : Array Value} {w : World} {m k : Nat} (h : m = k) (hc : Calls Tryd.prog f args w fun e w' => e = .returned (.int .i64 (m : Nat)) ∧ Below w.heap.size w w') : Calls Tryd.prog f args w fun e w' => e = .returned (.int .i64 (k : Nat)) ∧ Below w.heap.size w w' := by
  subst h
  exact hc
theorem token_Cut.whL_le (q : Int → Bool) (s : ByteArray) : ∀ f pos, token_Cut.whL q s.size (runesAt s f pos) ≤ s.size
  | 0, pos => Nat.le_refl _
  | f + 1, pos => by
    unfold runesAt
    by_cases h : pos < s.size
    · rw [if_pos h]
      unfold token_Cut.whL
      split
      · exact token_Cut.whL_le q s f _
      · exact Nat.le_of_lt h
    · rw [if_neg h]; exact Nat.le_refl _
theorem token_Cut.wh_le (q : Int → Bool) (s : ByteArray) : token_Cut.wh q s ≤ s.size := token_Cut.whL_le q s _ _
theorem token_Cut.read_some (s : ByteArray) (h : s.size ≤ 5000) : ∃ a e, num_Read.f ((⟨#[45]⟩ : ByteArray) ++ s.extract 0 (token_Cut.wh token_Cut.qdigit s)) = some (a, e) := by
  unfold num_Read.f
  rw [if_pos (by rw [ByteArray.size_append, ByteArray.size_extract]; have := token_Cut.wh_le token_Cut.qdigit s; have h1 : (⟨#[45]⟩ : ByteArray).size = 1 := rfl; omega)]
  exact ⟨_, _, rfl⟩
/-- a number's digits at the beginning: kind, text, value, bytes -/
def token_Cut.numB (s : ByteArray) : Option (Int × ByteArray × Int × Nat) := match num_Read.f ((⟨#[45]⟩ : ByteArray) ++ s.extract 0 (token_Cut.wh token_Cut.qdigit s)) with
  | some (a, e) => if e = 0 then some (5, ⟨#[]⟩, wrap64 (-a), token_Cut.wh token_Cut.qdigit s) else none
  | none => none
/-- a rune behind 0' -/
def token_Cut.numA (rest : ByteArray) : Option (Int × Nat) :=
  if strings_HasPrefix.f rest (⟨#[39, 39]⟩ : ByteArray) = some true then some (39, 4)
  else if 32 ≤ (Lib.decodeGo rest).1 ∧ (Lib.decodeGo rest).1 ≠ 39 ∧ (Lib.decodeGo rest).1 ≠ 92 ∧ ((Lib.decodeGo rest).1 ≠ 65533 ∨ 1 < (Lib.decodeGo rest).2) then some (((Lib.decodeGo rest).1 : Int), 2 + (Lib.decodeGo rest).2)
  else none
def token_Cut.num (s : ByteArray) : Option (Int × ByteArray × Int × Nat) := match strings_CutPrefix.f s (⟨#[48, 39]⟩ : ByteArray) with
  | some (rest, true) => (match token_Cut.numA rest with
    | some (N, n) => some (5, ⟨#[]⟩, N, n)
    | none => token_Cut.numB s)
  | _ => token_Cut.numB s
/-- what a cut leaves -/
def token_Cut.Post (w0 w : World) (g : Nat) (s : ByteArray) (p : Int) (gl : Bool) (v : Value) (l : List S30) : Option (Int × ByteArray × Int × Nat) → Prop
  | none => token_Cut.Ct w0 w g s p gl v l
  | some (kd, tx, N, n) => n ≤ s.size ∧ ∃ v', token_Cut.Ct w0 w g (s.extract n s.size) (p + n) (token_Cut.glue kd tx) v' (l ++ [⟨kd, tx, N, p⟩])
theorem token_Cut.cp_some (s : ByteArray) : (strings_CutPrefix.f s (⟨#[48, 39]⟩ : ByteArray) = some (s, false)) ∨ (2 ≤ s.size ∧ strings_CutPrefix.f s (⟨#[48, 39]⟩ : ByteArray) = some (s.extract 2 s.size, true)) := by
  unfold strings_CutPrefix.f stringslite_CutPrefix.f stringslite_HasPrefix.f
  have h2 : ((⟨#[48, 39]⟩ : ByteArray).size : Int) = 2 := rfl
  rw [h2]
  by_cases h : (s.size : Int) ≥ 2
  · rw [if_pos h, if_pos (by decide), if_pos h, Option.bind_some]
    cases hb : (s.extract 0 (2 : Int).toNat).toList == (⟨#[48, 39]⟩ : ByteArray).toList with
    | true => exact .inr ⟨by omega, by rw [if_pos rfl, if_pos (by decide), if_pos h]; rfl⟩
    | false => exact .inl (by rw [if_neg (by simp)]; rfl)
  · rw [if_neg h, Option.bind_some]; exact .inl (by rw [if_neg (by simp)]; rfl)
theorem token_Cut.hq_some (s : ByteArray) : ∃ b, strings_HasPrefix.f s (⟨#[39, 39]⟩ : ByteArray) = some b ∧ (b = true → 2 ≤ s.size) := by
  unfold strings_HasPrefix.f stringslite_HasPrefix.f
  have h2 : ((⟨#[39, 39]⟩ : ByteArray).size : Int) = 2 := rfl
  rw [h2]
  by_cases h : (s.size : Int) ≥ 2
  · rw [if_pos h, if_pos (by decide), if_pos h]; exact ⟨_, rfl, fun _ => by omega⟩
  · rw [if_neg h]; exact ⟨_, rfl, fun h => absurd h (by decide)⟩
theorem token_Cut.go_rune (s : ByteArray) : (Lib.decodeGo s).1 ≤ 1114111 := by
  unfold Lib.decodeGo
  split
  · decide
  · exact Lib.rune_le s 0
theorem token_Cut.go_le (s : ByteArray) : (Lib.decodeGo s).2 ≤ s.size := by
  unfold Lib.decodeGo
  split
  · omega
  · rename_i h
    have := decode_end s 0 (by omega)
    omega
set_option maxRecDepth 100000 in
set_option maxHeartbeats 4000000 in
/-- number cuts a number off. -/
theorem token_Cut.number (w0 w : World) (g : Nat) (s : ByteArray) (p : Int) (gl : Bool) (v : Value) (l : List S30) (h : token_Cut.Ct w0 w g s p gl v l) (hT : Tabs w0) (h0 : 0 ≤ p) (hs : p + s.size ≤ 5000) (hl : l.length ≤ 100000) :
    Calls Tryd.prog 34 #[.pointer (some ⟨g, 0, none⟩)] w fun e w' => e = .returned (.bool (token_Cut.num s).isSome) ∧ token_Cut.Post w0 w' g s p gl v l (token_Cut.num s) := by
  have HC := Aside0.mk h
  have HT := Aside0.mk hT
  have HS := Aside0.mk (show p + s.size ≤ 9223372036854775807 by omega)
  have hs2 : s.size ≤ 5000 := by omega
  have x0 : w.cell? ⟨g, 0, none⟩ = some (.string s) := (blk_cell h.blk 0).trans rfl
  have hn1 : token_Cut.num s = token_Cut.num s := rfl
  conv at hn1 => rhs; unfold token_Cut.num
  clear h hT
  go_enter Tryd.func34, Tryd.ntmps34
  rcases token_Cut.cp_some s with hP | ⟨h2, hP⟩
  · rw [hP] at hn1
    dsimp only at hn1
    obtain ⟨rest, hrest⟩ : ∃ rest, rest = s := ⟨_, rfl⟩
    have HP : Aside0 (strings_CutPrefix.f s (⟨#[48, 39]⟩ : ByteArray) = some (rest, false)) := Aside0.mk (by rw [hrest]; exact hP)
    clear hP hrest
    obtain ⟨a, e0, hN⟩ := token_Cut.read_some s hs2
    have hB : token_Cut.numB s = if e0 = 0 then some (5, ⟨#[]⟩, wrap64 (-a), token_Cut.wh token_Cut.qdigit s) else none := by unfold token_Cut.numB; rw [hN]
    have hN2 := hN
    clear hN
    have HL := Aside0.mk (token_Cut.wh_le token_Cut.qdigit s)
    obtain ⟨m, hm⟩ : ∃ m, token_Cut.wh token_Cut.qdigit s = m := ⟨_, rfl⟩
    have HW := Aside0.mk hm
    rw [hm] at hB HL hN2
    have HX := Aside0.mk hN2
    have hm1 : (m : Int) ≤ (s.size : Int) := by have := HL.out; omega
    clear hm hN2
    by_cases hz : e0 = 0
    · subst hz
      rw [if_pos rfl] at hB
      rw [hB] at hn1
      clear hB
      go_wp2_with (first | (go_at_call 48; (with_reducible refine (strings_CutPrefix.calls s _ rest false _ HP.out).mono ?_); rintro e w' ⟨rfl, ⟨n1, rfl⟩⟩) | (go_at_call 32; (with_reducible refine (token_Cut.while_eq HW.out (token_Cut.while_digit w0 _ g s p gl v l (by repeat (first | exact HC.out | refine token_Cut.Ct.drewN ?_ _)))).mono ?_); rintro e w4 ⟨rfl, hb⟩; have HCn := Aside0.mk (show token_Cut.Ct w0 w4 g s p gl v l from token_Cut.Ct.below (by repeat (first | exact HC.out | refine token_Cut.Ct.drewN ?_ _)) hb); clear HC; have HC := HCn; clear HCn hb; have x0w4 : w4.cell? ⟨g, 0, none⟩ = some (.string s) := (blk_cell HC.out.blk 0).trans rfl) | (go_at_call 50; (with_reducible refine (num_Read.calls _ a 0 _ HX.out).mono ?_); rintro e w5 ⟨rfl, hb⟩; have HCn := Aside0.mk (show token_Cut.Ct w0 w5 g s p gl v l from token_Cut.Ct.below (by repeat (first | exact HC.out | refine token_Cut.Ct.drewN ?_ _)) hb); clear HC; have HC := HCn; clear HCn hb; have x0w5 : w5.cell? ⟨g, 0, none⟩ = some (.string s) := (blk_cell HC.out.blk 0).trans rfl) | (go_at_call 30; (with_reducible refine (token_Cut.layI w0 _ g s p gl v l 5 ⟨#[]⟩ (wrap64 (-a)) 0 m _ (by first | rfl | omega) (by repeat (first | exact HC.out | refine token_Cut.Ct.drewN ?_ _)) HL.out h0 HS.out hl).mono ?_); rintro e w6 ⟨rfl, v6, h6⟩; have H6 := Aside0.mk h6; clear h6))
      go_ret
      rw [hn1]
      exact ⟨rfl, HL.out, v6, H6.out⟩
    · rw [if_neg hz] at hB
      rw [hB] at hn1
      have hz2 : (e0 == 0) = false := beq_eq_false_iff_ne.mpr hz
      clear hB hz
      go_wp2_with (first | (go_at_call 48; (with_reducible refine (strings_CutPrefix.calls s _ rest false _ HP.out).mono ?_); rintro e w' ⟨rfl, ⟨n1, rfl⟩⟩) | (go_at_call 32; (with_reducible refine (token_Cut.while_eq HW.out (token_Cut.while_digit w0 _ g s p gl v l (by repeat (first | exact HC.out | refine token_Cut.Ct.drewN ?_ _)))).mono ?_); rintro e w4 ⟨rfl, hb⟩; have HCn := Aside0.mk (show token_Cut.Ct w0 w4 g s p gl v l from token_Cut.Ct.below (by repeat (first | exact HC.out | refine token_Cut.Ct.drewN ?_ _)) hb); clear HC; have HC := HCn; clear HCn hb; have x0w4 : w4.cell? ⟨g, 0, none⟩ = some (.string s) := (blk_cell HC.out.blk 0).trans rfl) | (go_at_call 50; (with_reducible refine (num_Read.calls _ a e0 _ HX.out).mono ?_); rintro e w5 ⟨rfl, hb⟩; have HCn := Aside0.mk (show token_Cut.Ct w0 w5 g s p gl v l from token_Cut.Ct.below (by repeat (first | exact HC.out | refine token_Cut.Ct.drewN ?_ _)) hb); clear HC; have HC := HCn; clear HCn hb; have x0w5 : w5.cell? ⟨g, 0, none⟩ = some (.string s) := (blk_cell HC.out.blk 0).trans rfl))
      go_ret
      rw [hn1]
      exact ⟨rfl, (by repeat (first | exact HC.out | refine token_Cut.Ct.drewN ?_ _))⟩
  · rw [hP] at hn1
    dsimp only at hn1
    obtain ⟨rest, hrest⟩ : ∃ rest, rest = s.extract 2 s.size := ⟨_, rfl⟩
    rw [← hrest] at hP hn1
    have hrs : rest.size + 2 = s.size := by rw [hrest, ByteArray.size_extract]; omega
    have HP := Aside0.mk hP
    clear hP hrest
    have hA1 : token_Cut.numA rest = token_Cut.numA rest := rfl
    conv at hA1 => rhs; unfold token_Cut.numA
    obtain ⟨b, hq, hq2⟩ := token_Cut.hq_some rest
    have HH := Aside0.mk hq
    rw [hq] at hA1
    cases b with
    | true =>
      rw [if_pos rfl] at hA1
      rw [hA1] at hn1
      dsimp only at hn1
      have HL := Aside0.mk (show 4 ≤ s.size by have := hq2 rfl; omega)
      clear hA1 hq hq2
      go_wp2_with (first | (go_at_call 48; (with_reducible refine (strings_CutPrefix.calls s _ rest true _ HP.out).mono ?_); rintro e w' ⟨rfl, ⟨n1, rfl⟩⟩) | (go_at_call 26; (with_reducible refine (strings_HasPrefix.calls rest _ true _ HH.out).mono ?_); rintro e w' ⟨rfl, ⟨n2, rfl⟩⟩) | (go_at_call 30; (with_reducible refine (token_Cut.layI w0 _ g s p gl v l 5 ⟨#[]⟩ 39 0 4 _ (by first | rfl | omega) (by repeat (first | exact HC.out | refine token_Cut.Ct.drewN ?_ _)) HL.out h0 HS.out hl).mono ?_); rintro e w6 ⟨rfl, v6, h6⟩; have H6 := Aside0.mk h6; clear h6))
      go_ret
      rw [hn1]
      exact ⟨rfl, HL.out, v6, H6.out⟩
    | false =>
      rw [if_neg (by simp)] at hA1
      obtain ⟨r, n, hd⟩ : ∃ r n, Lib.decodeGo rest = (r, n) := ⟨_, _, rfl⟩
      have hle := token_Cut.go_le rest
      rw [hd] at hA1 hle
      dsimp only at hA1 hle
      have HD := Aside0.mk (show utf8_DecodeRuneInString.f rest = some ((r : Int), (n : Int)) by unfold utf8_DecodeRuneInString.f; rw [hd])
      obtain ⟨R, hR⟩ : ∃ R : Int, R = (r : Int) := ⟨_, rfl⟩
      obtain ⟨M, hM⟩ : ∃ M : Int, M = (n : Int) := ⟨_, rfl⟩
      rw [← hR, ← hM] at HD
      have hr2 : r ≤ 1114111 := by have := token_Cut.go_rune rest; rw [hd] at this; exact this
      clear hq hq2 hd
      have hwR : wrap64 R = (r : Int) := by unfold wrap64; omega
      by_cases c1 : 32 ≤ r
      case neg =>
        have k1 : decide ((32 : Int) ≤ R) = false := decide_eq_false (by omega)
        have hA : token_Cut.numA rest = none := by rw [hA1]; exact if_neg (by omega)
        rw [hA] at hn1
        dsimp only at hn1
        clear hA hA1 hR hM
        obtain ⟨a, e0, hN⟩ := token_Cut.read_some s hs2
        have hB : token_Cut.numB s = if e0 = 0 then some (5, ⟨#[]⟩, wrap64 (-a), token_Cut.wh token_Cut.qdigit s) else none := by unfold token_Cut.numB; rw [hN]
        have HL := Aside0.mk (token_Cut.wh_le token_Cut.qdigit s)
        obtain ⟨m, hm⟩ : ∃ m, token_Cut.wh token_Cut.qdigit s = m := ⟨_, rfl⟩
        have HW := Aside0.mk hm
        rw [hm] at hB HL hN
        have HX := Aside0.mk hN
        have hm1 : (m : Int) ≤ (s.size : Int) := by have := HL.out; omega
        clear hm hN
        by_cases hz : e0 = 0
        · subst hz
          rw [if_pos rfl] at hB
          rw [hB] at hn1
          clear hB
          go_wp2_with (first | (go_at_call 48; (with_reducible refine (strings_CutPrefix.calls s _ rest true _ HP.out).mono ?_); rintro e w' ⟨rfl, ⟨n1, rfl⟩⟩) | (go_at_call 26; (with_reducible refine (strings_HasPrefix.calls rest _ false _ HH.out).mono ?_); rintro e w' ⟨rfl, ⟨n2, rfl⟩⟩) | (go_at_call 31; (with_reducible refine (utf8_DecodeRuneInString.calls rest R M _ HD.out (HT.out.below (token_Cut.Ct.bel (g := g) (s := s) (p := p) (gl := gl) (v := v) (l := l) (by repeat (first | exact HC.out | refine token_Cut.Ct.drewN ?_ _))))).mono ?_); rintro e w3 ⟨rfl, hb⟩; have HCn := Aside0.mk (show token_Cut.Ct w0 w3 g s p gl v l from token_Cut.Ct.below (by repeat (first | exact HC.out | refine token_Cut.Ct.drewN ?_ _)) hb); clear HC; have HC := HCn; clear HCn hb; have x0w3 : w3.cell? ⟨g, 0, none⟩ = some (.string s) := (blk_cell HC.out.blk 0).trans rfl) | (go_at_call 32; (with_reducible refine (token_Cut.while_eq HW.out (token_Cut.while_digit w0 _ g s p gl v l (by repeat (first | exact HC.out | refine token_Cut.Ct.drewN ?_ _)))).mono ?_); rintro e w4 ⟨rfl, hb⟩; have HCn := Aside0.mk (show token_Cut.Ct w0 w4 g s p gl v l from token_Cut.Ct.below (by repeat (first | exact HC.out | refine token_Cut.Ct.drewN ?_ _)) hb); clear HC; have HC := HCn; clear HCn hb; have x0w4 : w4.cell? ⟨g, 0, none⟩ = some (.string s) := (blk_cell HC.out.blk 0).trans rfl) | (go_at_call 50; (with_reducible refine (num_Read.calls _ a 0 _ HX.out).mono ?_); rintro e w5 ⟨rfl, hb⟩; have HCn := Aside0.mk (show token_Cut.Ct w0 w5 g s p gl v l from token_Cut.Ct.below (by repeat (first | exact HC.out | refine token_Cut.Ct.drewN ?_ _)) hb); clear HC; have HC := HCn; clear HCn hb; have x0w5 : w5.cell? ⟨g, 0, none⟩ = some (.string s) := (blk_cell HC.out.blk 0).trans rfl) | (go_at_call 30; (with_reducible refine (token_Cut.layI w0 _ g s p gl v l 5 ⟨#[]⟩ (wrap64 (-a)) 0 m _ (by first | rfl | omega) (by repeat (first | exact HC.out | refine token_Cut.Ct.drewN ?_ _)) HL.out h0 HS.out hl).mono ?_); rintro e w6 ⟨rfl, v6, h6⟩; have H6 := Aside0.mk h6; clear h6))
          go_ret
          rw [hn1]
          exact ⟨rfl, HL.out, v6, H6.out⟩
        · rw [if_neg hz] at hB
          rw [hB] at hn1
          have hz2 : (e0 == 0) = false := beq_eq_false_iff_ne.mpr hz
          clear hB hz
          go_wp2_with (first | (go_at_call 48; (with_reducible refine (strings_CutPrefix.calls s _ rest true _ HP.out).mono ?_); rintro e w' ⟨rfl, ⟨n1, rfl⟩⟩) | (go_at_call 26; (with_reducible refine (strings_HasPrefix.calls rest _ false _ HH.out).mono ?_); rintro e w' ⟨rfl, ⟨n2, rfl⟩⟩) | (go_at_call 31; (with_reducible refine (utf8_DecodeRuneInString.calls rest R M _ HD.out (HT.out.below (token_Cut.Ct.bel (g := g) (s := s) (p := p) (gl := gl) (v := v) (l := l) (by repeat (first | exact HC.out | refine token_Cut.Ct.drewN ?_ _))))).mono ?_); rintro e w3 ⟨rfl, hb⟩; have HCn := Aside0.mk (show token_Cut.Ct w0 w3 g s p gl v l from token_Cut.Ct.below (by repeat (first | exact HC.out | refine token_Cut.Ct.drewN ?_ _)) hb); clear HC; have HC := HCn; clear HCn hb; have x0w3 : w3.cell? ⟨g, 0, none⟩ = some (.string s) := (blk_cell HC.out.blk 0).trans rfl) | (go_at_call 32; (with_reducible refine (token_Cut.while_eq HW.out (token_Cut.while_digit w0 _ g s p gl v l (by repeat (first | exact HC.out | refine token_Cut.Ct.drewN ?_ _)))).mono ?_); rintro e w4 ⟨rfl, hb⟩; have HCn := Aside0.mk (show token_Cut.Ct w0 w4 g s p gl v l from token_Cut.Ct.below (by repeat (first | exact HC.out | refine token_Cut.Ct.drewN ?_ _)) hb); clear HC; have HC := HCn; clear HCn hb; have x0w4 : w4.cell? ⟨g, 0, none⟩ = some (.string s) := (blk_cell HC.out.blk 0).trans rfl) | (go_at_call 50; (with_reducible refine (num_Read.calls _ a e0 _ HX.out).mono ?_); rintro e w5 ⟨rfl, hb⟩; have HCn := Aside0.mk (show token_Cut.Ct w0 w5 g s p gl v l from token_Cut.Ct.below (by repeat (first | exact HC.out | refine token_Cut.Ct.drewN ?_ _)) hb); clear HC; have HC := HCn; clear HCn hb; have x0w5 : w5.cell? ⟨g, 0, none⟩ = some (.string s) := (blk_cell HC.out.blk 0).trans rfl))
          go_ret
          rw [hn1]
          exact ⟨rfl, (by repeat (first | exact HC.out | refine token_Cut.Ct.drewN ?_ _))⟩
      have k1 : decide ((32 : Int) ≤ R) = true := decide_eq_true (by omega)
      by_cases c2 : r = 39
      case pos =>
        have k2 : (R != 39) = false := by simp; omega
        have hA : token_Cut.numA rest = none := by rw [hA1]; exact if_neg (by omega)
        rw [hA] at hn1
        dsimp only at hn1
        clear hA hA1 hR hM
        obtain ⟨a, e0, hN⟩ := token_Cut.read_some s hs2
        have hB : token_Cut.numB s = if e0 = 0 then some (5, ⟨#[]⟩, wrap64 (-a), token_Cut.wh token_Cut.qdigit s) else none := by unfold token_Cut.numB; rw [hN]
        have HL := Aside0.mk (token_Cut.wh_le token_Cut.qdigit s)
        obtain ⟨m, hm⟩ : ∃ m, token_Cut.wh token_Cut.qdigit s = m := ⟨_, rfl⟩
        have HW := Aside0.mk hm
        rw [hm] at hB HL hN
        have HX := Aside0.mk hN
        have hm1 : (m : Int) ≤ (s.size : Int) := by have := HL.out; omega
        clear hm hN
        by_cases hz : e0 = 0
        · subst hz
          rw [if_pos rfl] at hB
          rw [hB] at hn1
          clear hB
          go_wp2_with (first | (go_at_call 48; (with_reducible refine (strings_CutPrefix.calls s _ rest true _ HP.out).mono ?_); rintro e w' ⟨rfl, ⟨n1, rfl⟩⟩) | (go_at_call 26; (with_reducible refine (strings_HasPrefix.calls rest _ false _ HH.out).mono ?_); rintro e w' ⟨rfl, ⟨n2, rfl⟩⟩) | (go_at_call 31; (with_reducible refine (utf8_DecodeRuneInString.calls rest R M _ HD.out (HT.out.below (token_Cut.Ct.bel (g := g) (s := s) (p := p) (gl := gl) (v := v) (l := l) (by repeat (first | exact HC.out | refine token_Cut.Ct.drewN ?_ _))))).mono ?_); rintro e w3 ⟨rfl, hb⟩; have HCn := Aside0.mk (show token_Cut.Ct w0 w3 g s p gl v l from token_Cut.Ct.below (by repeat (first | exact HC.out | refine token_Cut.Ct.drewN ?_ _)) hb); clear HC; have HC := HCn; clear HCn hb; have x0w3 : w3.cell? ⟨g, 0, none⟩ = some (.string s) := (blk_cell HC.out.blk 0).trans rfl) | (go_at_call 32; (with_reducible refine (token_Cut.while_eq HW.out (token_Cut.while_digit w0 _ g s p gl v l (by repeat (first | exact HC.out | refine token_Cut.Ct.drewN ?_ _)))).mono ?_); rintro e w4 ⟨rfl, hb⟩; have HCn := Aside0.mk (show token_Cut.Ct w0 w4 g s p gl v l from token_Cut.Ct.below (by repeat (first | exact HC.out | refine token_Cut.Ct.drewN ?_ _)) hb); clear HC; have HC := HCn; clear HCn hb; have x0w4 : w4.cell? ⟨g, 0, none⟩ = some (.string s) := (blk_cell HC.out.blk 0).trans rfl) | (go_at_call 50; (with_reducible refine (num_Read.calls _ a 0 _ HX.out).mono ?_); rintro e w5 ⟨rfl, hb⟩; have HCn := Aside0.mk (show token_Cut.Ct w0 w5 g s p gl v l from token_Cut.Ct.below (by repeat (first | exact HC.out | refine token_Cut.Ct.drewN ?_ _)) hb); clear HC; have HC := HCn; clear HCn hb; have x0w5 : w5.cell? ⟨g, 0, none⟩ = some (.string s) := (blk_cell HC.out.blk 0).trans rfl) | (go_at_call 30; (with_reducible refine (token_Cut.layI w0 _ g s p gl v l 5 ⟨#[]⟩ (wrap64 (-a)) 0 m _ (by first | rfl | omega) (by repeat (first | exact HC.out | refine token_Cut.Ct.drewN ?_ _)) HL.out h0 HS.out hl).mono ?_); rintro e w6 ⟨rfl, v6, h6⟩; have H6 := Aside0.mk h6; clear h6))
          go_ret
          rw [hn1]
          exact ⟨rfl, HL.out, v6, H6.out⟩
        · rw [if_neg hz] at hB
          rw [hB] at hn1
          have hz2 : (e0 == 0) = false := beq_eq_false_iff_ne.mpr hz
          clear hB hz
          go_wp2_with (first | (go_at_call 48; (with_reducible refine (strings_CutPrefix.calls s _ rest true _ HP.out).mono ?_); rintro e w' ⟨rfl, ⟨n1, rfl⟩⟩) | (go_at_call 26; (with_reducible refine (strings_HasPrefix.calls rest _ false _ HH.out).mono ?_); rintro e w' ⟨rfl, ⟨n2, rfl⟩⟩) | (go_at_call 31; (with_reducible refine (utf8_DecodeRuneInString.calls rest R M _ HD.out (HT.out.below (token_Cut.Ct.bel (g := g) (s := s) (p := p) (gl := gl) (v := v) (l := l) (by repeat (first | exact HC.out | refine token_Cut.Ct.drewN ?_ _))))).mono ?_); rintro e w3 ⟨rfl, hb⟩; have HCn := Aside0.mk (show token_Cut.Ct w0 w3 g s p gl v l from token_Cut.Ct.below (by repeat (first | exact HC.out | refine token_Cut.Ct.drewN ?_ _)) hb); clear HC; have HC := HCn; clear HCn hb; have x0w3 : w3.cell? ⟨g, 0, none⟩ = some (.string s) := (blk_cell HC.out.blk 0).trans rfl) | (go_at_call 32; (with_reducible refine (token_Cut.while_eq HW.out (token_Cut.while_digit w0 _ g s p gl v l (by repeat (first | exact HC.out | refine token_Cut.Ct.drewN ?_ _)))).mono ?_); rintro e w4 ⟨rfl, hb⟩; have HCn := Aside0.mk (show token_Cut.Ct w0 w4 g s p gl v l from token_Cut.Ct.below (by repeat (first | exact HC.out | refine token_Cut.Ct.drewN ?_ _)) hb); clear HC; have HC := HCn; clear HCn hb; have x0w4 : w4.cell? ⟨g, 0, none⟩ = some (.string s) := (blk_cell HC.out.blk 0).trans rfl) | (go_at_call 50; (with_reducible refine (num_Read.calls _ a e0 _ HX.out).mono ?_); rintro e w5 ⟨rfl, hb⟩; have HCn := Aside0.mk (show token_Cut.Ct w0 w5 g s p gl v l from token_Cut.Ct.below (by repeat (first | exact HC.out | refine token_Cut.Ct.drewN ?_ _)) hb); clear HC; have HC := HCn; clear HCn hb; have x0w5 : w5.cell? ⟨g, 0, none⟩ = some (.string s) := (blk_cell HC.out.blk 0).trans rfl))
          go_ret
          rw [hn1]
          exact ⟨rfl, (by repeat (first | exact HC.out | refine token_Cut.Ct.drewN ?_ _))⟩
      have k2 : (R != 39) = true := by simp; omega
      by_cases c3 : r = 92
      case pos =>
        have k3 : (R != 92) = false := by simp; omega
        have hA : token_Cut.numA rest = none := by rw [hA1]; exact if_neg (by omega)
        rw [hA] at hn1
        dsimp only at hn1
        clear hA hA1 hR hM
        obtain ⟨a, e0, hN⟩ := token_Cut.read_some s hs2
        have hB : token_Cut.numB s = if e0 = 0 then some (5, ⟨#[]⟩, wrap64 (-a), token_Cut.wh token_Cut.qdigit s) else none := by unfold token_Cut.numB; rw [hN]
        have HL := Aside0.mk (token_Cut.wh_le token_Cut.qdigit s)
        obtain ⟨m, hm⟩ : ∃ m, token_Cut.wh token_Cut.qdigit s = m := ⟨_, rfl⟩
        have HW := Aside0.mk hm
        rw [hm] at hB HL hN
        have HX := Aside0.mk hN
        have hm1 : (m : Int) ≤ (s.size : Int) := by have := HL.out; omega
        clear hm hN
        by_cases hz : e0 = 0
        · subst hz
          rw [if_pos rfl] at hB
          rw [hB] at hn1
          clear hB
          go_wp2_with (first | (go_at_call 48; (with_reducible refine (strings_CutPrefix.calls s _ rest true _ HP.out).mono ?_); rintro e w' ⟨rfl, ⟨n1, rfl⟩⟩) | (go_at_call 26; (with_reducible refine (strings_HasPrefix.calls rest _ false _ HH.out).mono ?_); rintro e w' ⟨rfl, ⟨n2, rfl⟩⟩) | (go_at_call 31; (with_reducible refine (utf8_DecodeRuneInString.calls rest R M _ HD.out (HT.out.below (token_Cut.Ct.bel (g := g) (s := s) (p := p) (gl := gl) (v := v) (l := l) (by repeat (first | exact HC.out | refine token_Cut.Ct.drewN ?_ _))))).mono ?_); rintro e w3 ⟨rfl, hb⟩; have HCn := Aside0.mk (show token_Cut.Ct w0 w3 g s p gl v l from token_Cut.Ct.below (by repeat (first | exact HC.out | refine token_Cut.Ct.drewN ?_ _)) hb); clear HC; have HC := HCn; clear HCn hb; have x0w3 : w3.cell? ⟨g, 0, none⟩ = some (.string s) := (blk_cell HC.out.blk 0).trans rfl) | (go_at_call 32; (with_reducible refine (token_Cut.while_eq HW.out (token_Cut.while_digit w0 _ g s p gl v l (by repeat (first | exact HC.out | refine token_Cut.Ct.drewN ?_ _)))).mono ?_); rintro e w4 ⟨rfl, hb⟩; have HCn := Aside0.mk (show token_Cut.Ct w0 w4 g s p gl v l from token_Cut.Ct.below (by repeat (first | exact HC.out | refine token_Cut.Ct.drewN ?_ _)) hb); clear HC; have HC := HCn; clear HCn hb; have x0w4 : w4.cell? ⟨g, 0, none⟩ = some (.string s) := (blk_cell HC.out.blk 0).trans rfl) | (go_at_call 50; (with_reducible refine (num_Read.calls _ a 0 _ HX.out).mono ?_); rintro e w5 ⟨rfl, hb⟩; have HCn := Aside0.mk (show token_Cut.Ct w0 w5 g s p gl v l from token_Cut.Ct.below (by repeat (first | exact HC.out | refine token_Cut.Ct.drewN ?_ _)) hb); clear HC; have HC := HCn; clear HCn hb; have x0w5 : w5.cell? ⟨g, 0, none⟩ = some (.string s) := (blk_cell HC.out.blk 0).trans rfl) | (go_at_call 30; (with_reducible refine (token_Cut.layI w0 _ g s p gl v l 5 ⟨#[]⟩ (wrap64 (-a)) 0 m _ (by first | rfl | omega) (by repeat (first | exact HC.out | refine token_Cut.Ct.drewN ?_ _)) HL.out h0 HS.out hl).mono ?_); rintro e w6 ⟨rfl, v6, h6⟩; have H6 := Aside0.mk h6; clear h6))
          go_ret
          rw [hn1]
          exact ⟨rfl, HL.out, v6, H6.out⟩
        · rw [if_neg hz] at hB
          rw [hB] at hn1
          have hz2 : (e0 == 0) = false := beq_eq_false_iff_ne.mpr hz
          clear hB hz
          go_wp2_with (first | (go_at_call 48; (with_reducible refine (strings_CutPrefix.calls s _ rest true _ HP.out).mono ?_); rintro e w' ⟨rfl, ⟨n1, rfl⟩⟩) | (go_at_call 26; (with_reducible refine (strings_HasPrefix.calls rest _ false _ HH.out).mono ?_); rintro e w' ⟨rfl, ⟨n2, rfl⟩⟩) | (go_at_call 31; (with_reducible refine (utf8_DecodeRuneInString.calls rest R M _ HD.out (HT.out.below (token_Cut.Ct.bel (g := g) (s := s) (p := p) (gl := gl) (v := v) (l := l) (by repeat (first | exact HC.out | refine token_Cut.Ct.drewN ?_ _))))).mono ?_); rintro e w3 ⟨rfl, hb⟩; have HCn := Aside0.mk (show token_Cut.Ct w0 w3 g s p gl v l from token_Cut.Ct.below (by repeat (first | exact HC.out | refine token_Cut.Ct.drewN ?_ _)) hb); clear HC; have HC := HCn; clear HCn hb; have x0w3 : w3.cell? ⟨g, 0, none⟩ = some (.string s) := (blk_cell HC.out.blk 0).trans rfl) | (go_at_call 32; (with_reducible refine (token_Cut.while_eq HW.out (token_Cut.while_digit w0 _ g s p gl v l (by repeat (first | exact HC.out | refine token_Cut.Ct.drewN ?_ _)))).mono ?_); rintro e w4 ⟨rfl, hb⟩; have HCn := Aside0.mk (show token_Cut.Ct w0 w4 g s p gl v l from token_Cut.Ct.below (by repeat (first | exact HC.out | refine token_Cut.Ct.drewN ?_ _)) hb); clear HC; have HC := HCn; clear HCn hb; have x0w4 : w4.cell? ⟨g, 0, none⟩ = some (.string s) := (blk_cell HC.out.blk 0).trans rfl) | (go_at_call 50; (with_reducible refine (num_Read.calls _ a e0 _ HX.out).mono ?_); rintro e w5 ⟨rfl, hb⟩; have HCn := Aside0.mk (show token_Cut.Ct w0 w5 g s p gl v l from token_Cut.Ct.below (by repeat (first | exact HC.out | refine token_Cut.Ct.drewN ?_ _)) hb); clear HC; have HC := HCn; clear HCn hb; have x0w5 : w5.cell? ⟨g, 0, none⟩ = some (.string s) := (blk_cell HC.out.blk 0).trans rfl))
          go_ret
          rw [hn1]
          exact ⟨rfl, (by repeat (first | exact HC.out | refine token_Cut.Ct.drewN ?_ _))⟩
      have k3 : (R != 92) = true := by simp; omega
      by_cases c4 : r = 65533
      case neg =>
        have k4 : (R != 65533) = true := by simp; omega
        have hA : token_Cut.numA rest = some ((r : Int), 2 + n) := by rw [hA1]; exact if_pos (by omega)
        rw [hA] at hn1
        dsimp only at hn1
        have HL := Aside0.mk (show 2 + n ≤ s.size by omega)
        have hwM : wrap64 (2 + M) = ((2 + n : Nat) : Int) := by unfold wrap64; omega
        clear hA hA1 hR hM
        go_wp2_with (first | (go_at_call 48; (with_reducible refine (strings_CutPrefix.calls s _ rest true _ HP.out).mono ?_); rintro e w' ⟨rfl, ⟨n1, rfl⟩⟩) | (go_at_call 26; (with_reducible refine (strings_HasPrefix.calls rest _ false _ HH.out).mono ?_); rintro e w' ⟨rfl, ⟨n2, rfl⟩⟩) | (go_at_call 31; (with_reducible refine (utf8_DecodeRuneInString.calls rest R M _ HD.out (HT.out.below (token_Cut.Ct.bel (g := g) (s := s) (p := p) (gl := gl) (v := v) (l := l) (by repeat (first | exact HC.out | refine token_Cut.Ct.drewN ?_ _))))).mono ?_); rintro e w3 ⟨rfl, hb⟩; have HCn := Aside0.mk (show token_Cut.Ct w0 w3 g s p gl v l from token_Cut.Ct.below (by repeat (first | exact HC.out | refine token_Cut.Ct.drewN ?_ _)) hb); clear HC; have HC := HCn; clear HCn hb; have x0w3 : w3.cell? ⟨g, 0, none⟩ = some (.string s) := (blk_cell HC.out.blk 0).trans rfl) | (go_at_call 30; (with_reducible refine (token_Cut.layI w0 _ g s p gl v l 5 ⟨#[]⟩ (r : Int) 0 (2 + n) _ (by first | rfl | omega) (by repeat (first | exact HC.out | refine token_Cut.Ct.drewN ?_ _)) HL.out h0 HS.out hl).mono ?_); rintro e w6 ⟨rfl, v6, h6⟩; have H6 := Aside0.mk h6; clear h6))
        go_ret
        rw [hn1]
        exact ⟨rfl, HL.out, v6, H6.out⟩
      have k4 : (R != 65533) = false := by simp; omega
      by_cases c5 : 1 < n
      · have k5 : decide (1 < M) = true := decide_eq_true (by omega)
        have hA : token_Cut.numA rest = some ((r : Int), 2 + n) := by rw [hA1]; exact if_pos (by omega)
        rw [hA] at hn1
        dsimp only at hn1
        clear c4
        have HL := Aside0.mk (show 2 + n ≤ s.size by omega)
        have hwM : wrap64 (2 + M) = ((2 + n : Nat) : Int) := by unfold wrap64; omega
        clear hA hA1 hR hM
        go_wp2_with (first | (go_at_call 48; (with_reducible refine (strings_CutPrefix.calls s _ rest true _ HP.out).mono ?_); rintro e w' ⟨rfl, ⟨n1, rfl⟩⟩) | (go_at_call 26; (with_reducible refine (strings_HasPrefix.calls rest _ false _ HH.out).mono ?_); rintro e w' ⟨rfl, ⟨n2, rfl⟩⟩) | (go_at_call 31; (with_reducible refine (utf8_DecodeRuneInString.calls rest R M _ HD.out (HT.out.below (token_Cut.Ct.bel (g := g) (s := s) (p := p) (gl := gl) (v := v) (l := l) (by repeat (first | exact HC.out | refine token_Cut.Ct.drewN ?_ _))))).mono ?_); rintro e w3 ⟨rfl, hb⟩; have HCn := Aside0.mk (show token_Cut.Ct w0 w3 g s p gl v l from token_Cut.Ct.below (by repeat (first | exact HC.out | refine token_Cut.Ct.drewN ?_ _)) hb); clear HC; have HC := HCn; clear HCn hb; have x0w3 : w3.cell? ⟨g, 0, none⟩ = some (.string s) := (blk_cell HC.out.blk 0).trans rfl) | (go_at_call 30; (with_reducible refine (token_Cut.layI w0 _ g s p gl v l 5 ⟨#[]⟩ (r : Int) 0 (2 + n) _ (by first | rfl | omega) (by repeat (first | exact HC.out | refine token_Cut.Ct.drewN ?_ _)) HL.out h0 HS.out hl).mono ?_); rintro e w6 ⟨rfl, v6, h6⟩; have H6 := Aside0.mk h6; clear h6))
        go_ret
        rw [hn1]
        exact ⟨rfl, HL.out, v6, H6.out⟩
      · have k5 : decide (1 < M) = false := decide_eq_false (by omega)
        have hA : token_Cut.numA rest = none := by rw [hA1]; exact if_neg (by omega)
        rw [hA] at hn1
        dsimp only at hn1
        clear hA hA1 hR hM
        obtain ⟨a, e0, hN⟩ := token_Cut.read_some s hs2
        have hB : token_Cut.numB s = if e0 = 0 then some (5, ⟨#[]⟩, wrap64 (-a), token_Cut.wh token_Cut.qdigit s) else none := by unfold token_Cut.numB; rw [hN]
        have HL := Aside0.mk (token_Cut.wh_le token_Cut.qdigit s)
        obtain ⟨m, hm⟩ : ∃ m, token_Cut.wh token_Cut.qdigit s = m := ⟨_, rfl⟩
        have HW := Aside0.mk hm
        rw [hm] at hB HL hN
        have HX := Aside0.mk hN
        have hm1 : (m : Int) ≤ (s.size : Int) := by have := HL.out; omega
        clear hm hN
        by_cases hz : e0 = 0
        · subst hz
          rw [if_pos rfl] at hB
          rw [hB] at hn1
          clear hB
          go_wp2_with (first | (go_at_call 48; (with_reducible refine (strings_CutPrefix.calls s _ rest true _ HP.out).mono ?_); rintro e w' ⟨rfl, ⟨n1, rfl⟩⟩) | (go_at_call 26; (with_reducible refine (strings_HasPrefix.calls rest _ false _ HH.out).mono ?_); rintro e w' ⟨rfl, ⟨n2, rfl⟩⟩) | (go_at_call 31; (with_reducible refine (utf8_DecodeRuneInString.calls rest R M _ HD.out (HT.out.below (token_Cut.Ct.bel (g := g) (s := s) (p := p) (gl := gl) (v := v) (l := l) (by repeat (first | exact HC.out | refine token_Cut.Ct.drewN ?_ _))))).mono ?_); rintro e w3 ⟨rfl, hb⟩; have HCn := Aside0.mk (show token_Cut.Ct w0 w3 g s p gl v l from token_Cut.Ct.below (by repeat (first | exact HC.out | refine token_Cut.Ct.drewN ?_ _)) hb); clear HC; have HC := HCn; clear HCn hb; have x0w3 : w3.cell? ⟨g, 0, none⟩ = some (.string s) := (blk_cell HC.out.blk 0).trans rfl) | (go_at_call 32; (with_reducible refine (token_Cut.while_eq HW.out (token_Cut.while_digit w0 _ g s p gl v l (by repeat (first | exact HC.out | refine token_Cut.Ct.drewN ?_ _)))).mono ?_); rintro e w4 ⟨rfl, hb⟩; have HCn := Aside0.mk (show token_Cut.Ct w0 w4 g s p gl v l from token_Cut.Ct.below (by repeat (first | exact HC.out | refine token_Cut.Ct.drewN ?_ _)) hb); clear HC; have HC := HCn; clear HCn hb; have x0w4 : w4.cell? ⟨g, 0, none⟩ = some (.string s) := (blk_cell HC.out.blk 0).trans rfl) | (go_at_call 50; (with_reducible refine (num_Read.calls _ a 0 _ HX.out).mono ?_); rintro e w5 ⟨rfl, hb⟩; have HCn := Aside0.mk (show token_Cut.Ct w0 w5 g s p gl v l from token_Cut.Ct.below (by repeat (first | exact HC.out | refine token_Cut.Ct.drewN ?_ _)) hb); clear HC; have HC := HCn; clear HCn hb; have x0w5 : w5.cell? ⟨g, 0, none⟩ = some (.string s) := (blk_cell HC.out.blk 0).trans rfl) | (go_at_call 30; (with_reducible refine (token_Cut.layI w0 _ g s p gl v l 5 ⟨#[]⟩ (wrap64 (-a)) 0 m _ (by first | rfl | omega) (by repeat (first | exact HC.out | refine token_Cut.Ct.drewN ?_ _)) HL.out h0 HS.out hl).mono ?_); rintro e w6 ⟨rfl, v6, h6⟩; have H6 := Aside0.mk h6; clear h6))
          go_ret
          rw [hn1]
          exact ⟨rfl, HL.out, v6, H6.out⟩
        · rw [if_neg hz] at hB
          rw [hB] at hn1
          have hz2 : (e0 == 0) = false := beq_eq_false_iff_ne.mpr hz
          clear hB hz
          go_wp2_with (first | (go_at_call 48; (with_reducible refine (strings_CutPrefix.calls s _ rest true _ HP.out).mono ?_); rintro e w' ⟨rfl, ⟨n1, rfl⟩⟩) | (go_at_call 26; (with_reducible refine (strings_HasPrefix.calls rest _ false _ HH.out).mono ?_); rintro e w' ⟨rfl, ⟨n2, rfl⟩⟩) | (go_at_call 31; (with_reducible refine (utf8_DecodeRuneInString.calls rest R M _ HD.out (HT.out.below (token_Cut.Ct.bel (g := g) (s := s) (p := p) (gl := gl) (v := v) (l := l) (by repeat (first | exact HC.out | refine token_Cut.Ct.drewN ?_ _))))).mono ?_); rintro e w3 ⟨rfl, hb⟩; have HCn := Aside0.mk (show token_Cut.Ct w0 w3 g s p gl v l from token_Cut.Ct.below (by repeat (first | exact HC.out | refine token_Cut.Ct.drewN ?_ _)) hb); clear HC; have HC := HCn; clear HCn hb; have x0w3 : w3.cell? ⟨g, 0, none⟩ = some (.string s) := (blk_cell HC.out.blk 0).trans rfl) | (go_at_call 32; (with_reducible refine (token_Cut.while_eq HW.out (token_Cut.while_digit w0 _ g s p gl v l (by repeat (first | exact HC.out | refine token_Cut.Ct.drewN ?_ _)))).mono ?_); rintro e w4 ⟨rfl, hb⟩; have HCn := Aside0.mk (show token_Cut.Ct w0 w4 g s p gl v l from token_Cut.Ct.below (by repeat (first | exact HC.out | refine token_Cut.Ct.drewN ?_ _)) hb); clear HC; have HC := HCn; clear HCn hb; have x0w4 : w4.cell? ⟨g, 0, none⟩ = some (.string s) := (blk_cell HC.out.blk 0).trans rfl) | (go_at_call 50; (with_reducible refine (num_Read.calls _ a e0 _ HX.out).mono ?_); rintro e w5 ⟨rfl, hb⟩; have HCn := Aside0.mk (show token_Cut.Ct w0 w5 g s p gl v l from token_Cut.Ct.below (by repeat (first | exact HC.out | refine token_Cut.Ct.drewN ?_ _)) hb); clear HC; have HC := HCn; clear HCn hb; have x0w5 : w5.cell? ⟨g, 0, none⟩ = some (.string s) := (blk_cell HC.out.blk 0).trans rfl))
          go_ret
          rw [hn1]
          exact ⟨rfl, (by repeat (first | exact HC.out | refine token_Cut.Ct.drewN ?_ _))⟩
/-- a token whose text is its own bytes -/
def token_Cut.ownT (s : ByteArray) (kd : Int) (n : Nat) : Option (Int × ByteArray × Int × Nat) := if 255 < n ∧ kd ≠ 4 then none else some (kd, s.extract 0 n, 0, n)
set_option maxRecDepth 100000 in
set_option maxHeartbeats 4000000 in
/-- own tells a token of its own bytes. -/
theorem token_Cut.own (w0 w : World) (g bx : Nat) (s : ByteArray) (p : Int) (gl : Bool) (v : Value) (l : List S30) (h : token_Cut.Ct w0 w g s p gl v l) (hx : w.heap[bx]? = some (.cells #[.pointer (some ⟨g, 0, none⟩)] 35 (0, 0))) (h0 : 0 ≤ p) (hs : p + s.size ≤ 5000) (hl : l.length ≤ 100000) (kd : Int) (n : Nat) (hn : n ≤ s.size) :
    Calls Tryd.prog 29 #[.int .i64 kd, .int .i64 n, .pointer (some ⟨bx, 0, none⟩)] w fun e w' => e = .returned (.bool (token_Cut.ownT s kd n).isSome) ∧ token_Cut.Post w0 w' g s p gl v l (token_Cut.ownT s kd n) := by
  have HC := Aside0.mk h
  have HS := Aside0.mk (show p + s.size ≤ 9223372036854775807 by omega)
  have HL := Aside0.mk hn
  have x0 : w.cell? ⟨g, 0, none⟩ = some (.string s) := (blk_cell h.blk 0).trans rfl
  have xb : w.cell? ⟨bx, 0, none⟩ = some (.pointer (some ⟨g, 0, none⟩)) := (blk_cell hx 0).trans rfl
  have hn1 : (n : Int) ≤ (s.size : Int) := by omega
  have hn0 : token_Cut.ownT s kd n = token_Cut.ownT s kd n := rfl
  conv at hn0 => rhs; unfold token_Cut.ownT
  clear h hx hn
  go_enter Tryd.func29, Tryd.ntmps29
  by_cases c1 : 255 < n
  · have k1 : decide ((255 : Int) < (n : Int)) = true := decide_eq_true (by omega)
    by_cases c2 : kd = 4
    · have k2 : (kd != 4) = false := by simp [c2]
      rw [if_neg (fun h => h.2 c2)] at hn0
      clear c1 c2
      go_wp2
      go_region_with (go_at_call 30; (with_reducible refine (token_Cut.layI w0 _ g s p gl v l kd (s.extract 0 n) 0 0 n _ (by first | rfl | omega) HC.out.drew HL.out h0 HS.out hl).mono ?_); rintro e w6 ⟨rfl, v6, h6⟩; have H6 := Aside0.mk h6; clear h6)
      all_goals
        go_wp2
        go_ret
        rw [hn0]
        exact ⟨rfl, HL.out, v6, H6.out⟩
    · have k2 : (kd != 4) = true := by simp [c2]
      rw [if_pos ⟨c1, c2⟩] at hn0
      clear c1 c2
      go_wp2
      go_ret
      rw [hn0]
      exact ⟨rfl, HC.out⟩
  · have k1 : decide ((255 : Int) < (n : Int)) = false := decide_eq_false (by omega)
    rw [if_neg (fun h => c1 h.1)] at hn0
    clear c1
    go_wp2
    go_region_with (go_at_call 30; (with_reducible refine (token_Cut.layI w0 _ g s p gl v l kd (s.extract 0 n) 0 0 n _ (by first | rfl | omega) HC.out.drew HL.out h0 HS.out hl).mono ?_); rintro e w6 ⟨rfl, v6, h6⟩; have H6 := Aside0.mk h6; clear h6)
    all_goals
      go_wp2
      go_ret
      rw [hn0]
      exact ⟨rfl, HL.out, v6, H6.out⟩
theorem token_Cut.ownI (w0 w : World) (g bx : Nat) (s : ByteArray) (p : Int) (gl : Bool) (v : Value) (l : List S30) (h : token_Cut.Ct w0 w g s p gl v l) (hx : w.heap[bx]? = some (.cells #[.pointer (some ⟨g, 0, none⟩)] 35 (0, 0))) (h0 : 0 ≤ p) (hs : p + s.size ≤ 5000) (hl : l.length ≤ 100000) (kd : Int) (n : Nat) (m : Int) (hm : m = (n : Int)) (hn : n ≤ s.size) :
    Calls Tryd.prog 29 #[.int .i64 kd, .int .i64 m, .pointer (some ⟨bx, 0, none⟩)] w fun e w' => e = .returned (.bool (token_Cut.ownT s kd n).isSome) ∧ token_Cut.Post w0 w' g s p gl v l (token_Cut.ownT s kd n) := by
  subst hm
  exact token_Cut.own w0 w g bx s p gl v l h hx h0 hs hl kd n hn
theorem token_Cut.runes_lt (s : ByteArray) : ∀ f pos, ∀ x ∈ runesAt s f pos, x.1 < s.size
  | 0, pos => by intro x hx; simp [runesAt] at hx
  | f + 1, pos => by
    intro x hx
    unfold runesAt at hx
    split at hx
    · rename_i h
      rcases List.mem_cons.1 hx with rfl | hx
      · exact h
      · exact token_Cut.runes_lt s f _ x hx
    · simp at hx
theorem token_Cut.go_range (s : ByteArray) : ∀ (l : List (Nat × Nat)) (skip : Int) (acc : List UInt8), (∀ x ∈ l, x.1 < s.size) → (char_Read.go s skip acc l).2.2 = 0 → 1 ≤ (char_Read.go s skip acc l).2.1 ∧ (char_Read.go s skip acc l).2.1 ≤ s.size
  | [], skip, acc, _ => by intro h; simp [char_Read.go] at h
  | x :: l, skip, acc, hx => by
    have ih := fun skip acc => token_Cut.go_range s l skip acc (fun y hy => hx y (List.mem_cons_of_mem _ hy))
    have h1 := hx x (List.mem_cons_self ..)
    unfold char_Read.go
    repeat' split
    all_goals first | exact ih _ _ | (intro _; dsimp only; omega) | (intro h; simp at h)
theorem token_Cut.rd_some (s : ByteArray) (h : s.size ≤ 35184372088832) : ∃ t n e, char_Read.f s = some (t, n, e) := by
  unfold char_Read.f
  rw [if_pos h]
  exact ⟨_, _, _, rfl⟩
theorem token_Cut.rd_range (s : ByteArray) {t : ByteArray} {n : Int} (h : char_Read.f s = some (t, n, 0)) : 1 ≤ n ∧ n ≤ s.size := by
  unfold char_Read.f at h
  split at h
  case isFalse => cases h
  case isTrue hz =>
  injection h with h
  simp only [Prod.mk.injEq] at h
  obtain ⟨-, h2, h3⟩ := h
  unfold char_Read.val at h2 h3
  split at h3
  · simp at h3
  · rename_i c1
    rw [if_neg c1] at h2
    split at h3
    · rename_i c2
      rw [if_pos c2] at h2
      have := token_Cut.go_range s (runesOf s) 1 [] (token_Cut.runes_lt s _ _) h3
      rw [h2] at this
      exact this
    · simp at h3
/-- a token at the beginning: kind, text, value, bytes; none: there is none -/
def token_Cut.tok (s : ByteArray) (gl : Bool) : Option (Int × ByteArray × Int × Nat) :=
  if classN ((Lib.decodeGo s).1 : Int) = 1 then token_Cut.ownT s 1 (token_Cut.wh token_Cut.qword s)
  else if classN ((Lib.decodeGo s).1 : Int) = 2 then token_Cut.ownT s 4 (token_Cut.wh token_Cut.qword s)
  else if classN ((Lib.decodeGo s).1 : Int) = 3 then token_Cut.num s
  else if classN ((Lib.decodeGo s).1 : Int) = 4 then
    (if (s.extract 0 (token_Cut.wh token_Cut.qsign s)).toList = ([46] : List UInt8) ∧ (token_Cut.wh token_Cut.qsign s = s.size ∨ ((Lib.decodeGo (s.extract (token_Cut.wh token_Cut.qsign s) s.size)).1 : Int) = 37 ∨ classN ((Lib.decodeGo (s.extract (token_Cut.wh token_Cut.qsign s) s.size)).1 : Int) = 5)
     then token_Cut.ownT s 8 (token_Cut.wh token_Cut.qsign s) else token_Cut.ownT s 3 (token_Cut.wh token_Cut.qsign s))
  else if classN ((Lib.decodeGo s).1 : Int) = 6 then (if ((Lib.decodeGo s).1 : Int) = 33 ∨ ((Lib.decodeGo s).1 : Int) = 59 then token_Cut.ownT s 1 1 else token_Cut.ownT s 6 1)
  else if classN ((Lib.decodeGo s).1 : Int) = 7 then (if ((Lib.decodeGo s).1 : Int) = 40 ∧ gl = true then token_Cut.ownT s 7 1 else token_Cut.ownT s 6 1)
  else if classN ((Lib.decodeGo s).1 : Int) = 8 then (match char_Read.f s with
    | some (t, n, e) => if e = 0 ∧ t.size ≤ 255 then some (2, t, 0, n.toNat) else none
    | none => none)
  else none
set_option maxRecDepth 100000 in
set_option maxHeartbeats 16000000 in
/-- next cuts a token off. -/
theorem token_Cut.next (w0 w : World) (g : Nat) (s : ByteArray) (p : Int) (gl : Bool) (v : Value) (l : List S30) (h : token_Cut.Ct w0 w g s p gl v l) (hT : Tabs w0) (h0 : 0 ≤ p) (hs : p + s.size ≤ 5000) (hz : s.size ≠ 0) (hl : l.length ≤ 100000) :
    Calls Tryd.prog 16 #[.pointer (some ⟨g, 0, none⟩)] w fun e w' => e = .returned (.bool (token_Cut.tok s gl).isSome) ∧ token_Cut.Post w0 w' g s p gl v l (token_Cut.tok s gl) := by
  have HC := Aside0.mk (h.below (below_alloc (Below.refl _ _) (.cells #[.pointer (some ⟨g, 0, none⟩)] 35)))
  have HX := Aside0.mk (blk_new w (.cells #[.pointer (some ⟨g, 0, none⟩)] 35))
  have HT := Aside0.mk hT
  have HS := Aside0.mk (show p + s.size ≤ 9223372036854775807 by omega)
  have x0 : (w.alloc (.cells #[.pointer (some ⟨g, 0, none⟩)] 35)).cell? ⟨g, 0, none⟩ = some (.string s) := (blk_cell HC.out.blk 0).trans rfl
  have xb : (w.alloc (.cells #[.pointer (some ⟨g, 0, none⟩)] 35)).cell? ⟨w.heap.size, 0, none⟩ = some (.pointer (some ⟨g, 0, none⟩)) := (blk_cell HX.out 0).trans rfl
  have hn1 : token_Cut.tok s gl = token_Cut.tok s gl := rfl
  conv at hn1 => rhs; unfold token_Cut.tok
  obtain ⟨R, M, hd⟩ : ∃ R M, utf8_DecodeRuneInString.f s = some (R, M) := ⟨_, _, rfl⟩
  have hr : ((Lib.decodeGo s).1 : Int) = R := congrArg Prod.fst (Option.some.inj hd)
  rw [hr] at hn1
  have HD := Aside0.mk hd
  obtain ⟨kk, hkk⟩ : ∃ kk, classN R = kk := ⟨_, rfl⟩
  have HK := Aside0.mk (hkk ▸ class_some R)
  rw [hkk] at hn1
  clear h hT hd hr hkk
  go_enter Tryd.func16, Tryd.ntmps16
  by_cases c1 : kk = 1
  · rw [if_pos c1] at hn1
    have q1 : (kk == 1) = true := by simp [c1]
    clear c1
    have HL := Aside0.mk (token_Cut.wh_le token_Cut.qword s)
    obtain ⟨m, hm⟩ : ∃ m, token_Cut.wh token_Cut.qword s = m := ⟨_, rfl⟩
    have HW := Aside0.mk hm
    rw [hm] at hn1 HL
    clear hm
    go_wp2_with (first | (go_at_call 31; (with_reducible refine (utf8_DecodeRuneInString.calls s R M _ HD.out (HT.out.below (token_Cut.Ct.bel (g := g) (s := s) (p := p) (gl := gl) (v := v) (l := l) (by repeat (first | exact HC.out | refine token_Cut.Ct.drewN ?_ _))))).mono ?_); rintro e w3 ⟨rfl, hb⟩; have HCn := Aside0.mk (show token_Cut.Ct w0 w3 g s p gl v l from token_Cut.Ct.below (by repeat (first | exact HC.out | refine token_Cut.Ct.drewN ?_ _)) hb); have HXn := Aside0.mk (show w3.heap[w.heap.size]? = some (.cells #[.pointer (some ⟨g, 0, none⟩)] 35 (0, 0)) from blk_below (by repeat (first | exact HX.out | refine blk_drewN ?_ _)) hb); clear HC HX; have HC := HCn; have HX := HXn; clear HCn HXn hb; have x0w3 : w3.cell? ⟨g, 0, none⟩ = some (.string s) := (blk_cell HC.out.blk 0).trans rfl; have x2w3 : w3.cell? ⟨g, 2, none⟩ = some (.bool gl) := (blk_cell HC.out.blk 2).trans rfl; have xbw3 : w3.cell? ⟨w.heap.size, 0, none⟩ = some (.pointer (some ⟨g, 0, none⟩)) := (blk_cell HX.out 0).trans rfl) | (go_at_call 24; (with_reducible refine (char_Class.calls 8 R kk _ HK.out).mono ?_); rintro e w' ⟨rfl, ⟨n5, rfl⟩⟩) | (go_at_call 32; (with_reducible refine (token_Cut.while_eq HW.out (token_Cut.while_word w0 _ g s p gl v l (by repeat (first | exact HC.out | refine token_Cut.Ct.drewN ?_ _)))).mono ?_); rintro e w4 ⟨rfl, hb⟩; have HCn := Aside0.mk (show token_Cut.Ct w0 w4 g s p gl v l from token_Cut.Ct.below (by repeat (first | exact HC.out | refine token_Cut.Ct.drewN ?_ _)) hb); have HXn := Aside0.mk (show w4.heap[w.heap.size]? = some (.cells #[.pointer (some ⟨g, 0, none⟩)] 35 (0, 0)) from blk_below (by repeat (first | exact HX.out | refine blk_drewN ?_ _)) hb); clear HC HX; have HC := HCn; have HX := HXn; clear HCn HXn hb; have x0w4 : w4.cell? ⟨g, 0, none⟩ = some (.string s) := (blk_cell HC.out.blk 0).trans rfl; have x2w4 : w4.cell? ⟨g, 2, none⟩ = some (.bool gl) := (blk_cell HC.out.blk 2).trans rfl; have xbw4 : w4.cell? ⟨w.heap.size, 0, none⟩ = some (.pointer (some ⟨g, 0, none⟩)) := (blk_cell HX.out 0).trans rfl) | (go_at_call 29; (with_reducible refine (token_Cut.ownI w0 _ g w.heap.size s p gl v l (by repeat (first | exact HC.out | refine token_Cut.Ct.drewN ?_ _)) (by repeat (first | exact HX.out | refine blk_drewN ?_ _)) h0 hs hl 1 m _ (by first | rfl | omega) HL.out).mono ?_); rintro e w7 ⟨rfl, h7⟩; have H7 := Aside0.mk h7; clear h7))
    go_ret
    rw [hn1]
    exact ⟨rfl, H7.out⟩
  rw [if_neg c1] at hn1
  have q1 : (kk == 1) = false := by simp [c1]
  clear c1
  by_cases c2 : kk = 2
  · rw [if_pos c2] at hn1
    have q2 : (kk == 2) = true := by simp [c2]
    clear c2
    have HL := Aside0.mk (token_Cut.wh_le token_Cut.qword s)
    obtain ⟨m, hm⟩ : ∃ m, token_Cut.wh token_Cut.qword s = m := ⟨_, rfl⟩
    have HW := Aside0.mk hm
    rw [hm] at hn1 HL
    clear hm
    go_wp2_with (first | (go_at_call 31; (with_reducible refine (utf8_DecodeRuneInString.calls s R M _ HD.out (HT.out.below (token_Cut.Ct.bel (g := g) (s := s) (p := p) (gl := gl) (v := v) (l := l) (by repeat (first | exact HC.out | refine token_Cut.Ct.drewN ?_ _))))).mono ?_); rintro e w3 ⟨rfl, hb⟩; have HCn := Aside0.mk (show token_Cut.Ct w0 w3 g s p gl v l from token_Cut.Ct.below (by repeat (first | exact HC.out | refine token_Cut.Ct.drewN ?_ _)) hb); have HXn := Aside0.mk (show w3.heap[w.heap.size]? = some (.cells #[.pointer (some ⟨g, 0, none⟩)] 35 (0, 0)) from blk_below (by repeat (first | exact HX.out | refine blk_drewN ?_ _)) hb); clear HC HX; have HC := HCn; have HX := HXn; clear HCn HXn hb; have x0w3 : w3.cell? ⟨g, 0, none⟩ = some (.string s) := (blk_cell HC.out.blk 0).trans rfl; have x2w3 : w3.cell? ⟨g, 2, none⟩ = some (.bool gl) := (blk_cell HC.out.blk 2).trans rfl; have xbw3 : w3.cell? ⟨w.heap.size, 0, none⟩ = some (.pointer (some ⟨g, 0, none⟩)) := (blk_cell HX.out 0).trans rfl) | (go_at_call 24; (with_reducible refine (char_Class.calls 8 R kk _ HK.out).mono ?_); rintro e w' ⟨rfl, ⟨n5, rfl⟩⟩) | (go_at_call 32; (with_reducible refine (token_Cut.while_eq HW.out (token_Cut.while_word w0 _ g s p gl v l (by repeat (first | exact HC.out | refine token_Cut.Ct.drewN ?_ _)))).mono ?_); rintro e w4 ⟨rfl, hb⟩; have HCn := Aside0.mk (show token_Cut.Ct w0 w4 g s p gl v l from token_Cut.Ct.below (by repeat (first | exact HC.out | refine token_Cut.Ct.drewN ?_ _)) hb); have HXn := Aside0.mk (show w4.heap[w.heap.size]? = some (.cells #[.pointer (some ⟨g, 0, none⟩)] 35 (0, 0)) from blk_below (by repeat (first | exact HX.out | refine blk_drewN ?_ _)) hb); clear HC HX; have HC := HCn; have HX := HXn; clear HCn HXn hb; have x0w4 : w4.cell? ⟨g, 0, none⟩ = some (.string s) := (blk_cell HC.out.blk 0).trans rfl; have x2w4 : w4.cell? ⟨g, 2, none⟩ = some (.bool gl) := (blk_cell HC.out.blk 2).trans rfl; have xbw4 : w4.cell? ⟨w.heap.size, 0, none⟩ = some (.pointer (some ⟨g, 0, none⟩)) := (blk_cell HX.out 0).trans rfl) | (go_at_call 29; (with_reducible refine (token_Cut.ownI w0 _ g w.heap.size s p gl v l (by repeat (first | exact HC.out | refine token_Cut.Ct.drewN ?_ _)) (by repeat (first | exact HX.out | refine blk_drewN ?_ _)) h0 hs hl 4 m _ (by first | rfl | omega) HL.out).mono ?_); rintro e w7 ⟨rfl, h7⟩; have H7 := Aside0.mk h7; clear h7))
    go_ret
    rw [hn1]
    exact ⟨rfl, H7.out⟩
  rw [if_neg c2] at hn1
  have q2 : (kk == 2) = false := by simp [c2]
  clear c2
  by_cases c3 : kk = 3
  · rw [if_pos c3] at hn1
    have q3 : (kk == 3) = true := by simp [c3]
    clear c3
    go_wp2_with (first | (go_at_call 31; (with_reducible refine (utf8_DecodeRuneInString.calls s R M _ HD.out (HT.out.below (token_Cut.Ct.bel (g := g) (s := s) (p := p) (gl := gl) (v := v) (l := l) (by repeat (first | exact HC.out | refine token_Cut.Ct.drewN ?_ _))))).mono ?_); rintro e w3 ⟨rfl, hb⟩; have HCn := Aside0.mk (show token_Cut.Ct w0 w3 g s p gl v l from token_Cut.Ct.below (by repeat (first | exact HC.out | refine token_Cut.Ct.drewN ?_ _)) hb); have HXn := Aside0.mk (show w3.heap[w.heap.size]? = some (.cells #[.pointer (some ⟨g, 0, none⟩)] 35 (0, 0)) from blk_below (by repeat (first | exact HX.out | refine blk_drewN ?_ _)) hb); clear HC HX; have HC := HCn; have HX := HXn; clear HCn HXn hb; have x0w3 : w3.cell? ⟨g, 0, none⟩ = some (.string s) := (blk_cell HC.out.blk 0).trans rfl; have x2w3 : w3.cell? ⟨g, 2, none⟩ = some (.bool gl) := (blk_cell HC.out.blk 2).trans rfl; have xbw3 : w3.cell? ⟨w.heap.size, 0, none⟩ = some (.pointer (some ⟨g, 0, none⟩)) := (blk_cell HX.out 0).trans rfl) | (go_at_call 24; (with_reducible refine (char_Class.calls 8 R kk _ HK.out).mono ?_); rintro e w' ⟨rfl, ⟨n5, rfl⟩⟩) | (go_at_call 34; (with_reducible refine (token_Cut.number w0 _ g s p gl v l (by repeat (first | exact HC.out | refine token_Cut.Ct.drewN ?_ _)) HT.out h0 hs hl).mono ?_); rintro e w7 ⟨rfl, h7⟩; have H7 := Aside0.mk h7; clear h7))
    go_ret
    rw [hn1]
    exact ⟨rfl, H7.out⟩
  rw [if_neg c3] at hn1
  have q3 : (kk == 3) = false := by simp [c3]
  clear c3
  by_cases c4 : kk = 4
  · rw [if_pos c4] at hn1
    have q4 : (kk == 4) = true := by simp [c4]
    clear c4
    have HL := Aside0.mk (token_Cut.wh_le token_Cut.qsign s)
    obtain ⟨m, hm⟩ : ∃ m, token_Cut.wh token_Cut.qsign s = m := ⟨_, rfl⟩
    have HW := Aside0.mk hm
    rw [hm] at hn1 HL
    clear hm
    have hmi : (m : Int) ≤ (s.size : Int) := by have := HL.out; omega
    obtain ⟨R2, M2, hd2⟩ : ∃ R2 M2, utf8_DecodeRuneInString.f (s.extract m s.size) = some (R2, M2) := ⟨_, _, rfl⟩
    have hr2 : ((Lib.decodeGo (s.extract m s.size)).1 : Int) = R2 := congrArg Prod.fst (Option.some.inj hd2)
    rw [hr2] at hn1
    have HD2 := Aside0.mk hd2
    obtain ⟨k2, hk2⟩ : ∃ k2, classN R2 = k2 := ⟨_, rfl⟩
    have HK2 := Aside0.mk (hk2 ▸ class_some R2)
    rw [hk2] at hn1
    clear hd2 hr2 hk2
    by_cases d1 : (s.extract 0 m).toList = ([46] : List UInt8)
    case neg =>
      have e1 : ((s.extract 0 m).toList == ([46] : List UInt8)) = false := beq_eq_false_iff_ne.mpr d1
      rw [if_neg (fun h => d1 h.1)] at hn1
      clear d1
      go_wp2_with (first | (go_at_call 31; (with_reducible refine (utf8_DecodeRuneInString.calls (s.extract m s.size) R2 M2 _ HD2.out (HT.out.below (token_Cut.Ct.bel (g := g) (s := s) (p := p) (gl := gl) (v := v) (l := l) (by repeat (first | exact HC.out | refine token_Cut.Ct.drewN ?_ _))))).mono ?_); rintro e w5 ⟨rfl, hb⟩; have HCn := Aside0.mk (show token_Cut.Ct w0 w5 g s p gl v l from token_Cut.Ct.below (by repeat (first | exact HC.out | refine token_Cut.Ct.drewN ?_ _)) hb); have HXn := Aside0.mk (show w5.heap[w.heap.size]? = some (.cells #[.pointer (some ⟨g, 0, none⟩)] 35 (0, 0)) from blk_below (by repeat (first | exact HX.out | refine blk_drewN ?_ _)) hb); clear HC HX; have HC := HCn; have HX := HXn; clear HCn HXn hb; have x0w5 : w5.cell? ⟨g, 0, none⟩ = some (.string s) := (blk_cell HC.out.blk 0).trans rfl; have x2w5 : w5.cell? ⟨g, 2, none⟩ = some (.bool gl) := (blk_cell HC.out.blk 2).trans rfl; have xbw5 : w5.cell? ⟨w.heap.size, 0, none⟩ = some (.pointer (some ⟨g, 0, none⟩)) := (blk_cell HX.out 0).trans rfl) | (go_at_call 31; (with_reducible refine (utf8_DecodeRuneInString.calls s R M _ HD.out (HT.out.below (token_Cut.Ct.bel (g := g) (s := s) (p := p) (gl := gl) (v := v) (l := l) (by repeat (first | exact HC.out | refine token_Cut.Ct.drewN ?_ _))))).mono ?_); rintro e w3 ⟨rfl, hb⟩; have HCn := Aside0.mk (show token_Cut.Ct w0 w3 g s p gl v l from token_Cut.Ct.below (by repeat (first | exact HC.out | refine token_Cut.Ct.drewN ?_ _)) hb); have HXn := Aside0.mk (show w3.heap[w.heap.size]? = some (.cells #[.pointer (some ⟨g, 0, none⟩)] 35 (0, 0)) from blk_below (by repeat (first | exact HX.out | refine blk_drewN ?_ _)) hb); clear HC HX; have HC := HCn; have HX := HXn; clear HCn HXn hb; have x0w3 : w3.cell? ⟨g, 0, none⟩ = some (.string s) := (blk_cell HC.out.blk 0).trans rfl; have x2w3 : w3.cell? ⟨g, 2, none⟩ = some (.bool gl) := (blk_cell HC.out.blk 2).trans rfl; have xbw3 : w3.cell? ⟨w.heap.size, 0, none⟩ = some (.pointer (some ⟨g, 0, none⟩)) := (blk_cell HX.out 0).trans rfl) | (go_at_call 24; (with_reducible refine (char_Class.calls 8 R2 k2 _ HK2.out).mono ?_); rintro e w' ⟨rfl, ⟨n6, rfl⟩⟩) | (go_at_call 24; (with_reducible refine (char_Class.calls 8 R kk _ HK.out).mono ?_); rintro e w' ⟨rfl, ⟨n5, rfl⟩⟩) | (go_at_call 32; (with_reducible refine (token_Cut.while_eq HW.out (token_Cut.while_sign w0 _ g s p gl v l (by repeat (first | exact HC.out | refine token_Cut.Ct.drewN ?_ _)))).mono ?_); rintro e w4 ⟨rfl, hb⟩; have HCn := Aside0.mk (show token_Cut.Ct w0 w4 g s p gl v l from token_Cut.Ct.below (by repeat (first | exact HC.out | refine token_Cut.Ct.drewN ?_ _)) hb); have HXn := Aside0.mk (show w4.heap[w.heap.size]? = some (.cells #[.pointer (some ⟨g, 0, none⟩)] 35 (0, 0)) from blk_below (by repeat (first | exact HX.out | refine blk_drewN ?_ _)) hb); clear HC HX; have HC := HCn; have HX := HXn; clear HCn HXn hb; have x0w4 : w4.cell? ⟨g, 0, none⟩ = some (.string s) := (blk_cell HC.out.blk 0).trans rfl; have x2w4 : w4.cell? ⟨g, 2, none⟩ = some (.bool gl) := (blk_cell HC.out.blk 2).trans rfl; have xbw4 : w4.cell? ⟨w.heap.size, 0, none⟩ = some (.pointer (some ⟨g, 0, none⟩)) := (blk_cell HX.out 0).trans rfl) | (go_at_call 29; (with_reducible refine (token_Cut.ownI w0 _ g w.heap.size s p gl v l (by repeat (first | exact HC.out | refine token_Cut.Ct.drewN ?_ _)) (by repeat (first | exact HX.out | refine blk_drewN ?_ _)) h0 hs hl 3 m _ (by first | rfl | omega) HL.out).mono ?_); rintro e w7 ⟨rfl, h7⟩; have H7 := Aside0.mk h7; clear h7))
      go_ret
      rw [hn1]
      exact ⟨rfl, H7.out⟩
    have e1 : ((s.extract 0 m).toList == ([46] : List UInt8)) = true := beq_iff_eq.mpr d1
    by_cases d2 : m = s.size
    case pos =>
      have e2 : ((m : Int) == (s.size : Int)) = true := by simp [d2]
      have e2b : (m == s.size) = true := by simp [d2]
      rw [if_pos ⟨d1, .inl d2⟩] at hn1
      clear d1 d2
      go_wp2_with (first | (go_at_call 31; (with_reducible refine (utf8_DecodeRuneInString.calls (s.extract m s.size) R2 M2 _ HD2.out (HT.out.below (token_Cut.Ct.bel (g := g) (s := s) (p := p) (gl := gl) (v := v) (l := l) (by repeat (first | exact HC.out | refine token_Cut.Ct.drewN ?_ _))))).mono ?_); rintro e w5 ⟨rfl, hb⟩; have HCn := Aside0.mk (show token_Cut.Ct w0 w5 g s p gl v l from token_Cut.Ct.below (by repeat (first | exact HC.out | refine token_Cut.Ct.drewN ?_ _)) hb); have HXn := Aside0.mk (show w5.heap[w.heap.size]? = some (.cells #[.pointer (some ⟨g, 0, none⟩)] 35 (0, 0)) from blk_below (by repeat (first | exact HX.out | refine blk_drewN ?_ _)) hb); clear HC HX; have HC := HCn; have HX := HXn; clear HCn HXn hb; have x0w5 : w5.cell? ⟨g, 0, none⟩ = some (.string s) := (blk_cell HC.out.blk 0).trans rfl; have x2w5 : w5.cell? ⟨g, 2, none⟩ = some (.bool gl) := (blk_cell HC.out.blk 2).trans rfl; have xbw5 : w5.cell? ⟨w.heap.size, 0, none⟩ = some (.pointer (some ⟨g, 0, none⟩)) := (blk_cell HX.out 0).trans rfl) | (go_at_call 31; (with_reducible refine (utf8_DecodeRuneInString.calls s R M _ HD.out (HT.out.below (token_Cut.Ct.bel (g := g) (s := s) (p := p) (gl := gl) (v := v) (l := l) (by repeat (first | exact HC.out | refine token_Cut.Ct.drewN ?_ _))))).mono ?_); rintro e w3 ⟨rfl, hb⟩; have HCn := Aside0.mk (show token_Cut.Ct w0 w3 g s p gl v l from token_Cut.Ct.below (by repeat (first | exact HC.out | refine token_Cut.Ct.drewN ?_ _)) hb); have HXn := Aside0.mk (show w3.heap[w.heap.size]? = some (.cells #[.pointer (some ⟨g, 0, none⟩)] 35 (0, 0)) from blk_below (by repeat (first | exact HX.out | refine blk_drewN ?_ _)) hb); clear HC HX; have HC := HCn; have HX := HXn; clear HCn HXn hb; have x0w3 : w3.cell? ⟨g, 0, none⟩ = some (.string s) := (blk_cell HC.out.blk 0).trans rfl; have x2w3 : w3.cell? ⟨g, 2, none⟩ = some (.bool gl) := (blk_cell HC.out.blk 2).trans rfl; have xbw3 : w3.cell? ⟨w.heap.size, 0, none⟩ = some (.pointer (some ⟨g, 0, none⟩)) := (blk_cell HX.out 0).trans rfl) | (go_at_call 24; (with_reducible refine (char_Class.calls 8 R2 k2 _ HK2.out).mono ?_); rintro e w' ⟨rfl, ⟨n6, rfl⟩⟩) | (go_at_call 24; (with_reducible refine (char_Class.calls 8 R kk _ HK.out).mono ?_); rintro e w' ⟨rfl, ⟨n5, rfl⟩⟩) | (go_at_call 32; (with_reducible refine (token_Cut.while_eq HW.out (token_Cut.while_sign w0 _ g s p gl v l (by repeat (first | exact HC.out | refine token_Cut.Ct.drewN ?_ _)))).mono ?_); rintro e w4 ⟨rfl, hb⟩; have HCn := Aside0.mk (show token_Cut.Ct w0 w4 g s p gl v l from token_Cut.Ct.below (by repeat (first | exact HC.out | refine token_Cut.Ct.drewN ?_ _)) hb); have HXn := Aside0.mk (show w4.heap[w.heap.size]? = some (.cells #[.pointer (some ⟨g, 0, none⟩)] 35 (0, 0)) from blk_below (by repeat (first | exact HX.out | refine blk_drewN ?_ _)) hb); clear HC HX; have HC := HCn; have HX := HXn; clear HCn HXn hb; have x0w4 : w4.cell? ⟨g, 0, none⟩ = some (.string s) := (blk_cell HC.out.blk 0).trans rfl; have x2w4 : w4.cell? ⟨g, 2, none⟩ = some (.bool gl) := (blk_cell HC.out.blk 2).trans rfl; have xbw4 : w4.cell? ⟨w.heap.size, 0, none⟩ = some (.pointer (some ⟨g, 0, none⟩)) := (blk_cell HX.out 0).trans rfl) | (go_at_call 29; (with_reducible refine (token_Cut.ownI w0 _ g w.heap.size s p gl v l (by repeat (first | exact HC.out | refine token_Cut.Ct.drewN ?_ _)) (by repeat (first | exact HX.out | refine blk_drewN ?_ _)) h0 hs hl 8 m _ (by first | rfl | omega) HL.out).mono ?_); rintro e w7 ⟨rfl, h7⟩; have H7 := Aside0.mk h7; clear h7))
      go_ret
      rw [hn1]
      exact ⟨rfl, H7.out⟩
    have e2 : ((m : Int) == (s.size : Int)) = false := by simp; omega
    have e2b : (m == s.size) = false := by simp [d2]
    by_cases d3 : R2 = 37
    case pos =>
      have e3 : (R2 == 37) = true := by simp [d3]
      rw [if_pos ⟨d1, .inr (.inl d3)⟩] at hn1
      clear d1 d2 d3
      go_wp2_with (first | (go_at_call 31; (with_reducible refine (utf8_DecodeRuneInString.calls (s.extract m s.size) R2 M2 _ HD2.out (HT.out.below (token_Cut.Ct.bel (g := g) (s := s) (p := p) (gl := gl) (v := v) (l := l) (by repeat (first | exact HC.out | refine token_Cut.Ct.drewN ?_ _))))).mono ?_); rintro e w5 ⟨rfl, hb⟩; have HCn := Aside0.mk (show token_Cut.Ct w0 w5 g s p gl v l from token_Cut.Ct.below (by repeat (first | exact HC.out | refine token_Cut.Ct.drewN ?_ _)) hb); have HXn := Aside0.mk (show w5.heap[w.heap.size]? = some (.cells #[.pointer (some ⟨g, 0, none⟩)] 35 (0, 0)) from blk_below (by repeat (first | exact HX.out | refine blk_drewN ?_ _)) hb); clear HC HX; have HC := HCn; have HX := HXn; clear HCn HXn hb; have x0w5 : w5.cell? ⟨g, 0, none⟩ = some (.string s) := (blk_cell HC.out.blk 0).trans rfl; have x2w5 : w5.cell? ⟨g, 2, none⟩ = some (.bool gl) := (blk_cell HC.out.blk 2).trans rfl; have xbw5 : w5.cell? ⟨w.heap.size, 0, none⟩ = some (.pointer (some ⟨g, 0, none⟩)) := (blk_cell HX.out 0).trans rfl) | (go_at_call 31; (with_reducible refine (utf8_DecodeRuneInString.calls s R M _ HD.out (HT.out.below (token_Cut.Ct.bel (g := g) (s := s) (p := p) (gl := gl) (v := v) (l := l) (by repeat (first | exact HC.out | refine token_Cut.Ct.drewN ?_ _))))).mono ?_); rintro e w3 ⟨rfl, hb⟩; have HCn := Aside0.mk (show token_Cut.Ct w0 w3 g s p gl v l from token_Cut.Ct.below (by repeat (first | exact HC.out | refine token_Cut.Ct.drewN ?_ _)) hb); have HXn := Aside0.mk (show w3.heap[w.heap.size]? = some (.cells #[.pointer (some ⟨g, 0, none⟩)] 35 (0, 0)) from blk_below (by repeat (first | exact HX.out | refine blk_drewN ?_ _)) hb); clear HC HX; have HC := HCn; have HX := HXn; clear HCn HXn hb; have x0w3 : w3.cell? ⟨g, 0, none⟩ = some (.string s) := (blk_cell HC.out.blk 0).trans rfl; have x2w3 : w3.cell? ⟨g, 2, none⟩ = some (.bool gl) := (blk_cell HC.out.blk 2).trans rfl; have xbw3 : w3.cell? ⟨w.heap.size, 0, none⟩ = some (.pointer (some ⟨g, 0, none⟩)) := (blk_cell HX.out 0).trans rfl) | (go_at_call 24; (with_reducible refine (char_Class.calls 8 R2 k2 _ HK2.out).mono ?_); rintro e w' ⟨rfl, ⟨n6, rfl⟩⟩) | (go_at_call 24; (with_reducible refine (char_Class.calls 8 R kk _ HK.out).mono ?_); rintro e w' ⟨rfl, ⟨n5, rfl⟩⟩) | (go_at_call 32; (with_reducible refine (token_Cut.while_eq HW.out (token_Cut.while_sign w0 _ g s p gl v l (by repeat (first | exact HC.out | refine token_Cut.Ct.drewN ?_ _)))).mono ?_); rintro e w4 ⟨rfl, hb⟩; have HCn := Aside0.mk (show token_Cut.Ct w0 w4 g s p gl v l from token_Cut.Ct.below (by repeat (first | exact HC.out | refine token_Cut.Ct.drewN ?_ _)) hb); have HXn := Aside0.mk (show w4.heap[w.heap.size]? = some (.cells #[.pointer (some ⟨g, 0, none⟩)] 35 (0, 0)) from blk_below (by repeat (first | exact HX.out | refine blk_drewN ?_ _)) hb); clear HC HX; have HC := HCn; have HX := HXn; clear HCn HXn hb; have x0w4 : w4.cell? ⟨g, 0, none⟩ = some (.string s) := (blk_cell HC.out.blk 0).trans rfl; have x2w4 : w4.cell? ⟨g, 2, none⟩ = some (.bool gl) := (blk_cell HC.out.blk 2).trans rfl; have xbw4 : w4.cell? ⟨w.heap.size, 0, none⟩ = some (.pointer (some ⟨g, 0, none⟩)) := (blk_cell HX.out 0).trans rfl) | (go_at_call 29; (with_reducible refine (token_Cut.ownI w0 _ g w.heap.size s p gl v l (by repeat (first | exact HC.out | refine token_Cut.Ct.drewN ?_ _)) (by repeat (first | exact HX.out | refine blk_drewN ?_ _)) h0 hs hl 8 m _ (by first | rfl | omega) HL.out).mono ?_); rintro e w7 ⟨rfl, h7⟩; have H7 := Aside0.mk h7; clear h7))
      go_ret
      rw [hn1]
      exact ⟨rfl, H7.out⟩
    have e3 : (R2 == 37) = false := by simp [d3]
    by_cases d4 : k2 = 5
    case pos =>
      have e4 : (k2 == 5) = true := by simp [d4]
      rw [if_pos ⟨d1, .inr (.inr d4)⟩] at hn1
      clear d1 d2 d3 d4
      go_wp2_with (first | (go_at_call 31; (with_reducible refine (utf8_DecodeRuneInString.calls (s.extract m s.size) R2 M2 _ HD2.out (HT.out.below (token_Cut.Ct.bel (g := g) (s := s) (p := p) (gl := gl) (v := v) (l := l) (by repeat (first | exact HC.out | refine token_Cut.Ct.drewN ?_ _))))).mono ?_); rintro e w5 ⟨rfl, hb⟩; have HCn := Aside0.mk (show token_Cut.Ct w0 w5 g s p gl v l from token_Cut.Ct.below (by repeat (first | exact HC.out | refine token_Cut.Ct.drewN ?_ _)) hb); have HXn := Aside0.mk (show w5.heap[w.heap.size]? = some (.cells #[.pointer (some ⟨g, 0, none⟩)] 35 (0, 0)) from blk_below (by repeat (first | exact HX.out | refine blk_drewN ?_ _)) hb); clear HC HX; have HC := HCn; have HX := HXn; clear HCn HXn hb; have x0w5 : w5.cell? ⟨g, 0, none⟩ = some (.string s) := (blk_cell HC.out.blk 0).trans rfl; have x2w5 : w5.cell? ⟨g, 2, none⟩ = some (.bool gl) := (blk_cell HC.out.blk 2).trans rfl; have xbw5 : w5.cell? ⟨w.heap.size, 0, none⟩ = some (.pointer (some ⟨g, 0, none⟩)) := (blk_cell HX.out 0).trans rfl) | (go_at_call 31; (with_reducible refine (utf8_DecodeRuneInString.calls s R M _ HD.out (HT.out.below (token_Cut.Ct.bel (g := g) (s := s) (p := p) (gl := gl) (v := v) (l := l) (by repeat (first | exact HC.out | refine token_Cut.Ct.drewN ?_ _))))).mono ?_); rintro e w3 ⟨rfl, hb⟩; have HCn := Aside0.mk (show token_Cut.Ct w0 w3 g s p gl v l from token_Cut.Ct.below (by repeat (first | exact HC.out | refine token_Cut.Ct.drewN ?_ _)) hb); have HXn := Aside0.mk (show w3.heap[w.heap.size]? = some (.cells #[.pointer (some ⟨g, 0, none⟩)] 35 (0, 0)) from blk_below (by repeat (first | exact HX.out | refine blk_drewN ?_ _)) hb); clear HC HX; have HC := HCn; have HX := HXn; clear HCn HXn hb; have x0w3 : w3.cell? ⟨g, 0, none⟩ = some (.string s) := (blk_cell HC.out.blk 0).trans rfl; have x2w3 : w3.cell? ⟨g, 2, none⟩ = some (.bool gl) := (blk_cell HC.out.blk 2).trans rfl; have xbw3 : w3.cell? ⟨w.heap.size, 0, none⟩ = some (.pointer (some ⟨g, 0, none⟩)) := (blk_cell HX.out 0).trans rfl) | (go_at_call 24; (with_reducible refine (char_Class.calls 8 R2 k2 _ HK2.out).mono ?_); rintro e w' ⟨rfl, ⟨n6, rfl⟩⟩) | (go_at_call 24; (with_reducible refine (char_Class.calls 8 R kk _ HK.out).mono ?_); rintro e w' ⟨rfl, ⟨n5, rfl⟩⟩) | (go_at_call 32; (with_reducible refine (token_Cut.while_eq HW.out (token_Cut.while_sign w0 _ g s p gl v l (by repeat (first | exact HC.out | refine token_Cut.Ct.drewN ?_ _)))).mono ?_); rintro e w4 ⟨rfl, hb⟩; have HCn := Aside0.mk (show token_Cut.Ct w0 w4 g s p gl v l from token_Cut.Ct.below (by repeat (first | exact HC.out | refine token_Cut.Ct.drewN ?_ _)) hb); have HXn := Aside0.mk (show w4.heap[w.heap.size]? = some (.cells #[.pointer (some ⟨g, 0, none⟩)] 35 (0, 0)) from blk_below (by repeat (first | exact HX.out | refine blk_drewN ?_ _)) hb); clear HC HX; have HC := HCn; have HX := HXn; clear HCn HXn hb; have x0w4 : w4.cell? ⟨g, 0, none⟩ = some (.string s) := (blk_cell HC.out.blk 0).trans rfl; have x2w4 : w4.cell? ⟨g, 2, none⟩ = some (.bool gl) := (blk_cell HC.out.blk 2).trans rfl; have xbw4 : w4.cell? ⟨w.heap.size, 0, none⟩ = some (.pointer (some ⟨g, 0, none⟩)) := (blk_cell HX.out 0).trans rfl) | (go_at_call 29; (with_reducible refine (token_Cut.ownI w0 _ g w.heap.size s p gl v l (by repeat (first | exact HC.out | refine token_Cut.Ct.drewN ?_ _)) (by repeat (first | exact HX.out | refine blk_drewN ?_ _)) h0 hs hl 8 m _ (by first | rfl | omega) HL.out).mono ?_); rintro e w7 ⟨rfl, h7⟩; have H7 := Aside0.mk h7; clear h7))
      go_ret
      rw [hn1]
      exact ⟨rfl, H7.out⟩
    have e4 : (k2 == 5) = false := by simp [d4]
    rw [if_neg (fun h => h.2.elim d2 (fun h => h.elim d3 d4))] at hn1
    clear d1 d2 d3 d4
    go_wp2_with (first | (go_at_call 31; (with_reducible refine (utf8_DecodeRuneInString.calls (s.extract m s.size) R2 M2 _ HD2.out (HT.out.below (token_Cut.Ct.bel (g := g) (s := s) (p := p) (gl := gl) (v := v) (l := l) (by repeat (first | exact HC.out | refine token_Cut.Ct.drewN ?_ _))))).mono ?_); rintro e w5 ⟨rfl, hb⟩; have HCn := Aside0.mk (show token_Cut.Ct w0 w5 g s p gl v l from token_Cut.Ct.below (by repeat (first | exact HC.out | refine token_Cut.Ct.drewN ?_ _)) hb); have HXn := Aside0.mk (show w5.heap[w.heap.size]? = some (.cells #[.pointer (some ⟨g, 0, none⟩)] 35 (0, 0)) from blk_below (by repeat (first | exact HX.out | refine blk_drewN ?_ _)) hb); clear HC HX; have HC := HCn; have HX := HXn; clear HCn HXn hb; have x0w5 : w5.cell? ⟨g, 0, none⟩ = some (.string s) := (blk_cell HC.out.blk 0).trans rfl; have x2w5 : w5.cell? ⟨g, 2, none⟩ = some (.bool gl) := (blk_cell HC.out.blk 2).trans rfl; have xbw5 : w5.cell? ⟨w.heap.size, 0, none⟩ = some (.pointer (some ⟨g, 0, none⟩)) := (blk_cell HX.out 0).trans rfl) | (go_at_call 31; (with_reducible refine (utf8_DecodeRuneInString.calls s R M _ HD.out (HT.out.below (token_Cut.Ct.bel (g := g) (s := s) (p := p) (gl := gl) (v := v) (l := l) (by repeat (first | exact HC.out | refine token_Cut.Ct.drewN ?_ _))))).mono ?_); rintro e w3 ⟨rfl, hb⟩; have HCn := Aside0.mk (show token_Cut.Ct w0 w3 g s p gl v l from token_Cut.Ct.below (by repeat (first | exact HC.out | refine token_Cut.Ct.drewN ?_ _)) hb); have HXn := Aside0.mk (show w3.heap[w.heap.size]? = some (.cells #[.pointer (some ⟨g, 0, none⟩)] 35 (0, 0)) from blk_below (by repeat (first | exact HX.out | refine blk_drewN ?_ _)) hb); clear HC HX; have HC := HCn; have HX := HXn; clear HCn HXn hb; have x0w3 : w3.cell? ⟨g, 0, none⟩ = some (.string s) := (blk_cell HC.out.blk 0).trans rfl; have x2w3 : w3.cell? ⟨g, 2, none⟩ = some (.bool gl) := (blk_cell HC.out.blk 2).trans rfl; have xbw3 : w3.cell? ⟨w.heap.size, 0, none⟩ = some (.pointer (some ⟨g, 0, none⟩)) := (blk_cell HX.out 0).trans rfl) | (go_at_call 24; (with_reducible refine (char_Class.calls 8 R2 k2 _ HK2.out).mono ?_); rintro e w' ⟨rfl, ⟨n6, rfl⟩⟩) | (go_at_call 24; (with_reducible refine (char_Class.calls 8 R kk _ HK.out).mono ?_); rintro e w' ⟨rfl, ⟨n5, rfl⟩⟩) | (go_at_call 32; (with_reducible refine (token_Cut.while_eq HW.out (token_Cut.while_sign w0 _ g s p gl v l (by repeat (first | exact HC.out | refine token_Cut.Ct.drewN ?_ _)))).mono ?_); rintro e w4 ⟨rfl, hb⟩; have HCn := Aside0.mk (show token_Cut.Ct w0 w4 g s p gl v l from token_Cut.Ct.below (by repeat (first | exact HC.out | refine token_Cut.Ct.drewN ?_ _)) hb); have HXn := Aside0.mk (show w4.heap[w.heap.size]? = some (.cells #[.pointer (some ⟨g, 0, none⟩)] 35 (0, 0)) from blk_below (by repeat (first | exact HX.out | refine blk_drewN ?_ _)) hb); clear HC HX; have HC := HCn; have HX := HXn; clear HCn HXn hb; have x0w4 : w4.cell? ⟨g, 0, none⟩ = some (.string s) := (blk_cell HC.out.blk 0).trans rfl; have x2w4 : w4.cell? ⟨g, 2, none⟩ = some (.bool gl) := (blk_cell HC.out.blk 2).trans rfl; have xbw4 : w4.cell? ⟨w.heap.size, 0, none⟩ = some (.pointer (some ⟨g, 0, none⟩)) := (blk_cell HX.out 0).trans rfl) | (go_at_call 29; (with_reducible refine (token_Cut.ownI w0 _ g w.heap.size s p gl v l (by repeat (first | exact HC.out | refine token_Cut.Ct.drewN ?_ _)) (by repeat (first | exact HX.out | refine blk_drewN ?_ _)) h0 hs hl 3 m _ (by first | rfl | omega) HL.out).mono ?_); rintro e w7 ⟨rfl, h7⟩; have H7 := Aside0.mk h7; clear h7))
    go_ret
    rw [hn1]
    exact ⟨rfl, H7.out⟩
  rw [if_neg c4] at hn1
  have q4 : (kk == 4) = false := by simp [c4]
  clear c4
  by_cases c6 : kk = 6
  · rw [if_pos c6] at hn1
    have q6 : (kk == 6) = true := by simp [c6]
    clear c6
    have HL := Aside0.mk (show 1 ≤ s.size by omega)
    by_cases d1 : R = 33
    case pos =>
      have e1 : (R == 33) = true := by simp [d1]
      rw [if_pos (.inl d1)] at hn1
      clear d1
      go_wp2_with (first | (go_at_call 31; (with_reducible refine (utf8_DecodeRuneInString.calls s R M _ HD.out (HT.out.below (token_Cut.Ct.bel (g := g) (s := s) (p := p) (gl := gl) (v := v) (l := l) (by repeat (first | exact HC.out | refine token_Cut.Ct.drewN ?_ _))))).mono ?_); rintro e w3 ⟨rfl, hb⟩; have HCn := Aside0.mk (show token_Cut.Ct w0 w3 g s p gl v l from token_Cut.Ct.below (by repeat (first | exact HC.out | refine token_Cut.Ct.drewN ?_ _)) hb); have HXn := Aside0.mk (show w3.heap[w.heap.size]? = some (.cells #[.pointer (some ⟨g, 0, none⟩)] 35 (0, 0)) from blk_below (by repeat (first | exact HX.out | refine blk_drewN ?_ _)) hb); clear HC HX; have HC := HCn; have HX := HXn; clear HCn HXn hb; have x0w3 : w3.cell? ⟨g, 0, none⟩ = some (.string s) := (blk_cell HC.out.blk 0).trans rfl; have x2w3 : w3.cell? ⟨g, 2, none⟩ = some (.bool gl) := (blk_cell HC.out.blk 2).trans rfl; have xbw3 : w3.cell? ⟨w.heap.size, 0, none⟩ = some (.pointer (some ⟨g, 0, none⟩)) := (blk_cell HX.out 0).trans rfl) | (go_at_call 24; (with_reducible refine (char_Class.calls 8 R kk _ HK.out).mono ?_); rintro e w' ⟨rfl, ⟨n5, rfl⟩⟩) | (go_at_call 29; (with_reducible refine (token_Cut.ownI w0 _ g w.heap.size s p gl v l (by repeat (first | exact HC.out | refine token_Cut.Ct.drewN ?_ _)) (by repeat (first | exact HX.out | refine blk_drewN ?_ _)) h0 hs hl 1 1 _ (by first | rfl | omega) HL.out).mono ?_); rintro e w7 ⟨rfl, h7⟩; have H7 := Aside0.mk h7; clear h7))
      go_ret
      rw [hn1]
      exact ⟨rfl, H7.out⟩
    have e1 : (R == 33) = false := by simp [d1]
    by_cases d2 : R = 59
    case pos =>
      have e2 : (R == 59) = true := by simp [d2]
      rw [if_pos (.inr d2)] at hn1
      clear d1 d2
      go_wp2_with (first | (go_at_call 31; (with_reducible refine (utf8_DecodeRuneInString.calls s R M _ HD.out (HT.out.below (token_Cut.Ct.bel (g := g) (s := s) (p := p) (gl := gl) (v := v) (l := l) (by repeat (first | exact HC.out | refine token_Cut.Ct.drewN ?_ _))))).mono ?_); rintro e w3 ⟨rfl, hb⟩; have HCn := Aside0.mk (show token_Cut.Ct w0 w3 g s p gl v l from token_Cut.Ct.below (by repeat (first | exact HC.out | refine token_Cut.Ct.drewN ?_ _)) hb); have HXn := Aside0.mk (show w3.heap[w.heap.size]? = some (.cells #[.pointer (some ⟨g, 0, none⟩)] 35 (0, 0)) from blk_below (by repeat (first | exact HX.out | refine blk_drewN ?_ _)) hb); clear HC HX; have HC := HCn; have HX := HXn; clear HCn HXn hb; have x0w3 : w3.cell? ⟨g, 0, none⟩ = some (.string s) := (blk_cell HC.out.blk 0).trans rfl; have x2w3 : w3.cell? ⟨g, 2, none⟩ = some (.bool gl) := (blk_cell HC.out.blk 2).trans rfl; have xbw3 : w3.cell? ⟨w.heap.size, 0, none⟩ = some (.pointer (some ⟨g, 0, none⟩)) := (blk_cell HX.out 0).trans rfl) | (go_at_call 24; (with_reducible refine (char_Class.calls 8 R kk _ HK.out).mono ?_); rintro e w' ⟨rfl, ⟨n5, rfl⟩⟩) | (go_at_call 29; (with_reducible refine (token_Cut.ownI w0 _ g w.heap.size s p gl v l (by repeat (first | exact HC.out | refine token_Cut.Ct.drewN ?_ _)) (by repeat (first | exact HX.out | refine blk_drewN ?_ _)) h0 hs hl 1 1 _ (by first | rfl | omega) HL.out).mono ?_); rintro e w7 ⟨rfl, h7⟩; have H7 := Aside0.mk h7; clear h7))
      go_ret
      rw [hn1]
      exact ⟨rfl, H7.out⟩
    have e2 : (R == 59) = false := by simp [d2]
    rw [if_neg (fun h => h.elim d1 d2)] at hn1
    clear d1 d2
    go_wp2_with (first | (go_at_call 31; (with_reducible refine (utf8_DecodeRuneInString.calls s R M _ HD.out (HT.out.below (token_Cut.Ct.bel (g := g) (s := s) (p := p) (gl := gl) (v := v) (l := l) (by repeat (first | exact HC.out | refine token_Cut.Ct.drewN ?_ _))))).mono ?_); rintro e w3 ⟨rfl, hb⟩; have HCn := Aside0.mk (show token_Cut.Ct w0 w3 g s p gl v l from token_Cut.Ct.below (by repeat (first | exact HC.out | refine token_Cut.Ct.drewN ?_ _)) hb); have HXn := Aside0.mk (show w3.heap[w.heap.size]? = some (.cells #[.pointer (some ⟨g, 0, none⟩)] 35 (0, 0)) from blk_below (by repeat (first | exact HX.out | refine blk_drewN ?_ _)) hb); clear HC HX; have HC := HCn; have HX := HXn; clear HCn HXn hb; have x0w3 : w3.cell? ⟨g, 0, none⟩ = some (.string s) := (blk_cell HC.out.blk 0).trans rfl; have x2w3 : w3.cell? ⟨g, 2, none⟩ = some (.bool gl) := (blk_cell HC.out.blk 2).trans rfl; have xbw3 : w3.cell? ⟨w.heap.size, 0, none⟩ = some (.pointer (some ⟨g, 0, none⟩)) := (blk_cell HX.out 0).trans rfl) | (go_at_call 24; (with_reducible refine (char_Class.calls 8 R kk _ HK.out).mono ?_); rintro e w' ⟨rfl, ⟨n5, rfl⟩⟩) | (go_at_call 29; (with_reducible refine (token_Cut.ownI w0 _ g w.heap.size s p gl v l (by repeat (first | exact HC.out | refine token_Cut.Ct.drewN ?_ _)) (by repeat (first | exact HX.out | refine blk_drewN ?_ _)) h0 hs hl 6 1 _ (by first | rfl | omega) HL.out).mono ?_); rintro e w7 ⟨rfl, h7⟩; have H7 := Aside0.mk h7; clear h7))
    go_ret
    rw [hn1]
    exact ⟨rfl, H7.out⟩
  rw [if_neg c6] at hn1
  have q6 : (kk == 6) = false := by simp [c6]
  clear c6
  by_cases c7 : kk = 7
  · rw [if_pos c7] at hn1
    have q7 : (kk == 7) = true := by simp [c7]
    clear c7
    have HL := Aside0.mk (show 1 ≤ s.size by omega)
    by_cases d1 : R = 40
    case neg =>
      have e1 : (R == 40) = false := by simp [d1]
      rw [if_neg (fun h => d1 h.1)] at hn1
      clear d1
      go_wp2_with (first | (go_at_call 31; (with_reducible refine (utf8_DecodeRuneInString.calls s R M _ HD.out (HT.out.below (token_Cut.Ct.bel (g := g) (s := s) (p := p) (gl := gl) (v := v) (l := l) (by repeat (first | exact HC.out | refine token_Cut.Ct.drewN ?_ _))))).mono ?_); rintro e w3 ⟨rfl, hb⟩; have HCn := Aside0.mk (show token_Cut.Ct w0 w3 g s p gl v l from token_Cut.Ct.below (by repeat (first | exact HC.out | refine token_Cut.Ct.drewN ?_ _)) hb); have HXn := Aside0.mk (show w3.heap[w.heap.size]? = some (.cells #[.pointer (some ⟨g, 0, none⟩)] 35 (0, 0)) from blk_below (by repeat (first | exact HX.out | refine blk_drewN ?_ _)) hb); clear HC HX; have HC := HCn; have HX := HXn; clear HCn HXn hb; have x0w3 : w3.cell? ⟨g, 0, none⟩ = some (.string s) := (blk_cell HC.out.blk 0).trans rfl; have x2w3 : w3.cell? ⟨g, 2, none⟩ = some (.bool gl) := (blk_cell HC.out.blk 2).trans rfl; have xbw3 : w3.cell? ⟨w.heap.size, 0, none⟩ = some (.pointer (some ⟨g, 0, none⟩)) := (blk_cell HX.out 0).trans rfl) | (go_at_call 24; (with_reducible refine (char_Class.calls 8 R kk _ HK.out).mono ?_); rintro e w' ⟨rfl, ⟨n5, rfl⟩⟩) | (go_at_call 29; (with_reducible refine (token_Cut.ownI w0 _ g w.heap.size s p gl v l (by repeat (first | exact HC.out | refine token_Cut.Ct.drewN ?_ _)) (by repeat (first | exact HX.out | refine blk_drewN ?_ _)) h0 hs hl 6 1 _ (by first | rfl | omega) HL.out).mono ?_); rintro e w7 ⟨rfl, h7⟩; have H7 := Aside0.mk h7; clear h7))
      go_ret
      rw [hn1]
      exact ⟨rfl, H7.out⟩
    have e1 : (R == 40) = true := by simp [d1]
    cases gl with
    | true =>
      rw [if_pos ⟨d1, rfl⟩] at hn1
      clear d1
      go_wp2_with (first | (go_at_call 31; (with_reducible refine (utf8_DecodeRuneInString.calls s R M _ HD.out (HT.out.below (token_Cut.Ct.bel (g := g) (s := s) (p := p) (gl := true) (v := v) (l := l) (by repeat (first | exact HC.out | refine token_Cut.Ct.drewN ?_ _))))).mono ?_); rintro e w3 ⟨rfl, hb⟩; have HCn := Aside0.mk (show token_Cut.Ct w0 w3 g s p true v l from token_Cut.Ct.below (by repeat (first | exact HC.out | refine token_Cut.Ct.drewN ?_ _)) hb); have HXn := Aside0.mk (show w3.heap[w.heap.size]? = some (.cells #[.pointer (some ⟨g, 0, none⟩)] 35 (0, 0)) from blk_below (by repeat (first | exact HX.out | refine blk_drewN ?_ _)) hb); clear HC HX; have HC := HCn; have HX := HXn; clear HCn HXn hb; have x0w3 : w3.cell? ⟨g, 0, none⟩ = some (.string s) := (blk_cell HC.out.blk 0).trans rfl; have x2w3 : w3.cell? ⟨g, 2, none⟩ = some (.bool true) := (blk_cell HC.out.blk 2).trans rfl; have xbw3 : w3.cell? ⟨w.heap.size, 0, none⟩ = some (.pointer (some ⟨g, 0, none⟩)) := (blk_cell HX.out 0).trans rfl) | (go_at_call 24; (with_reducible refine (char_Class.calls 8 R kk _ HK.out).mono ?_); rintro e w' ⟨rfl, ⟨n5, rfl⟩⟩) | (go_at_call 29; (with_reducible refine (token_Cut.ownI w0 _ g w.heap.size s p true v l (by repeat (first | exact HC.out | refine token_Cut.Ct.drewN ?_ _)) (by repeat (first | exact HX.out | refine blk_drewN ?_ _)) h0 hs hl 7 1 _ (by first | rfl | omega) HL.out).mono ?_); rintro e w7 ⟨rfl, h7⟩; have H7 := Aside0.mk h7; clear h7))
      go_ret
      rw [hn1]
      exact ⟨rfl, H7.out⟩
    | false =>
      rw [if_neg (fun h => absurd h.2 (by decide))] at hn1
      clear d1
      go_wp2_with (first | (go_at_call 31; (with_reducible refine (utf8_DecodeRuneInString.calls s R M _ HD.out (HT.out.below (token_Cut.Ct.bel (g := g) (s := s) (p := p) (gl := false) (v := v) (l := l) (by repeat (first | exact HC.out | refine token_Cut.Ct.drewN ?_ _))))).mono ?_); rintro e w3 ⟨rfl, hb⟩; have HCn := Aside0.mk (show token_Cut.Ct w0 w3 g s p false v l from token_Cut.Ct.below (by repeat (first | exact HC.out | refine token_Cut.Ct.drewN ?_ _)) hb); have HXn := Aside0.mk (show w3.heap[w.heap.size]? = some (.cells #[.pointer (some ⟨g, 0, none⟩)] 35 (0, 0)) from blk_below (by repeat (first | exact HX.out | refine blk_drewN ?_ _)) hb); clear HC HX; have HC := HCn; have HX := HXn; clear HCn HXn hb; have x0w3 : w3.cell? ⟨g, 0, none⟩ = some (.string s) := (blk_cell HC.out.blk 0).trans rfl; have x2w3 : w3.cell? ⟨g, 2, none⟩ = some (.bool false) := (blk_cell HC.out.blk 2).trans rfl; have xbw3 : w3.cell? ⟨w.heap.size, 0, none⟩ = some (.pointer (some ⟨g, 0, none⟩)) := (blk_cell HX.out 0).trans rfl) | (go_at_call 24; (with_reducible refine (char_Class.calls 8 R kk _ HK.out).mono ?_); rintro e w' ⟨rfl, ⟨n5, rfl⟩⟩) | (go_at_call 29; (with_reducible refine (token_Cut.ownI w0 _ g w.heap.size s p false v l (by repeat (first | exact HC.out | refine token_Cut.Ct.drewN ?_ _)) (by repeat (first | exact HX.out | refine blk_drewN ?_ _)) h0 hs hl 6 1 _ (by first | rfl | omega) HL.out).mono ?_); rintro e w7 ⟨rfl, h7⟩; have H7 := Aside0.mk h7; clear h7))
      go_ret
      rw [hn1]
      exact ⟨rfl, H7.out⟩
  rw [if_neg c7] at hn1
  have q7 : (kk == 7) = false := by simp [c7]
  clear c7
  by_cases c8 : kk = 8
  · rw [if_pos c8] at hn1
    have q8 : (kk == 8) = true := by simp [c8]
    clear c8
    obtain ⟨tx, rn, re, hr⟩ := token_Cut.rd_some s (by omega)
    rw [hr] at hn1
    dsimp only at hn1
    have HR := Aside0.mk hr
    by_cases d1 : re = 0
    case neg =>
      have e1 : (re == 0) = false := beq_eq_false_iff_ne.mpr d1
      rw [if_neg (fun h => d1 h.1)] at hn1
      clear hr d1
      go_wp2_with (first | (go_at_call 31; (with_reducible refine (utf8_DecodeRuneInString.calls s R M _ HD.out (HT.out.below (token_Cut.Ct.bel (g := g) (s := s) (p := p) (gl := gl) (v := v) (l := l) (by repeat (first | exact HC.out | refine token_Cut.Ct.drewN ?_ _))))).mono ?_); rintro e w3 ⟨rfl, hb⟩; have HCn := Aside0.mk (show token_Cut.Ct w0 w3 g s p gl v l from token_Cut.Ct.below (by repeat (first | exact HC.out | refine token_Cut.Ct.drewN ?_ _)) hb); have HXn := Aside0.mk (show w3.heap[w.heap.size]? = some (.cells #[.pointer (some ⟨g, 0, none⟩)] 35 (0, 0)) from blk_below (by repeat (first | exact HX.out | refine blk_drewN ?_ _)) hb); clear HC HX; have HC := HCn; have HX := HXn; clear HCn HXn hb; have x0w3 : w3.cell? ⟨g, 0, none⟩ = some (.string s) := (blk_cell HC.out.blk 0).trans rfl; have x2w3 : w3.cell? ⟨g, 2, none⟩ = some (.bool gl) := (blk_cell HC.out.blk 2).trans rfl; have xbw3 : w3.cell? ⟨w.heap.size, 0, none⟩ = some (.pointer (some ⟨g, 0, none⟩)) := (blk_cell HX.out 0).trans rfl) | (go_at_call 24; (with_reducible refine (char_Class.calls 8 R kk _ HK.out).mono ?_); rintro e w' ⟨rfl, ⟨n5, rfl⟩⟩) | (go_at_call 36; (with_reducible refine (char_Read.calls s tx rn re _ HR.out (HT.out.below (token_Cut.Ct.bel (g := g) (s := s) (p := p) (gl := gl) (v := v) (l := l) (by repeat (first | exact HC.out | refine token_Cut.Ct.drewN ?_ _))))).mono ?_); rintro e w4 ⟨rfl, hb⟩; have HCn := Aside0.mk (show token_Cut.Ct w0 w4 g s p gl v l from token_Cut.Ct.below (by repeat (first | exact HC.out | refine token_Cut.Ct.drewN ?_ _)) hb); have HXn := Aside0.mk (show w4.heap[w.heap.size]? = some (.cells #[.pointer (some ⟨g, 0, none⟩)] 35 (0, 0)) from blk_below (by repeat (first | exact HX.out | refine blk_drewN ?_ _)) hb); clear HC HX; have HC := HCn; have HX := HXn; clear HCn HXn hb; have x0w4 : w4.cell? ⟨g, 0, none⟩ = some (.string s) := (blk_cell HC.out.blk 0).trans rfl; have x2w4 : w4.cell? ⟨g, 2, none⟩ = some (.bool gl) := (blk_cell HC.out.blk 2).trans rfl; have xbw4 : w4.cell? ⟨w.heap.size, 0, none⟩ = some (.pointer (some ⟨g, 0, none⟩)) := (blk_cell HX.out 0).trans rfl))
      go_ret
      rw [hn1]
      exact ⟨rfl, (by repeat (first | exact HC.out | refine token_Cut.Ct.drewN ?_ _))⟩
    subst d1
    obtain ⟨hr1, hr2⟩ := token_Cut.rd_range s hr
    by_cases d2 : tx.size ≤ 255
    case neg =>
      have e2 : decide ((tx.size : Int) ≤ 255) = false := decide_eq_false (by omega)
      rw [if_neg (fun h => d2 h.2)] at hn1
      clear hr d2
      go_wp2_with (first | (go_at_call 31; (with_reducible refine (utf8_DecodeRuneInString.calls s R M _ HD.out (HT.out.below (token_Cut.Ct.bel (g := g) (s := s) (p := p) (gl := gl) (v := v) (l := l) (by repeat (first | exact HC.out | refine token_Cut.Ct.drewN ?_ _))))).mono ?_); rintro e w3 ⟨rfl, hb⟩; have HCn := Aside0.mk (show token_Cut.Ct w0 w3 g s p gl v l from token_Cut.Ct.below (by repeat (first | exact HC.out | refine token_Cut.Ct.drewN ?_ _)) hb); have HXn := Aside0.mk (show w3.heap[w.heap.size]? = some (.cells #[.pointer (some ⟨g, 0, none⟩)] 35 (0, 0)) from blk_below (by repeat (first | exact HX.out | refine blk_drewN ?_ _)) hb); clear HC HX; have HC := HCn; have HX := HXn; clear HCn HXn hb; have x0w3 : w3.cell? ⟨g, 0, none⟩ = some (.string s) := (blk_cell HC.out.blk 0).trans rfl; have x2w3 : w3.cell? ⟨g, 2, none⟩ = some (.bool gl) := (blk_cell HC.out.blk 2).trans rfl; have xbw3 : w3.cell? ⟨w.heap.size, 0, none⟩ = some (.pointer (some ⟨g, 0, none⟩)) := (blk_cell HX.out 0).trans rfl) | (go_at_call 24; (with_reducible refine (char_Class.calls 8 R kk _ HK.out).mono ?_); rintro e w' ⟨rfl, ⟨n5, rfl⟩⟩) | (go_at_call 36; (with_reducible refine (char_Read.calls s tx _ 0 _ HR.out (HT.out.below (token_Cut.Ct.bel (g := g) (s := s) (p := p) (gl := gl) (v := v) (l := l) (by repeat (first | exact HC.out | refine token_Cut.Ct.drewN ?_ _))))).mono ?_); rintro e w4 ⟨rfl, hb⟩; have HCn := Aside0.mk (show token_Cut.Ct w0 w4 g s p gl v l from token_Cut.Ct.below (by repeat (first | exact HC.out | refine token_Cut.Ct.drewN ?_ _)) hb); have HXn := Aside0.mk (show w4.heap[w.heap.size]? = some (.cells #[.pointer (some ⟨g, 0, none⟩)] 35 (0, 0)) from blk_below (by repeat (first | exact HX.out | refine blk_drewN ?_ _)) hb); clear HC HX; have HC := HCn; have HX := HXn; clear HCn HXn hb; have x0w4 : w4.cell? ⟨g, 0, none⟩ = some (.string s) := (blk_cell HC.out.blk 0).trans rfl; have x2w4 : w4.cell? ⟨g, 2, none⟩ = some (.bool gl) := (blk_cell HC.out.blk 2).trans rfl; have xbw4 : w4.cell? ⟨w.heap.size, 0, none⟩ = some (.pointer (some ⟨g, 0, none⟩)) := (blk_cell HX.out 0).trans rfl))
      go_ret
      rw [hn1]
      exact ⟨rfl, (by repeat (first | exact HC.out | refine token_Cut.Ct.drewN ?_ _))⟩
    have e2 : decide ((tx.size : Int) ≤ 255) = true := decide_eq_true (by omega)
    rw [if_pos ⟨rfl, d2⟩] at hn1
    obtain ⟨n, rfl⟩ : ∃ n : Nat, rn = n := ⟨rn.toNat, by omega⟩
    rw [Int.toNat_natCast] at hn1
    have HL := Aside0.mk (show n ≤ s.size by omega)
    clear hr d2
    go_wp2_with (first | (go_at_call 31; (with_reducible refine (utf8_DecodeRuneInString.calls s R M _ HD.out (HT.out.below (token_Cut.Ct.bel (g := g) (s := s) (p := p) (gl := gl) (v := v) (l := l) (by repeat (first | exact HC.out | refine token_Cut.Ct.drewN ?_ _))))).mono ?_); rintro e w3 ⟨rfl, hb⟩; have HCn := Aside0.mk (show token_Cut.Ct w0 w3 g s p gl v l from token_Cut.Ct.below (by repeat (first | exact HC.out | refine token_Cut.Ct.drewN ?_ _)) hb); have HXn := Aside0.mk (show w3.heap[w.heap.size]? = some (.cells #[.pointer (some ⟨g, 0, none⟩)] 35 (0, 0)) from blk_below (by repeat (first | exact HX.out | refine blk_drewN ?_ _)) hb); clear HC HX; have HC := HCn; have HX := HXn; clear HCn HXn hb; have x0w3 : w3.cell? ⟨g, 0, none⟩ = some (.string s) := (blk_cell HC.out.blk 0).trans rfl; have x2w3 : w3.cell? ⟨g, 2, none⟩ = some (.bool gl) := (blk_cell HC.out.blk 2).trans rfl; have xbw3 : w3.cell? ⟨w.heap.size, 0, none⟩ = some (.pointer (some ⟨g, 0, none⟩)) := (blk_cell HX.out 0).trans rfl) | (go_at_call 24; (with_reducible refine (char_Class.calls 8 R kk _ HK.out).mono ?_); rintro e w' ⟨rfl, ⟨n5, rfl⟩⟩) | (go_at_call 36; (with_reducible refine (char_Read.calls s tx _ 0 _ HR.out (HT.out.below (token_Cut.Ct.bel (g := g) (s := s) (p := p) (gl := gl) (v := v) (l := l) (by repeat (first | exact HC.out | refine token_Cut.Ct.drewN ?_ _))))).mono ?_); rintro e w4 ⟨rfl, hb⟩; have HCn := Aside0.mk (show token_Cut.Ct w0 w4 g s p gl v l from token_Cut.Ct.below (by repeat (first | exact HC.out | refine token_Cut.Ct.drewN ?_ _)) hb); have HXn := Aside0.mk (show w4.heap[w.heap.size]? = some (.cells #[.pointer (some ⟨g, 0, none⟩)] 35 (0, 0)) from blk_below (by repeat (first | exact HX.out | refine blk_drewN ?_ _)) hb); clear HC HX; have HC := HCn; have HX := HXn; clear HCn HXn hb; have x0w4 : w4.cell? ⟨g, 0, none⟩ = some (.string s) := (blk_cell HC.out.blk 0).trans rfl; have x2w4 : w4.cell? ⟨g, 2, none⟩ = some (.bool gl) := (blk_cell HC.out.blk 2).trans rfl; have xbw4 : w4.cell? ⟨w.heap.size, 0, none⟩ = some (.pointer (some ⟨g, 0, none⟩)) := (blk_cell HX.out 0).trans rfl) | (go_at_call 30; (with_reducible refine (token_Cut.layI w0 _ g s p gl v l 2 tx 0 0 n _ (by first | rfl | omega) (by repeat (first | exact HC.out | refine token_Cut.Ct.drewN ?_ _)) HL.out h0 HS.out hl).mono ?_); rintro e w6 ⟨rfl, v6, h6⟩; have H6 := Aside0.mk h6; clear h6))
    go_ret
    rw [hn1]
    exact ⟨rfl, HL.out, v6, H6.out⟩
  rw [if_neg c8] at hn1
  have q8 : (kk == 8) = false := by simp [c8]
  clear c8
  go_wp2_with (first | (go_at_call 31; (with_reducible refine (utf8_DecodeRuneInString.calls s R M _ HD.out (HT.out.below (token_Cut.Ct.bel (g := g) (s := s) (p := p) (gl := gl) (v := v) (l := l) (by repeat (first | exact HC.out | refine token_Cut.Ct.drewN ?_ _))))).mono ?_); rintro e w3 ⟨rfl, hb⟩; have HCn := Aside0.mk (show token_Cut.Ct w0 w3 g s p gl v l from token_Cut.Ct.below (by repeat (first | exact HC.out | refine token_Cut.Ct.drewN ?_ _)) hb); have HXn := Aside0.mk (show w3.heap[w.heap.size]? = some (.cells #[.pointer (some ⟨g, 0, none⟩)] 35 (0, 0)) from blk_below (by repeat (first | exact HX.out | refine blk_drewN ?_ _)) hb); clear HC HX; have HC := HCn; have HX := HXn; clear HCn HXn hb; have x0w3 : w3.cell? ⟨g, 0, none⟩ = some (.string s) := (blk_cell HC.out.blk 0).trans rfl; have x2w3 : w3.cell? ⟨g, 2, none⟩ = some (.bool gl) := (blk_cell HC.out.blk 2).trans rfl; have xbw3 : w3.cell? ⟨w.heap.size, 0, none⟩ = some (.pointer (some ⟨g, 0, none⟩)) := (blk_cell HX.out 0).trans rfl) | (go_at_call 24; (with_reducible refine (char_Class.calls 8 R kk _ HK.out).mono ?_); rintro e w' ⟨rfl, ⟨n5, rfl⟩⟩))
  go_ret
  rw [hn1]
  exact ⟨rfl, (by repeat (first | exact HC.out | refine token_Cut.Ct.drewN ?_ _))⟩
theorem token_Cut.whL_ge (q : Int → Bool) (n a : Nat) (hn : a ≤ n) : ∀ l : List (Nat × Nat), (∀ x ∈ l, a ≤ x.1) → a ≤ token_Cut.whL q n l
  | [], _ => hn
  | x :: l, h => by
    unfold token_Cut.whL
    split
    · exact token_Cut.whL_ge q n a hn l (fun y hy => h y (List.mem_cons_of_mem _ hy))
    · exact h x (List.mem_cons_self ..)
theorem token_Cut.runes_ge (s : ByteArray) : ∀ f pos, ∀ x ∈ runesAt s f pos, pos ≤ x.1
  | 0, pos => by intro x hx; simp [runesAt] at hx
  | f + 1, pos => by
    intro x hx
    unfold runesAt at hx
    split at hx
    · rename_i h
      rcases List.mem_cons.1 hx with rfl | hx
      · exact Nat.le_refl _
      · have := token_Cut.runes_ge s f _ x hx
        omega
    · simp at hx
theorem token_Cut.wh_pos (q : Int → Bool) (s : ByteArray) (hz : s.size ≠ 0) (hq : q (classN ((Lib.decodeGo s).1 : Int)) = true) : 1 ≤ token_Cut.wh q s := by
  have hp : 0 < s.size := by omega
  obtain ⟨f, -, -, hst⟩ := runesAt_step (s := s) (f := s.size) hp (by omega)
  unfold token_Cut.wh runesOf
  rw [hst]
  unfold token_Cut.whL
  have hd : Lib.decodeGo s = Utf8.decode s 0 := by unfold Lib.decodeGo; rw [if_neg hz]
  rw [hd] at hq
  rw [if_pos hq]
  have hw := Lib.decode_width_pos s 0 hp
  exact token_Cut.whL_ge q s.size 1 hp _ (fun x hx => by have := token_Cut.runes_ge s _ _ x hx; omega)
theorem token_Cut.own_pos {s : ByteArray} {kd : Int} {n : Nat} {a : Int} {b : ByteArray} {c : Int} {d : Nat} (hn : 1 ≤ n) (h : token_Cut.ownT s kd n = some (a, b, c, d)) : 1 ≤ d := by
  unfold token_Cut.ownT at h
  split at h
  · cases h
  · simp only [Option.some.injEq, Prod.mk.injEq] at h
    omega
theorem token_Cut.num_pos {s : ByteArray} (hz : s.size ≠ 0) (hk : classN ((Lib.decodeGo s).1 : Int) = 3) {a : Int} {b : ByteArray} {c : Int} {d : Nat} (h : token_Cut.num s = some (a, b, c, d)) : 1 ≤ d := by
  have hB : ∀ {a : Int} {b : ByteArray} {c : Int} {d : Nat}, token_Cut.numB s = some (a, b, c, d) → 1 ≤ d := by
    intro a b c d h
    unfold token_Cut.numB at h
    split at h
    · split at h
      · simp only [Option.some.injEq, Prod.mk.injEq] at h
        have := token_Cut.wh_pos token_Cut.qdigit s hz (by rw [hk]; rfl)
        omega
      · cases h
    · cases h
  unfold token_Cut.num at h
  split at h
  · split at h
    · rename_i hA
      simp only [Option.some.injEq, Prod.mk.injEq] at h
      unfold token_Cut.numA at hA
      split at hA
      · simp only [Option.some.injEq, Prod.mk.injEq] at hA; omega
      · split at hA
        · simp only [Option.some.injEq, Prod.mk.injEq] at hA; omega
        · cases hA
    · exact hB h
  · exact hB h
theorem token_Cut.tok_pos {s : ByteArray} {gl : Bool} (hz : s.size ≠ 0) {a : Int} {b : ByteArray} {c : Int} {d : Nat} (h : token_Cut.tok s gl = some (a, b, c, d)) : 1 ≤ d := by
  unfold token_Cut.tok at h
  split at h
  · rename_i c1; exact token_Cut.own_pos (token_Cut.wh_pos token_Cut.qword s hz (by rw [c1]; rfl)) h
  · split at h
    · rename_i c1; exact token_Cut.own_pos (token_Cut.wh_pos token_Cut.qword s hz (by rw [c1]; rfl)) h
    · split at h
      · rename_i c1; exact token_Cut.num_pos hz c1 h
      · split at h
        · rename_i c1
          have hw := token_Cut.wh_pos token_Cut.qsign s hz (by rw [c1]; rfl)
          split at h
          · exact token_Cut.own_pos hw h
          · exact token_Cut.own_pos hw h
        · split at h
          · split at h <;> exact token_Cut.own_pos (Nat.le_refl _) h
          · split at h
            · split at h <;> exact token_Cut.own_pos (Nat.le_refl _) h
            · split at h
              · split at h
                · rename_i t n e hr
                  split at h
                  · rename_i c2
                    obtain ⟨rfl, -⟩ := c2
                    have := token_Cut.rd_range s hr
                    simp only [Option.some.injEq, Prod.mk.injEq] at h
                    omega
                  · cases h
                · cases h
              · cases h
theorem token_Cut.bl_le : ∀ (k : Nat) (s : ByteArray) (p : Int) (gl : Bool), (token_Cut.bl k s p gl).2.1.size ≤ s.size
  | 0, s, p, gl => Nat.le_refl _
  | k + 1, s, p, gl => by
    unfold token_Cut.bl
    split
    · exact Nat.le_refl _
    · split
      · exact Nat.le_refl _
      · exact Nat.le_refl _
      · rename_i n _
        have := token_Cut.bl_le k (s.extract n s.size) (p + n) false
        rw [ByteArray.size_extract] at this
        omega
theorem token_Cut.next_eq {w0 w : World} {g : Nat} {s : ByteArray} {p : Int} {gl : Bool} {v : Value} {l : List S30} {f : Nat} {args : Array Value} {x y : Option (Int × ByteArray × Int × Nat)} (h : x = y) (hc : Calls Tryd.prog f args w fun e w' => e = .returned (.bool x.isSome) ∧ token_Cut.Post w0 w' g s p gl v l x) :
    Calls Tryd.prog f args w fun e w' => e = .returned (.bool y.isSome) ∧ token_Cut.Post w0 w' g s p gl v l y := by
  subst h
  exact hc
/-- the cut of what is left: the tokens, the place, the error -/
def token_Cut.cutF : Nat → ByteArray → Int → Bool → List S30 → List S30 × Int × Int
  | 0, _, _, _, _ => ([], 0, 0)
  | k + 1, s, p, gl, l => match token_Cut.bl s.size s p gl with
    | (false, _, p2, _) => ([], p2, 50)
    | (true, s2, p2, gl2) => if s2.size = 0 then (l ++ [(⟨9, ⟨#[]⟩, 0, p2⟩ : S30)], 0, 0) else match token_Cut.tok s2 gl2 with
      | none => ([], p2, 50)
      | some (kd, tx, N, n) => token_Cut.cutF k (s2.extract n s2.size) (p2 + n) (token_Cut.glue kd tx) (l ++ [(⟨kd, tx, N, p2⟩ : S30)])
def token_Cut.f (a0 : ByteArray) : Option (List S30 × Int × Int) := if 4096 < a0.size then some ([], 0, 2) else some (token_Cut.cutF (a0.size + 1) a0 0 false [])
set_option maxRecDepth 100000 in
set_option maxHeartbeats 8000000 in
theorem token_Cut.walk (a0 : ByteArray) (r1 : List S30) (r2 r3 : Int) (w : World) (hT : Tabs w) (hz : a0.size ≤ 4096) (h : token_Cut.cutF (a0.size + 1) a0 0 false [] = (r1, r2, r3)) :
    Calls Tryd.prog 10 #[.string a0] w fun e w' => ∃ v0_ : Value, e = .returned (.tuple #[v0_, .int .i64 r2, .int .i64 r3]) ∧ Kd.R k30 30 w' w.heap.size (fun _ => True) v0_ r1 ∧ Below w.heap.size w w' := by
  have HT := Aside0.mk hT
  have HF := Aside0.mk h
  have hz1 : decide ((4096 : Int) < (a0.size : Int)) = false := decide_eq_false (by omega)
  have HC0 : Aside0 (token_Cut.Ct w (w.alloc (.cells #[.string a0, .int .i64 0, .bool false, .slice none 0 0] 37)) w.heap.size a0 0 false (.slice none 0 0) []) := Aside0.mk ⟨blk_new w _, Kd.R_nil _ _ _ _ _, Nat.le_refl _, below_alloc (Below.refl _ _) _⟩
  clear hT h
  go_enter Tryd.func10, Tryd.ntmps10
  go_wp2
  go_loopw [] (fun wr => ∃ (s : ByteArray) (p : Int) (gl : Bool) (v : Value) (l : List S30) (k : Nat), Aside0 (token_Cut.Ct w wr w.heap.size s p gl v l ∧ s.size + 1 ≤ k ∧ token_Cut.cutF k s p gl l = (r1, r2, r3) ∧ 0 ≤ p ∧ p + s.size ≤ 4096 ∧ l.length ≤ p.toNat)) (fun wr => token_Cut.left w.heap.size wr)
  case atStart => exact ⟨a0, 0, false, _, [], a0.size + 1, ⟨HC0.out, Nat.le_refl _, HF.out, by omega, by omega, Nat.zero_le _⟩⟩
  case round =>
    obtain ⟨s, p, gl, v, l, k, HA⟩ := hrel
    have HC := Aside0.mk HA.out.1
    have hk := HA.out.2.1
    have hF := HA.out.2.2.1
    have h0 := HA.out.2.2.2.1
    have hs4 := HA.out.2.2.2.2.1
    have hs : p + s.size ≤ 5000 := by omega
    have hl := HA.out.2.2.2.2.2
    clear HA HC0 HF
    obtain ⟨k, rfl⟩ : ∃ j, k = j + 1 := ⟨k - 1, by omega⟩
    unfold token_Cut.cutF at hF
    obtain ⟨ok, s2, p2, gl2, hb⟩ : ∃ ok s2 p2 gl2, token_Cut.bl s.size s p gl = (ok, s2, p2, gl2) := ⟨_, _, _, _, rfl⟩
    rw [hb] at hF
    have hle := token_Cut.bl_le s.size s p gl
    rw [hb] at hle
    dsimp only at hle
    have HB := Aside0.mk hb
    clear hb
    cases ok with
    | false =>
      dsimp only at hF
      simp only [Prod.mk.injEq] at hF
      obtain ⟨e1, e2, e3⟩ := hF
      subst e1 e2 e3
      go_wp2_with (first | (go_at_call 15; (with_reducible refine (token_Cut.blanks w _ w.heap.size s p gl v l HC.out HT.out h0 hs false s2 p2 gl2 HB.out).mono ?_); rintro e w3 ⟨rfl, hc3, hp3, hs3⟩; have HC2 := Aside0.mk hc3; have x0 : w3.cell? ⟨w.heap.size, 0, none⟩ = some (.string s2) := (blk_cell HC2.out.blk 0).trans rfl; have x1 : w3.cell? ⟨w.heap.size, 1, none⟩ = some (.int .i64 p2) := (blk_cell HC2.out.blk 1).trans rfl; have x3 : w3.cell? ⟨w.heap.size, 3, none⟩ = some v := (blk_cell HC2.out.blk 3).trans rfl; clear hc3))
      go_region
      all_goals
        go_wp2
        go_ret3
        exact ⟨_, rfl, Kd.R_nil _ _ _ _ _, HC2.out.drew.bel⟩
    | true =>
      dsimp only at hF
      by_cases hz2 : s2.size = 0
      · rw [if_pos hz2] at hF
        obtain rfl : s2 = ⟨#[]⟩ := ByteArray.ext (Array.eq_empty_of_size_eq_zero hz2)
        simp only [Prod.mk.injEq] at hF
        obtain ⟨e1, e2, e3⟩ := hF
        subst e1 e2 e3
        go_wp2_with (first | (go_at_call 15; (with_reducible refine (token_Cut.blanks w _ w.heap.size s p gl v l HC.out HT.out h0 hs true ⟨#[]⟩ p2 gl2 HB.out).mono ?_); rintro e w3 ⟨rfl, hc3, hp3, hs3⟩; have HC2 := Aside0.mk hc3; have x0 : w3.cell? ⟨w.heap.size, 0, none⟩ = some (.string ⟨#[]⟩) := (blk_cell HC2.out.blk 0).trans rfl; have x1 : w3.cell? ⟨w.heap.size, 1, none⟩ = some (.int .i64 p2) := (blk_cell HC2.out.blk 1).trans rfl; have x3 : w3.cell? ⟨w.heap.size, 3, none⟩ = some v := (blk_cell HC2.out.blk 3).trans rfl; clear hc3))
        have xa3 : (w3.alloc (.cells #[.int .i64 9, .string ⟨#[]⟩, .int .i64 0, .int .i64 p2] 30)).cell? ⟨w.heap.size, 3, none⟩ = some v := (blk_cell (HC2.out.below (below_alloc (Below.refl _ _) _)).blk 3).trans rfl
        have hl5 : l.length ≤ 100000 := by omega
        go_region_law (refine token_Cut.app (W := w3.drew) (w0 := w) ?l1 (.tmp 22) (.tmp 28) ?l2 v l 9 ⟨#[]⟩ 0 p2 ?l3 ?l4 HC2.out.drew.own HC2.out.drew.bel hl5 ?_; (case l1 => rfl); (case l2 => rfl); (case l3 => rfl); (case l4 => rfl); intro v1 w1 ho hb hgr; have HO := Aside0.mk ho; have HW := Aside0.mk hb; clear ho hb hgr)
        all_goals
          go_wp2
          go_ret3
          exact ⟨_, rfl, HO.out, HW.out⟩
      · rw [if_neg hz2] at hF
        have HZ := Aside0.mk hz2
        have he : (s2.toList == ([] : List UInt8)) = false := beq_eq_false_iff_ne.mpr (fun h => hz2 (by rw [Lib.size_eq, ← Lib.toList_data, h]; rfl))
        have he2 : s2.toList.isEmpty = false := by rw [isEmpty_size, decide_eq_false hz2]
        cases htk : token_Cut.tok s2 gl2 with
        | none =>
          rw [htk] at hF
          dsimp only at hF
          simp only [Prod.mk.injEq] at hF
          obtain ⟨e1, e2, e3⟩ := hF
          subst e1 e2 e3
          have HK := Aside0.mk htk
          clear htk hz2
          go_wp2_with (first | (go_at_call 15; (with_reducible refine (token_Cut.blanks w _ w.heap.size s p gl v l HC.out HT.out h0 hs true s2 p2 gl2 HB.out).mono ?_); rintro e w3 ⟨rfl, hc3, hp3, hs3⟩; have HC2 := Aside0.mk hc3; have x0 : w3.cell? ⟨w.heap.size, 0, none⟩ = some (.string s2) := (blk_cell HC2.out.blk 0).trans rfl; have x1 : w3.cell? ⟨w.heap.size, 1, none⟩ = some (.int .i64 p2) := (blk_cell HC2.out.blk 1).trans rfl; have x3 : w3.cell? ⟨w.heap.size, 3, none⟩ = some v := (blk_cell HC2.out.blk 3).trans rfl; clear hc3) | (go_at_call 16; (with_reducible refine (token_Cut.next_eq HK.out (token_Cut.next w _ w.heap.size s2 p2 gl2 v l HC2.out HT.out hp3 (by omega) HZ.out (by omega))).mono ?_); rintro e w4 ⟨rfl, h4⟩; have H4 := Aside0.mk h4; clear h4; have y1 : w4.cell? ⟨w.heap.size, 1, none⟩ = some (.int .i64 p2) := (blk_cell (show token_Cut.Ct w w4 w.heap.size s2 p2 gl2 v l from H4.out).blk 1).trans rfl))
          go_region
          all_goals
            go_wp2
            go_ret3
            exact ⟨_, rfl, Kd.R_nil _ _ _ _ _, (show token_Cut.Ct w w4 w.heap.size s2 p2 gl2 v l from H4.out).drew.bel⟩
        | some q =>
          obtain ⟨kd, tx, N, n⟩ := q
          rw [htk] at hF
          dsimp only at hF
          have HK := Aside0.mk htk
          have hn1 := token_Cut.tok_pos hz2 htk
          clear htk hz2
          have HG := Aside0.mk hF
          clear hF
          go_wp2_with (first | (go_at_call 15; (with_reducible refine (token_Cut.blanks w _ w.heap.size s p gl v l HC.out HT.out h0 hs true s2 p2 gl2 HB.out).mono ?_); rintro e w3 ⟨rfl, hc3, hp3, hs3⟩; have HC2 := Aside0.mk hc3; have x0 : w3.cell? ⟨w.heap.size, 0, none⟩ = some (.string s2) := (blk_cell HC2.out.blk 0).trans rfl; have x1 : w3.cell? ⟨w.heap.size, 1, none⟩ = some (.int .i64 p2) := (blk_cell HC2.out.blk 1).trans rfl; have x3 : w3.cell? ⟨w.heap.size, 3, none⟩ = some v := (blk_cell HC2.out.blk 3).trans rfl; clear hc3) | (go_at_call 16; (with_reducible refine (token_Cut.next_eq HK.out (token_Cut.next w _ w.heap.size s2 p2 gl2 v l HC2.out HT.out hp3 (by omega) HZ.out (by omega))).mono ?_); rintro e w4 ⟨rfl, h4⟩; have H4 := Aside0.mk h4; clear h4))
          obtain ⟨hn2, v4, h4⟩ := H4.out
          go_roundw
          case rel => exact ⟨_, _, _, v4, _, k, ⟨h4, by rw [ByteArray.size_extract]; omega, HG.out, by omega, by rw [ByteArray.size_extract]; omega, by rw [List.length_append, List.length_singleton]; omega⟩⟩
          case measure => rw [token_Cut.left_eq h4, token_Cut.left_eq HC.out, ByteArray.size_extract]; omega
theorem token_Cut.calls (a0 : ByteArray) (r1 : List S30) (r2 r3 : Int) (w : World) (h : token_Cut.f a0 = some (r1, r2, r3)) (hT : Tabs w) :
    Calls Tryd.prog 10 #[.string a0] w fun e w' => ∃ v0_ : Value, e = .returned (.tuple #[v0_, .int .i64 r2, .int .i64 r3]) ∧ Kd.R k30 30 w' w.heap.size (fun _ => True) v0_ r1 ∧ Below w.heap.size w w' := by
  unfold token_Cut.f at h
  split at h
  case isTrue hz =>
    simp only [Option.some.injEq, Prod.mk.injEq] at h
    obtain ⟨e1, e2, e3⟩ := h
    subst e1 e2 e3
    have hz1 : decide ((4096 : Int) < (a0.size : Int)) = true := decide_eq_true (by omega)
    go_enter Tryd.func10, Tryd.ntmps10
    go_wp2
    go_ret3
    exact ⟨_, rfl, Kd.R_nil _ _ _ _ _, Below.refl _ _⟩
  case isFalse hz =>
    injection h with h
    exact token_Cut.walk a0 r1 r2 r3 w hT (by omega) h

end Go.Proofs.YtjichkjnodabiaaDoor.P
