-- PRINTED by a program of this session over the kit's print.py.
import Derived.Test.YtmiapolhklapnaaPx0
namespace Go.Proofs.Ytmiapolhklapnaa.P
open Go.Own Go.RowKit Go.Proofs.YtmiapolhklapnaaW.PrintWords Go.Proofs.YtmiapolhklapnaaW.PrintLast Go.Proofs.YtmiapolhklapnaaW.PrintMore
attribute [local go_sem] max2_int min2_int max_two min_two max_three min_three max_four min_four   -- for this text's walks alone
set_option linter.unusedVariables false
set_option linter.unusedSimpArgs false

-- NOT PRINTED: function 51 (api_Bind)

/-! ### subst_Look: function 35 (given) -/
section
open Go.Shelf
attribute [local go_sem] Oper.semAt_some
/-- what has come when k rounds are over -/
def subst_Look.upto (n k : Nat) : List Int := (List.range k).map fun j : Nat => (n : Int) - 1 - (j : Int)
theorem subst_Look.upto_succ (n k : Nat) : subst_Look.upto n (k + 1) = subst_Look.upto n k ++ [(n : Int) - 1 - (k : Int)] := by simp [subst_Look.upto, List.range_succ]
theorem subst_Look.upto_length (n k : Nat) : (subst_Look.upto n k).length = k := by simp [subst_Look.upto]
/-- an element's cells -/
def subst_Look.cs (l : List S45) (Ac : Int → Option Addr) (cc : Int → Nat) (x : Int) : Array Value := #[.int .i64 (rd_T45 l x).f0, .int .i64 (rd_T45 l x).f1.f0, .string (rd_T45 l x).f1.f1, .int .i64 (rd_T45 l x).f1.f2, .slice (Ac x) (rd_T45 l x).f1.f3.length (cc x)]
def subst_Look.At (W : World) (ad : Addr) (l : List S45) (Ac : Int → Option Addr) (cc : Int → Nat) : Prop := ∀ x : Int, 0 ≤ x → x < (l.length : Int) →
  W.cell? (ad.add (x.toNat * 5)) = some (.int .i64 (rd_T45 l x).f0) ∧ W.cell? ⟨(ad.add (x.toNat * 5)).block, (ad.add (x.toNat * 5)).off + 1, none⟩ = some (.int .i64 (rd_T45 l x).f1.f0) ∧
  W.cell? ⟨(ad.add (x.toNat * 5)).block, (ad.add (x.toNat * 5)).off + 2, none⟩ = some (.string (rd_T45 l x).f1.f1) ∧ W.cell? ⟨(ad.add (x.toNat * 5)).block, (ad.add (x.toNat * 5)).off + 3, none⟩ = some (.int .i64 (rd_T45 l x).f1.f2) ∧
  W.cell? ⟨(ad.add (x.toNat * 5)).block, (ad.add (x.toNat * 5)).off + 4, none⟩ = some (.slice (Ac x) (rd_T45 l x).f1.f3.length (cc x))
theorem subst_Look.At.below {w W : World} {ad : Addr} {l : List S45} {Ac : Int → Option Addr} {cc : Int → Nat} (h : subst_Look.At w ad l Ac cc) {n : Nat} (hn : ∀ x : Int, 0 ≤ x → x < (l.length : Int) → (ad.add (x.toNat * 5)).block < n) (hb : Below n w W) : subst_Look.At W ad l Ac cc := by
  intro x h0 h1
  obtain ⟨e0, e1, e2, e3, e4⟩ := h x h0 h1
  have hx := hn x h0 h1
  exact ⟨(hb.cell hx).trans e0, (hb.cell (p := ⟨_, _, none⟩) hx).trans e1, (hb.cell (p := ⟨_, _, none⟩) hx).trans e2, (hb.cell (p := ⟨_, _, none⟩) hx).trans e3, (hb.cell (p := ⟨_, _, none⟩) hx).trans e4⟩
set_option maxRecDepth 100000 in
set_option maxHeartbeats 2000000 in
theorem subst_Look.bw1 (F : Fence) (n : Nat) (h58 : F.fn 58) (hro : F.round = none) (hn : 1 ≤ n) (lo Bs n₀ : Nat) (A : Option Addr) (cap : Nat) (l : List S45) (Ac : Int → Option Addr) (cc : Int → Nat)
    (hlen : l.length ≤ 9223372036854775807) (J Jx : List Int → World → Prop)
    (hY : ∀ pre x W, J pre W → pre.length < l.length → YieldAt F (n - 1) Try.prog lo #[.int .i64 x, .agg (subst_Look.cs l Ac cc x)] W fun e W' =>
      (e = .returned (.bool true) ∧ J (pre ++ [x]) W' ∧ Below n₀ W W') ∨ (e = .returned (.bool false) ∧ Jx (pre ++ [x]) W'))
    (W : World) (hBs : W.cell? ⟨Bs, 0, none⟩ = some (.slice A l.length cap)) (hBn : Bs < n₀) (hc : 0 < l.length → ∃ ad, A = some ad ∧ subst_Look.At W ad l Ac cc ∧ ∀ x : Int, 0 ≤ x → x < (l.length : Int) → (ad.add (x.toNat * 5)).block < n₀) (h0 : J [] W) :
    CallsIn F n Try.prog 58 #[.func (.yield lo) #[] #[], .pointer (some ⟨Bs, 0, none⟩)] W fun e W' => (∃ v, e = .returned v) ∧
      ((∃ ys, ys = subst_Look.upto l.length l.length ∧ J ys W') ∨ (∃ pre, (∃ k, k ≤ l.length ∧ pre = subst_Look.upto l.length k) ∧ Jx pre W')) := by
  refine callsIn_of_wp Try.func58 rfl h58 ?_ hro
  simp only [Try.ntmps58, List.size_toArray, List.length_cons, List.length_nil, Nat.reduceAdd, Nat.reduceSub, Array.replicate_succ, Array.replicate_zero, List.push_toArray, List.append_toArray, List.nil_append, List.cons_append]
  have hw1 : wrap64 ((l.length : Int) - 1) = (l.length : Int) - 1 := by unfold wrap64; omega
  gi_wp2
  gi_loopw [3] (fun i wr => ∃ k : Nat, k ≤ l.length ∧ i = .int .i64 ((l.length : Int) - 1 - (k : Int)) ∧ J (subst_Look.upto l.length k) wr ∧ Below n₀ W wr) (fun i _ => (intOf i + 1).toNat)
  case atStart => exact ⟨0, Nat.zero_le _, by first | rfl | (simp [hw1]; done) | (simp; omega), h0, Below.refl _ _⟩
  case round =>
    obtain ⟨k, hk, rfl, hJs, hnx⟩ := hrel
    have hBs' := (hnx.cell (p := ⟨Bs, 0, none⟩) hBn).trans hBs
    by_cases hlt : k < l.length
    · obtain ⟨ad, rfl, hat, hblk⟩ := hc (by omega)
      obtain ⟨x, hx⟩ : ∃ x : Int, (l.length : Int) - 1 - (k : Int) = x := ⟨_, rfl⟩
      have hx0 : 0 ≤ x := by omega
      have hx1 : x < (l.length : Int) := by omega
      obtain ⟨e0, e1, e2, e3, e4⟩ := (hat.below hblk hnx) x hx0 hx1
      rw [hx]
      have hx2 : (x ≥ 0) = True := eq_true hx0
      obtain ⟨fn, tmps, assign, body, hy, hR⟩ := hY _ x wr hJs (by rw [subst_Look.upto_length]; exact hlt)
      dsimp only [subst_Look.cs] at hy
      have hwx : wrap64 (x - 1) = x - 1 := by unfold wrap64; omega
      gi_wp2
      refine hR.mono ?_
      rintro e W3 (⟨rfl, hJ3, hk3⟩ | ⟨rfl, hJx3⟩)
      · gi_wp2
        go_roundw
        case rel => exact ⟨k + 1, by omega, by first | (simp [hwx]; omega) | (congr 1; omega), by rw [subst_Look.upto_succ, hx]; exact hJ3, hnx.trans hk3⟩
        case measure => simp [intOf, hwx]; omega
      · gi_wp2
        refine bodyPost_ret (results_none rfl _ _ _) rfl ?_
        exact ⟨⟨_, rfl⟩, .inr ⟨_, ⟨k + 1, by omega, by rw [subst_Look.upto_succ, hx]⟩, hJx3⟩⟩
    · obtain rfl : k = l.length := by omega
      have hm : ((l.length : Int) - 1 - (l.length : Int)) = -1 := by omega
      rw [hm]
      gi_wp2
      go_end0
      exact ⟨⟨_, rfl⟩, .inl ⟨_, rfl, hJs⟩⟩
set_option maxHeartbeats 1000000 in
theorem subst_Look.bw (F : Fence) (n : Nat) (h5 : F.fn 51) (hro : F.round = none) (a : Option Addr) (len cap : Nat) (w : World) :
    CallsIn F n Try.prog 51 #[.slice a len cap] w fun e w' => e = .returned (.func (.func 58) #[] #[.pointer (some ⟨w.heap.size, 0, none⟩)]) ∧ w' = w.alloc (.cells #[.slice a len cap] 22) := by
  refine callsIn_of_wp Try.func51 rfl h5 ?_ hro
  simp only [Try.ntmps51, List.size_toArray, List.length_cons, List.length_nil, Nat.reduceAdd, Nat.reduceSub, Array.replicate_succ, Array.replicate_zero, List.push_toArray, List.append_toArray, List.nil_append, List.cons_append]
  gi_wp2
  go_ret
  exact ⟨rfl, rfl⟩
theorem subst_Look.bw_stops (F : Fence) (n : Nat) (h58 : F.fn 58) (hro : F.round = none) (hn : 1 ≤ n) (Bs n₀ : Nat) (A : Option Addr) (cap : Nat) (l : List S45) (Ac : Int → Option Addr) (cc : Int → Nat)
    (hlen : l.length ≤ 9223372036854775807) (w : World) (hBs : Bs < n₀) (hn₀ : n₀ ≤ w.heap.size) (hc : w.cell? ⟨Bs, 0, none⟩ = some (.slice A l.length cap))
    (hA : 0 < l.length → ∃ ad, A = some ad ∧ subst_Look.At w ad l Ac cc ∧ ∀ x : Int, 0 ≤ x → x < (l.length : Int) → (ad.add (x.toNat * 5)).block < n₀) :
    SeqStopsK F n Try.prog 58 #[.pointer (some ⟨Bs, 0, none⟩)] (fun x : Int => #[.int .i64 x, .agg (subst_Look.cs l Ac cc x)]) (Below n₀) (fun ys => ys = subst_Look.upto l.length l.length) (fun pre => ∃ k, k ≤ l.length ∧ pre = subst_Look.upto l.length k) l.length w := fun lo J Jx W hW _ _ hY h0 =>
  subst_Look.bw1 F n h58 hro hn lo Bs n₀ A cap l Ac cc hlen J Jx hY W (((hW.mono hn₀).cell (p := ⟨Bs, 0, none⟩) hBs).trans hc) hBs (fun h => by
    obtain ⟨ad, e, h1, h2⟩ := hA h
    exact ⟨ad, e, h1.below h2 (hW.mono hn₀), h2⟩) h0
/-- the place from behind -/
def subst_Look.find (a : Int) : List S45 → Option S25
  | [] => none
  | x :: l => match subst_Look.find a l with
    | some t => some t
    | none => if x.f0 = a then some x.f1 else none
def subst_Look.f (k : Nat) (l0 : List S45) (a1 : Int) : Option (Int × ByteArray × Int × List S25 × Bool) :=
  if l0.length ≤ 9223372036854775807 then (match subst_Look.find a1 l0 with
    | some t => some (t.f0, t.f1, t.f2, t.f3, true)
    | none => some (0, (⟨#[]⟩ : ByteArray), 0, [], false)) else none
theorem subst_Look.mono : ∀ a0 a1 k, LeO (subst_Look.f k a0 a1) (subst_Look.f (k + 1) a0 a1) := fun _ _ _ => LeO.refl _
theorem subst_Look.stored {W w : World} {n₀ g o t t2 : Nat} {z0 z1 z2 z3 z4 : Value} (u0 u1 u2 u3 v : Value) (c1 : BoxN W g t #[z0, z1, z2, z3]) (c2 : BoxN W o t2 #[z4]) (hgo : g ≠ o) (hg : n₀ ≤ g) (ho : n₀ ≤ o) (hb : Below n₀ w W) :
    KeepsOthers W (((((W.setCell ⟨g, 0, none⟩ u0).setCell ⟨g, 1, none⟩ u1).setCell ⟨g, 2, none⟩ u2).setCell ⟨g, 3, none⟩ u3).setCell ⟨o, 0, none⟩ v) ∧ BoxN (((((W.setCell ⟨g, 0, none⟩ u0).setCell ⟨g, 1, none⟩ u1).setCell ⟨g, 2, none⟩ u2).setCell ⟨g, 3, none⟩ u3).setCell ⟨o, 0, none⟩ v) g t #[u0, u1, u2, u3] ∧
    BoxN (((((W.setCell ⟨g, 0, none⟩ u0).setCell ⟨g, 1, none⟩ u1).setCell ⟨g, 2, none⟩ u2).setCell ⟨g, 3, none⟩ u3).setCell ⟨o, 0, none⟩ v) o t2 #[v] ∧ Below n₀ w (((((W.setCell ⟨g, 0, none⟩ u0).setCell ⟨g, 1, none⟩ u1).setCell ⟨g, 2, none⟩ u2).setCell ⟨g, 3, none⟩ u3).setCell ⟨o, 0, none⟩ v) := by
  refine ⟨?_, ?_, ?_, ?_⟩
  · exact ((((KeepsOthers.setCell _ _ _).trans (KeepsOthers.setCell _ _ _)).trans (KeepsOthers.setCell _ _ _)).trans (KeepsOthers.setCell _ _ _)).trans (KeepsOthers.setCell _ _ _)
  · exact blk_far (p := ⟨o, 0, none⟩) (blk_put (blk_put (blk_put (blk_put c1 0 u0 rfl) 1 u1 rfl) 2 u2 rfl) 3 u3 rfl) hgo v
  · exact blk_put (blk_far (p := ⟨g, 3, none⟩) (blk_far (p := ⟨g, 2, none⟩) (blk_far (p := ⟨g, 1, none⟩) (blk_far (p := ⟨g, 0, none⟩) c2 hgo.symm u0) hgo.symm u1) hgo.symm u2) hgo.symm u3) 0 v rfl
  · exact ((((hb.setCell (p := ⟨g, 0, none⟩) hg u0).setCell (p := ⟨g, 1, none⟩) hg u1).setCell (p := ⟨g, 2, none⟩) hg u2).setCell (p := ⟨g, 3, none⟩) hg u3).setCell (p := ⟨o, 0, none⟩) ho v
set_option maxRecDepth 100000 in
set_option maxHeartbeats 4000000 in
theorem subst_Look.in_ (F : Fence) (n : Nat) (h35 : F.fn 35) (h51 : F.fn 51) (h58 : F.fn 58) (hro : F.round = none) (hn : 3 ≤ n) (A0 : Option Addr) (c0 : Nat) (l0 : List S45) (a1 : Int) (Ac : Int → Option Addr) (cc : Int → Nat)
    (hlen : l0.length ≤ 9223372036854775807) (w : World) (hA : 0 < l0.length → ∃ ad, A0 = some ad ∧ subst_Look.At w ad l0 Ac cc ∧ ∀ x : Int, 0 ≤ x → x < (l0.length : Int) → (ad.add (x.toNat * 5)).block < w.heap.size) :
    CallsIn F n Try.prog 35 #[.slice A0 l0.length c0, .int .i64 a1] w fun e W' =>
      ((e = .returned (.tuple #[.agg #[.int .i64 0, .string ⟨#[]⟩, .int .i64 0, .slice none 0 0], .bool false]) ∧ ∀ i ∈ subst_Look.upto l0.length l0.length, (rd_T45 l0 i).f0 ≠ a1) ∨
       (∃ k' : Nat, k' < l0.length ∧ e = .returned (.tuple #[.agg #[.int .i64 (rd_T45 l0 ((l0.length : Int) - 1 - (k' : Int))).f1.f0, .string (rd_T45 l0 ((l0.length : Int) - 1 - (k' : Int))).f1.f1, .int .i64 (rd_T45 l0 ((l0.length : Int) - 1 - (k' : Int))).f1.f2, .slice (Ac ((l0.length : Int) - 1 - (k' : Int))) (rd_T45 l0 ((l0.length : Int) - 1 - (k' : Int))).f1.f3.length (cc ((l0.length : Int) - 1 - (k' : Int)))], .bool true]) ∧
         (rd_T45 l0 ((l0.length : Int) - 1 - (k' : Int))).f0 = a1 ∧ ∀ i ∈ subst_Look.upto l0.length k', (rd_T45 l0 i).f0 ≠ a1)) ∧ Below w.heap.size w W' := by
  have h1 : 1 ≤ n := by omega
  refine callsIn_of_wp_marks Try.func35 rfl h35 ?_ hro
  simp only [Try.ntmps35, List.size_toArray, List.length_cons, List.length_nil, Nat.reduceAdd, Nat.reduceSub, Array.replicate_succ, Array.replicate_zero, List.push_toArray, List.append_toArray, List.nil_append, List.cons_append]
  gi_wp2_with (gi_at_call 51; refine (subst_Look.bw F (n - 1) h51 hro _ _ _ _).mono ?_; rintro e w' ⟨rfl, rfl⟩)
  have b0 := ((((BoxN.new w 2 #[.int .i64 a1]).alloc (.cells #[.int .i64 0, .string ⟨#[]⟩, .int .i64 0, .slice none 0 0] 25)).alloc (.cells #[.bool false] 4)).alloc (.cells #[.slice A0 l0.length c0] 22))
  have b1 := ((BoxN.new (w.alloc (.cells #[.int .i64 a1] 2)) 25 #[.int .i64 0, .string ⟨#[]⟩, .int .i64 0, .slice none 0 0]).alloc (.cells #[.bool false] 4)).alloc (.cells #[.slice A0 l0.length c0] 22)
  have b2 := (BoxN.new ((w.alloc (.cells #[.int .i64 a1] 2)).alloc (.cells #[.int .i64 0, .string ⟨#[]⟩, .int .i64 0, .slice none 0 0] 25)) 4 #[.bool false]).alloc (.cells #[.slice A0 l0.length c0] 22)
  have b3 := BoxN.new (((w.alloc (.cells #[.int .i64 a1] 2)).alloc (.cells #[.int .i64 0, .string ⟨#[]⟩, .int .i64 0, .slice none 0 0] 25)).alloc (.cells #[.bool false] 4)) 22 #[.slice A0 l0.length c0]
  have hB0 : Below w.heap.size w ((((w.alloc (.cells #[.int .i64 a1] 2)).alloc (.cells #[.int .i64 0, .string ⟨#[]⟩, .int .i64 0, .slice none 0 0] 25)).alloc (.cells #[.bool false] 4)).alloc (.cells #[.slice A0 l0.length c0] 22)) :=
    ((((Below.refl _ w).alloc (Nat.le_refl _) _).alloc (by simp) _).alloc (by simp; omega) _).alloc (by simp; omega) _
  have hsz : ((((w.alloc (.cells #[.int .i64 a1] 2)).alloc (.cells #[.int .i64 0, .string ⟨#[]⟩, .int .i64 0, .slice none 0 0] 25)).alloc (.cells #[.bool false] 4)).alloc (.cells #[.slice A0 l0.length c0] 22)).heap.size = w.heap.size + 4 := by simp
  simp only [World.size_alloc] at b1 b2 b3
  obtain ⟨W0, hW0⟩ : ∃ W0, ((((w.alloc (.cells #[.int .i64 a1] 2)).alloc (.cells #[.int .i64 0, .string ⟨#[]⟩, .int .i64 0, .slice none 0 0] 25)).alloc (.cells #[.bool false] 4)).alloc (.cells #[.slice A0 l0.length c0] 22)) = W0 := ⟨_, rfl⟩
  rw [hW0] at b0 b1 b2 b3 hB0 hsz ⊢
  clear hW0
  have hA0 : 0 < l0.length → ∃ ad, A0 = some ad ∧ subst_Look.At W0 ad l0 Ac cc ∧ ∀ x : Int, 0 ≤ x → x < (l0.length : Int) → (ad.add (x.toNat * 5)).block < W0.heap.size := fun h => by
    obtain ⟨ad, e, h1, h2⟩ := hA h
    exact ⟨ad, e, h1.below h2 hB0, fun x h3 h4 => by have := h2 x h3 h4; omega⟩
  refine wpIn_rangeFunc_ownH hro h1 (gf := 58) (lb := #[.pointer (some ⟨w.heap.size + 1 + 1 + 1, 0, none⟩)]) rfl h58 (enters_of Try.func58 (by kernel_rfl) rfl)
    (subst_Look.bw_stops F (n - 1) h58 hro (by omega) (w.heap.size + 1 + 1 + 1) W0.heap.size A0 c0 l0 Ac cc hlen W0 (by omega) (Nat.le_refl _) ((b3.cell 0).trans rfl) hA0) belowK_t (belowK_b (Nat.le_refl _)) (Below.refl _ _) (fun _ => rfl)
    (fun pre W => (∀ i ∈ pre, (rd_T45 l0 i).f0 ≠ a1) ∧ Below W0.heap.size W0 W)
    (fun c pre W => (c = .ret ∧ ∃ ini x, pre = ini ++ [x] ∧ (∀ i ∈ ini, (rd_T45 l0 i).f0 ≠ a1) ∧ (rd_T45 l0 x).f0 = a1 ∧ BoxN W (w.heap.size + 1) 25 #[.int .i64 (rd_T45 l0 x).f1.f0, .string (rd_T45 l0 x).f1.f1, .int .i64 (rd_T45 l0 x).f1.f2, .slice (Ac x) (rd_T45 l0 x).f1.f3.length (cc x)] ∧ BoxN W (w.heap.size + 1 + 1) 4 #[.bool true]) ∧ Below w.heap.size w W)
    (OwnFrom.and (ownFrom_pure _ _) (ownFrom_below (Nat.le_refl _) (Nat.le_refl _)))
    (fun c => OwnFrom.and (Own.from (fun s A B row hs hg hr => by
      obtain ⟨hc, ini, x, e1, e2, e3, e4, e5⟩ := hs
      exact ⟨hc, ini, x, e1, e2, e3, boxN_own _ _ (fun _ : Unit => _) () A B row e4 hg hr, boxN_own _ _ (fun _ : Unit => _) () A B row e5 hg hr⟩) _) (ownFrom_below (Nat.le_refl _) (by omega)))
    ⟨by simp, Below.refl _ _⟩
    (fun x a' W => ∃ Bx, W0.heap.size ≤ Bx ∧ BoxN W Bx 45 (subst_Look.cs l0 Ac cc x) ∧ a' = { tmps := #[.slice A0 l0.length c0, .int .i64 a1, undef, .pointer (some ⟨w.heap.size, 0, none⟩), .pointer (some ⟨w.heap.size + 1, 0, none⟩), .pointer (some ⟨w.heap.size + 1 + 1, 0, none⟩), undef, .pointer (some ⟨Bx, 0, none⟩), .slice A0 l0.length c0, .func (.func 58) #[] #[.pointer (some ⟨w.heap.size + 1 + 1 + 1, 0, none⟩)], .int .i64 x, .agg (subst_Look.cs l0 Ac cc x), undef, undef, undef, undef, undef, undef, undef], defers := [] })
    (fun x a' _ X Y row hs hg hr => by
      obtain ⟨Bx, h1, h2, h3⟩ := hs
      exact ⟨Bx, h1, boxN_own Bx _ (fun (_ : Unit) => subst_Look.cs l0 Ac cc x) () X Y row h2 hg (fun r e => (hr r e).2), h3⟩)
    ?assign ?body ?done ?stop
  case assign =>
    rintro l pre x W K ⟨hp, hB1⟩ hK
    have hW1 := hB1.size
    dsimp only [subst_Look.cs] at hK ⊢
    gi_wp2
    exact hK _ _ ((KeepsOthers.alloc _ _).from _) ((Below.refl _ W).alloc hW1 _) ⟨hp, hB1.trans ((Below.refl _ W).alloc hW1 _)⟩ ⟨W.heap.size, hW1, BoxN.new W _ _, rfl⟩
  case body =>
    rintro l pre x a' W hl ⟨r, hr⟩ ⟨hp, hB1⟩ ⟨Bx, hBx, bX, rfl⟩ hlt
    dsimp only [subst_Look.cs] at bX
    have x0 : W.cell? ⟨Bx, 0, none⟩ = some (.int .i64 (rd_T45 l0 x).f0) := (bX.cell 0).trans rfl
    have x1 : W.cell? ⟨Bx, 1, none⟩ = some (.int .i64 (rd_T45 l0 x).f1.f0) := (bX.cell 1).trans rfl
    have x2 : W.cell? ⟨Bx, 2, none⟩ = some (.string (rd_T45 l0 x).f1.f1) := (bX.cell 2).trans rfl
    have x3 : W.cell? ⟨Bx, 3, none⟩ = some (.int .i64 (rd_T45 l0 x).f1.f2) := (bX.cell 3).trans rfl
    have x4 : W.cell? ⟨Bx, 4, none⟩ = some (.slice (Ac x) (rd_T45 l0 x).f1.f3.length (cc x)) := (bX.cell 4).trans rfl
    have v0 : W.cell? ⟨w.heap.size, 0, none⟩ = some (.int .i64 a1) := ((b0.below hB1 (by omega)).cell 0).trans rfl
    have c1 := b1.below hB1 (by omega)
    have c2 := b2.below hB1 (by omega)
    have r0 := c1.cell 0
    have r1 := c1.cell 1
    have r2 := c1.cell 2
    have r3 := c1.cell 3
    have o0 := c2.cell 0
    have g0 := c1.frozen 0
    have g1 := c1.frozen 1
    have g2 := c1.frozen 2
    have g3 := c1.frozen 3
    have p0 := c2.frozen 0
    have hW1 := hB1.size
    by_cases he : (rd_T45 l0 x).f0 = a1
    · have t1 : ((rd_T45 l0 x).f0 == a1) = true := beq_iff_eq.2 he
      have t2 : ((rd_T45 l0 x).f0 = a1) = True := eq_true he
      have st := subst_Look.stored (w := w) (n₀ := w.heap.size) (.int .i64 (rd_T45 l0 x).f1.f0) (.string (rd_T45 l0 x).f1.f1) (.int .i64 (rd_T45 l0 x).f1.f2) (.slice (Ac x) (rd_T45 l0 x).f1.f3.length (cc x)) (.bool true) c1 c2 (by omega) (by omega) (by omega) (hB0.trans (hB1.mono (by omega)))
      gi_wp2
      exact ⟨st.1.from _, ⟨rfl, pre, x, rfl, hp, he, st.2.1, st.2.2.1⟩, st.2.2.2⟩
    · have t1 : ((rd_T45 l0 x).f0 == a1) = false := beq_eq_false_iff_ne.2 he
      have t2 : ((rd_T45 l0 x).f0 = a1) = False := eq_false he
      gi_wp2
      exact ⟨KeepsFrom.refl _ _, Below.refl _ _, fun i hi => (List.mem_append.1 hi).elim (hp i) (fun e => by simp at e; subst e; exact he), hB1⟩
  case done =>
    rintro D ys W hD rfl ⟨hp, hB1⟩ hK
    have c1 := b1.below hB1 (by omega)
    have c2 := b2.below hB1 (by omega)
    have hW1 := hB1.size
    have r0 := c1.cell 0
    have r1 := c1.cell 1
    have r2 := c1.cell 2
    have r3 := c1.cell 3
    have o0 := c2.cell 0
    have g0 := c1.frozen 0
    have g1 := c1.frozen 1
    have g2 := c1.frozen 2
    have g3 := c1.frozen 3
    have p0 := c2.frozen 0
    have st := subst_Look.stored (w := w) (n₀ := w.heap.size) (.int .i64 0) (.string ⟨#[]⟩) (.int .i64 0) (.slice none 0 0) (.bool false) c1 c2 (by omega) (by omega) (by omega) (hB0.trans (hB1.mono (by omega)))
    gi_wp2
    have hK' := st.1.same D _ hK rfl
    refine ⟨by simp, .inl ⟨_, _, rfl, run_takeDeferred hK', ?_⟩⟩
    have f1 := st.2.1.kept (grownBy_putObj' _ D (.deferred none)) (fun e => by injection e with e; omega)
    have f2 := st.2.2.1.kept (grownBy_putObj' _ D (.deferred none)) (fun e => by injection e with e; omega)
    have q0 := f1.cell 0
    have q1 := f1.cell 1
    have q2 := f1.cell 2
    have q3 := f1.cell 3
    have q4 := f2.cell 0
    refine ⟨.tuple #[.agg #[.int .i64 0, .string ⟨#[]⟩, .int .i64 0, .slice none 0 0], .bool false], ?_, .inl ⟨rfl, hp⟩, st.2.2.2.trans (belowK_b (w := w) (Nat.le_refl _) _ D _ _ (by omega) hK' rfl rfl)⟩
    simp [results, Try.f35, go_sem, q0, q1, q2, q3, q4]
  case stop =>
    rintro D c pre W hD ⟨k, hk, rfl⟩ ⟨⟨rfl, ini, x, e1, e2, e3, c1, c2⟩, hB⟩ hK
    gi_wp2
    refine ⟨by simp, .inl ⟨_, _, rfl, run_takeDeferred hK, ?_⟩⟩
    obtain ⟨k', rfl⟩ : ∃ k', k = k' + 1 := by
      cases k with
      | zero => simp [subst_Look.upto] at e1
      | succ k' => exact ⟨k', rfl⟩
    rw [subst_Look.upto_succ] at e1
    obtain ⟨rfl, e5⟩ := List.append_inj' e1 rfl
    obtain rfl : (l0.length : Int) - 1 - (k' : Int) = x := by simpa using e5
    have f1 := c1.kept (grownBy_putObj' _ D (.deferred none)) (fun e => by injection e with e; omega)
    have f2 := c2.kept (grownBy_putObj' _ D (.deferred none)) (fun e => by injection e with e; omega)
    have q0 := f1.cell 0
    have q1 := f1.cell 1
    have q2 := f1.cell 2
    have q3 := f1.cell 3
    have q4 := f2.cell 0
    refine ⟨_, ?_, .inr ⟨k', by omega, rfl, e3, e2⟩, hB.trans (belowK_b (w := w) (Nat.le_refl _) W D _ _ (by omega) hK rfl rfl)⟩
    simp [results, Try.f35, go_sem, q0, q1, q2, q3, q4]
theorem subst_Look.find_none {a : Int} : ∀ {l : List S45}, (∀ x ∈ l, x.f0 ≠ a) → subst_Look.find a l = none
  | [], _ => rfl
  | x :: l, h => by
    unfold subst_Look.find
    rw [subst_Look.find_none (fun y hy => h y (List.mem_cons_of_mem _ hy))]
    simp only
    rw [if_neg (h x List.mem_cons_self)]
theorem subst_Look.find_some {a : Int} {x : S45} {q : List S45} (hx : x.f0 = a) (hq : ∀ y ∈ q, y.f0 ≠ a) : ∀ (p : List S45), subst_Look.find a (p ++ x :: q) = some x.f1
  | [] => by
    rw [List.nil_append]
    unfold subst_Look.find
    rw [subst_Look.find_none hq]
    simp only
    rw [if_pos hx]
  | y :: p => by
    rw [List.cons_append]
    unfold subst_Look.find
    rw [subst_Look.find_some hx hq p]
theorem subst_Look.mem_upto {n k : Nat} {i : Int} : i ∈ subst_Look.upto n k ↔ ∃ j : Nat, j < k ∧ i = (n : Int) - 1 - (j : Int) := by
  unfold subst_Look.upto
  rw [List.mem_map]
  constructor
  · rintro ⟨j, hj, e⟩
    exact ⟨j, List.mem_range.1 hj, e.symm⟩
  · rintro ⟨j, hj, e⟩
    exact ⟨j, List.mem_range.2 hj, e.symm⟩
theorem subst_Look.rd_at {l : List S45} {j : Nat} (hj : j < l.length) : rd_T45 l (j : Int) = l[j] := by
  unfold rd_T45
  rw [Int.toNat_natCast, List.getD_eq_getElem?_getD, List.getElem?_eq_getElem hj]
  rfl
theorem subst_Look.calls (k : Nat) (P0_ : Nat → Prop) (A0 : Option Addr) (c0 : Nat) (l0 : List (S45)) (a1 : Int) (r1 : Int) (r2 : ByteArray) (r3 : Int) (r4 : List (S25)) (r5 : Bool) (w : World) (hs0 : Kd.V k45 45 w w.heap.size (fun k_ => P0_ k_) (.slice A0 l0.length c0) l0) (h : subst_Look.f k l0 a1 = some (r1, r2, r3, r4, r5)) :
    Calls Try.prog 35 #[.slice A0 l0.length c0, .int .i64 a1] w fun e w' => ∃ v3_ : Value, e = .returned (.tuple #[.agg #[.int .i64 r1, .string r2, .int .i64 r3, v3_], .bool r5]) ∧ Kd.V k25 25 w' w.heap.size (fun k_ => (P0_ k_ ∨ w.heap.size ≤ k_)) v3_ r4 ∧ Below w.heap.size w w' := by
  have hlen : l0.length ≤ 9223372036854775807 := by
    unfold subst_Look.f at h
    by_cases hl : l0.length ≤ 9223372036854775807
    · exact hl
    · rw [if_neg hl] at h; cases h
  unfold subst_Look.f at h
  rw [if_pos hlen] at h
  have key : ∀ x : Int, ∃ p : Option Addr × Nat, 0 ≤ x → x < (l0.length : Int) → ∀ ad, A0 = some ad →
      (w.cell? (ad.add (x.toNat * 5)) = some (.int .i64 (rd_T45 l0 x).f0) ∧ w.cell? ⟨(ad.add (x.toNat * 5)).block, (ad.add (x.toNat * 5)).off + 1, none⟩ = some (.int .i64 (rd_T45 l0 x).f1.f0) ∧
      w.cell? ⟨(ad.add (x.toNat * 5)).block, (ad.add (x.toNat * 5)).off + 2, none⟩ = some (.string (rd_T45 l0 x).f1.f1) ∧ w.cell? ⟨(ad.add (x.toNat * 5)).block, (ad.add (x.toNat * 5)).off + 3, none⟩ = some (.int .i64 (rd_T45 l0 x).f1.f2) ∧
      w.cell? ⟨(ad.add (x.toNat * 5)).block, (ad.add (x.toNat * 5)).off + 4, none⟩ = some (.slice p.1 (rd_T45 l0 x).f1.f3.length p.2)) ∧
      (rd_T45 l0 x).f1.f3.length ≤ p.2 ∧ Kd.F k25 w (fun k_ => P0_ k_) p.1 (rd_T45 l0 x).f1.f3.length (rd_T45 l0 x).f1.f3 := by
    intro x
    by_cases hx : 0 ≤ x ∧ x < (l0.length : Int) ∧ ∃ ad, A0 = some ad
    · obtain ⟨h0, h1, ad, rfl⟩ := hx
      obtain ⟨cs, hcl, hM, hcc⟩ := Kd.V_get hs0 z45 x h0 h1
      obtain ⟨A4, c4, rfl, l4, g4⟩ := k45_openF hM
      refine ⟨(A4, c4), fun _ _ ad' e => ?_⟩
      cases e
      have hc : ∀ j u, (_ : List Value)[j]? = some u → w.cell? (ad.add (x.toNat * 5 + j)) = some u := hcc
      exact ⟨⟨hc 0 _ rfl, by rw [← add_field _ _ 1 (by omega)]; exact hc 1 _ rfl, by rw [← add_field _ _ 2 (by omega)]; exact hc 2 _ rfl, by rw [← add_field _ _ 3 (by omega)]; exact hc 3 _ rfl, by rw [← add_field _ _ 4 (by omega)]; exact hc 4 _ rfl⟩, l4, g4⟩
    · exact ⟨(none, 0), fun h0 h1 ad e => absurd ⟨h0, h1, ad, e⟩ hx⟩
  obtain ⟨p, hp⟩ := Classical.axiomOfChoice key
  have hsome : 0 < l0.length → ∃ ad, A0 = some ad := fun hl => by
    obtain ⟨ad, _, _, e, _⟩ := at_T45 (Kd.V_reads' hs0).2.2 0 (by omega) (by omega)
    exact ⟨ad, e⟩
  refine (callsIn_wide (n := 8)).1 ?_
  refine (subst_Look.in_ Fence.wide 8 trivial trivial trivial rfl (by omega) A0 c0 l0 a1 (fun x => (p x).1) (fun x => (p x).2) hlen w (fun hl => ?_)).mono ?_
  · obtain ⟨ad, e⟩ := hsome hl
    exact ⟨ad, e, fun x h0 h1 => (hp x h0 h1 ad e).1, fun x h0 h1 => World.block_lt_of_cell? _ _ (hp x h0 h1 ad e).1.1⟩
  · rintro e w' ⟨⟨rfl, hno⟩ | ⟨k', hk', rfl, hx, hno⟩, hb⟩
    · have hn : subst_Look.find a1 l0 = none := subst_Look.find_none (fun x hx => by
        obtain ⟨j, hj, rfl⟩ := List.mem_iff_getElem.1 hx
        have := hno (j : Int) (subst_Look.mem_upto.2 ⟨l0.length - 1 - j, by omega, by omega⟩)
        rwa [subst_Look.rd_at hj] at this)
      rw [hn] at h
      simp only [Option.some.injEq, Prod.mk.injEq] at h
      obtain ⟨rfl, rfl, rfl, rfl, rfl⟩ := h
      exact ⟨_, rfl, Kd.V_nil _ _ _ _ _, hb⟩
    · obtain ⟨j, hj⟩ : ∃ j : Nat, (l0.length : Int) - 1 - (k' : Int) = (j : Int) := ⟨l0.length - 1 - k', by omega⟩
      have hjl : j < l0.length := by omega
      rw [hj] at hx ⊢
      have hF := hp (j : Int) (by omega) (by omega)
      obtain ⟨ad, e⟩ := hsome (by omega)
      obtain ⟨_, hcap, hF⟩ := hF ad e
      rw [subst_Look.rd_at hjl] at hx hcap hF ⊢
      have hf : subst_Look.find a1 l0 = some l0[j].f1 := by
        have e2 : l0 = l0.take j ++ l0[j] :: l0.drop (j + 1) := by rw [← List.drop_eq_getElem_cons hjl, List.take_append_drop]
        conv => lhs; rw [e2]
        refine subst_Look.find_some hx (fun y hy => ?_) _
        obtain ⟨i, hi, rfl⟩ := List.mem_iff_getElem.1 hy
        rw [List.length_drop] at hi
        have := hno ((j + 1 + i : Nat) : Int) (subst_Look.mem_upto.2 ⟨l0.length - 1 - (j + 1 + i), by omega, by omega⟩)
        rw [subst_Look.rd_at (by omega)] at this
        rwa [List.getElem_drop]
      rw [hf] at h
      simp only [Option.some.injEq, Prod.mk.injEq] at h
      obtain ⟨rfl, rfl, rfl, rfl, rfl⟩ := h
      exact ⟨_, rfl, Kd.V_mono (Kd.V_below (Kd.V_mk hcap hF) hb) (fun k_ hk => .inl hk), hb⟩
theorem subst_Look.fixed (w0 : World) (A0 : Option Addr) (c0 : Nat) (l0 : List S45) (a1 : Int) (hC : Kd.C k45 w0 A0 l0.length l0) :
    (subst_Look.find a1 l0 = none ∧ ∀ w : World, Below w0.heap.size w0 w → Calls Try.prog 35 #[.slice A0 l0.length c0, .int .i64 a1] w fun e w' => e = .returned (.tuple #[.agg #[.int .i64 0, .string ⟨#[]⟩, .int .i64 0, .slice none 0 0], .bool false]) ∧ Below w.heap.size w w') ∨
    ∃ t A3 c3, subst_Look.find a1 l0 = some t ∧ Kd.C k25 w0 A3 t.f3.length t.f3 ∧ t.f3.length ≤ c3 ∧ ∀ w : World, Below w0.heap.size w0 w → Calls Try.prog 35 #[.slice A0 l0.length c0, .int .i64 a1] w fun e w' => e = .returned (.tuple #[.agg #[.int .i64 t.f0, .string t.f1, .int .i64 t.f2, .slice A3 t.f3.length c3], .bool true]) ∧ Below w.heap.size w w' := by
  have hlen : l0.length ≤ 9223372036854775807 := hC.2.1
  have key : ∀ x : Int, ∃ p : Option Addr × Nat, 0 ≤ x → x < (l0.length : Int) → ∀ ad, A0 = some ad →
      (w0.cell? (ad.add (x.toNat * 5)) = some (.int .i64 (rd_T45 l0 x).f0) ∧ w0.cell? ⟨(ad.add (x.toNat * 5)).block, (ad.add (x.toNat * 5)).off + 1, none⟩ = some (.int .i64 (rd_T45 l0 x).f1.f0) ∧
      w0.cell? ⟨(ad.add (x.toNat * 5)).block, (ad.add (x.toNat * 5)).off + 2, none⟩ = some (.string (rd_T45 l0 x).f1.f1) ∧ w0.cell? ⟨(ad.add (x.toNat * 5)).block, (ad.add (x.toNat * 5)).off + 3, none⟩ = some (.int .i64 (rd_T45 l0 x).f1.f2) ∧
      w0.cell? ⟨(ad.add (x.toNat * 5)).block, (ad.add (x.toNat * 5)).off + 4, none⟩ = some (.slice p.1 (rd_T45 l0 x).f1.f3.length p.2)) ∧
      (rd_T45 l0 x).f1.f3.length ≤ p.2 ∧ Kd.C k25 w0 p.1 (rd_T45 l0 x).f1.f3.length (rd_T45 l0 x).f1.f3 := by
    intro x
    by_cases hx : 0 ≤ x ∧ x < (l0.length : Int) ∧ ∃ ad, A0 = some ad
    · obtain ⟨h0, h1, ad, rfl⟩ := hx
      obtain ⟨ad', A4, c4, e, q0, q1, q2, q3, q4, l4, g4⟩ := at_T45 hC x h0 h1
      cases e
      refine ⟨(A4, c4), fun _ _ ad' e => ?_⟩
      cases e
      exact ⟨⟨q0, q1, q2, q3, q4⟩, l4, g4⟩
    · exact ⟨(none, 0), fun h0 h1 ad e => absurd ⟨h0, h1, ad, e⟩ hx⟩
  obtain ⟨p, hp⟩ := Classical.axiomOfChoice key
  have hsome : 0 < l0.length → ∃ ad, A0 = some ad := fun hl => by
    obtain ⟨ad, _, _, e, _⟩ := at_T45 hC 0 (by omega) (by omega)
    exact ⟨ad, e⟩
  have hcalls : ∀ w : World, Below w0.heap.size w0 w → _ := fun w hB => subst_Look.in_ Fence.wide 8 trivial trivial trivial rfl (by omega) A0 c0 l0 a1 (fun x => (p x).1) (fun x => (p x).2) hlen w (fun hl => by
    obtain ⟨ad, e⟩ := hsome hl
    refine ⟨ad, e, fun x h0 h1 => ?_, fun x h0 h1 => ?_⟩
    · obtain ⟨⟨q0, q1, q2, q3, q4⟩, _⟩ := hp x h0 h1 ad e
      exact ⟨pw_cell_below hB q0, pw_cell_below hB q1, pw_cell_below hB q2, pw_cell_below hB q3, pw_cell_below hB q4⟩
    · exact Nat.lt_of_lt_of_le (World.block_lt_of_cell? _ _ (hp x h0 h1 ad e).1.1) hB.size)
  by_cases hex : ∃ k' : Nat, k' < l0.length ∧ (rd_T45 l0 ((l0.length : Int) - 1 - (k' : Int))).f0 = a1 ∧ ∀ i ∈ subst_Look.upto l0.length k', (rd_T45 l0 i).f0 ≠ a1
  · obtain ⟨k', hk', hx, hno⟩ := hex
    obtain ⟨j, hj⟩ : ∃ j : Nat, (l0.length : Int) - 1 - (k' : Int) = (j : Int) := ⟨l0.length - 1 - k', by omega⟩
    have hjl : j < l0.length := by omega
    obtain ⟨ad, e⟩ := hsome (by omega)
    obtain ⟨_, hcap, hF⟩ := hp (j : Int) (by omega) (by omega) ad e
    have hrd := subst_Look.rd_at hjl
    refine .inr ⟨l0[j].f1, (p (j : Int)).1, (p (j : Int)).2, ?_, by rw [← hrd]; exact hF, by rw [← hrd]; exact hcap, fun w hB => ?_⟩
    · have e2 : l0 = l0.take j ++ l0[j] :: l0.drop (j + 1) := by rw [← List.drop_eq_getElem_cons hjl, List.take_append_drop]
      conv => lhs; rw [e2]
      refine subst_Look.find_some (by rw [hj, hrd] at hx; exact hx) (fun y hy => ?_) _
      obtain ⟨i, hi, rfl⟩ := List.mem_iff_getElem.1 hy
      rw [List.length_drop] at hi
      have := hno ((j + 1 + i : Nat) : Int) (subst_Look.mem_upto.2 ⟨l0.length - 1 - (j + 1 + i), by omega, by omega⟩)
      rw [subst_Look.rd_at (by omega)] at this
      rwa [List.getElem_drop]
    · refine (callsIn_wide (n := 8)).1 ((hcalls w hB).mono ?_)
      rintro e' w' ⟨⟨rfl, hno2⟩ | ⟨k2, hk2, rfl, hx2, hno2⟩, hb⟩
      · exact absurd hx (hno2 _ (subst_Look.mem_upto.2 ⟨k', hk', rfl⟩))
      · have hkk : k2 = k' := by
          rcases Nat.lt_trichotomy k2 k' with h | h | h
          · exact absurd hx2 (hno _ (subst_Look.mem_upto.2 ⟨k2, h, rfl⟩))
          · exact h
          · exact absurd hx (hno2 _ (subst_Look.mem_upto.2 ⟨k', h, rfl⟩))
        subst hkk
        rw [hj, hrd]
        exact ⟨rfl, hb⟩
  · refine .inl ⟨subst_Look.find_none (fun x hx => ?_), fun w hB => ?_⟩
    · intro he
      -- the last one that fits
      have hlast : ∀ n : Nat, n ≤ l0.length → ∀ i ∈ subst_Look.upto l0.length n, (rd_T45 l0 i).f0 ≠ a1 := by
        intro n
        induction n with
        | zero => intro _ i hi; obtain ⟨j, hj, _⟩ := subst_Look.mem_upto.1 hi; omega
        | succ n ih =>
          intro hn i hi hia
          obtain ⟨j, hj, rfl⟩ := subst_Look.mem_upto.1 hi
          by_cases hjn : j = n
          · subst hjn
            exact hex ⟨j, by omega, hia, ih (by omega)⟩
          · exact ih (by omega) _ (subst_Look.mem_upto.2 ⟨j, by omega, rfl⟩) hia
      obtain ⟨j, hj, rfl⟩ := List.mem_iff_getElem.1 hx
      have := hlast l0.length (Nat.le_refl _) (j : Int) (subst_Look.mem_upto.2 ⟨l0.length - 1 - j, by omega, by omega⟩)
      rw [subst_Look.rd_at hj] at this
      exact this he
    · refine (callsIn_wide (n := 8)).1 ((hcalls w hB).mono ?_)
      rintro e' w' ⟨⟨rfl, hno2⟩ | ⟨k2, hk2, rfl, hx2, hno2⟩, hb⟩
      · exact ⟨rfl, hb⟩
      · exact absurd ⟨k2, hk2, hx2, hno2⟩ hex
end

-- NOT PRINTED: function 27 (arith_reckoner_visit)

/-! ### num_over: function 52 -/
def num_over.f (a0 : Int) (a1 : Bool) : Option (Int × Int) := if a1 = true then (some (0, 10)) else (some (a0, 0))
set_option maxHeartbeats 8000000 in
set_option maxRecDepth 100000 in
theorem num_over.calls (a0 : Int) (a1 : Bool) (r1 : Int) (r2 : Int) (w : World) (h : num_over.f a0 a1 = some (r1, r2)) :
    Calls Try.prog 52 #[.int .i64 a0, .bool a1] w fun e w' => e = .returned (.tuple #[.int .i64 r1, .int .i64 r2]) ∧ Drawn0 w w' := by
  have H : (if a1 = true then (some (0, 10)) else (some (a0, 0))) = some (r1, r2) := h
  clear h
  by_cases c3 : a1 = true
  · subst c3
    have H1 : (some (0, 10)) = some (r1, r2) := by rw [if_pos rfl] at H; exact H
    clear H
    have H := H1
    clear H1
    simp only [Option.some.injEq, Prod.mk.injEq] at H
    obtain ⟨rfl, rfl⟩ := H
    go_enter Try.func52, Try.ntmps52
    go_wp2
    go_ret2
    exact ⟨by first | rfl | (simp; done) | (simp [*]; done), by repeat (first | exact Drawn0.refl _ | apply Drawn0.step)⟩
  · replace c3 := Bool.eq_false_iff.mpr c3
    subst c3
    have H1 : (some (a0, 0)) = some (r1, r2) := by rw [if_neg (show ¬ (false = true) by decide)] at H; exact H
    clear H
    have H := H1
    clear H1
    simp only [Option.some.injEq, Prod.mk.injEq] at H
    obtain ⟨rfl, rfl⟩ := H
    go_enter Try.func52, Try.ntmps52
    go_wp2
    go_ret2
    exact ⟨by first | rfl | (simp; done) | (simp [*]; done), by repeat (first | exact Drawn0.refl _ | apply Drawn0.step)⟩

/-! ### num_Add: function 36 -/
def num_Add.f (a0 : Int) (a1 : Int) : Option (Int × Int) := (num_over.f (wrap64 (a0 + a1)) (decide ((Go.bits .and .i64 (Go.bits .xor .i64 a0 (wrap64 (a0 + a1))) (Go.bits .xor .i64 a1 (wrap64 (a0 + a1)))) < 0))).bind fun bt111 => (some (bt111.1, bt111.2))
set_option maxHeartbeats 8000000 in
set_option maxRecDepth 100000 in
theorem num_Add.calls (a0 : Int) (a1 : Int) (r1 : Int) (r2 : Int) (w : World) (h : num_Add.f a0 a1 = some (r1, r2)) :
    Calls Try.prog 36 #[.int .i64 a0, .int .i64 a1] w fun e w' => e = .returned (.tuple #[.int .i64 r1, .int .i64 r2]) ∧ Drawn0 w w' := by
  have H : ((num_over.f (wrap64 (a0 + a1)) (decide ((Go.bits .and .i64 (Go.bits .xor .i64 a0 (wrap64 (a0 + a1))) (Go.bits .xor .i64 a1 (wrap64 (a0 + a1)))) < 0))).bind fun bt111 => (some (bt111.1, bt111.2))) = some (r1, r2) := h
  clear h
  replace H := Option.bind_eq_some_iff.mp H
  obtain ⟨⟨t111, t112⟩, A30, H⟩ := H
  replace H : (some (t111, t112)) = some (r1, r2) := H
  have A3 := Aside0.mk A30
  clear A30
  simp only [Option.some.injEq, Prod.mk.injEq] at H
  obtain ⟨rfl, rfl⟩ := H
  go_enter Try.func36, Try.ntmps36
  go_wp2_with (first | ((with_reducible refine gate_callee (f := 52) rfl ?_); refine goesL_ (some 19) rfl rfl Try.func52 (by kernel_rfl) rfl #[.int .i64 (wrap64 (a0 + a1)), .bool (decide ((Go.bits .and .i64 (Go.bits .xor .i64 a0 (wrap64 (a0 + a1))) (Go.bits .xor .i64 a1 (wrap64 (a0 + a1)))) < 0))] rfl (by (try simp only [List.map_toArray, List.map_cons, List.map_nil]); first | done | rfl | (simp only [List.length_drop, List.length_take]; rfl)) ?_; (with_reducible refine (num_over.calls (wrap64 (a0 + a1)) (decide ((Go.bits .and .i64 (Go.bits .xor .i64 a0 (wrap64 (a0 + a1))) (Go.bits .xor .i64 a1 (wrap64 (a0 + a1)))) < 0)) t111 t112 _ A3.out).mono ?_); rintro e w' ⟨rfl, ⟨nd, rfl⟩⟩; refine ⟨_, rfl, ?_⟩))
  go_ret2
  exact ⟨by first | rfl | (simp; done) | (simp [*]; done), by repeat (first | exact Drawn0.refl _ | apply Drawn0.step)⟩

/-! ### num_Sub: function 37 -/
def num_Sub.f (a0 : Int) (a1 : Int) : Option (Int × Int) := (num_over.f (wrap64 (a0 - a1)) (decide ((Go.bits .and .i64 (Go.bits .xor .i64 a0 a1) (Go.bits .xor .i64 a0 (wrap64 (a0 - a1)))) < 0))).bind fun bt113 => (some (bt113.1, bt113.2))
set_option maxHeartbeats 8000000 in
set_option maxRecDepth 100000 in
theorem num_Sub.calls (a0 : Int) (a1 : Int) (r1 : Int) (r2 : Int) (w : World) (h : num_Sub.f a0 a1 = some (r1, r2)) :
    Calls Try.prog 37 #[.int .i64 a0, .int .i64 a1] w fun e w' => e = .returned (.tuple #[.int .i64 r1, .int .i64 r2]) ∧ Drawn0 w w' := by
  have H : ((num_over.f (wrap64 (a0 - a1)) (decide ((Go.bits .and .i64 (Go.bits .xor .i64 a0 a1) (Go.bits .xor .i64 a0 (wrap64 (a0 - a1)))) < 0))).bind fun bt113 => (some (bt113.1, bt113.2))) = some (r1, r2) := h
  clear h
  replace H := Option.bind_eq_some_iff.mp H
  obtain ⟨⟨t113, t114⟩, A30, H⟩ := H
  replace H : (some (t113, t114)) = some (r1, r2) := H
  have A3 := Aside0.mk A30
  clear A30
  simp only [Option.some.injEq, Prod.mk.injEq] at H
  obtain ⟨rfl, rfl⟩ := H
  go_enter Try.func37, Try.ntmps37
  go_wp2_with (first | ((with_reducible refine gate_callee (f := 52) rfl ?_); refine goesL_ (some 19) rfl rfl Try.func52 (by kernel_rfl) rfl #[.int .i64 (wrap64 (a0 - a1)), .bool (decide ((Go.bits .and .i64 (Go.bits .xor .i64 a0 a1) (Go.bits .xor .i64 a0 (wrap64 (a0 - a1)))) < 0))] rfl (by (try simp only [List.map_toArray, List.map_cons, List.map_nil]); first | done | rfl | (simp only [List.length_drop, List.length_take]; rfl)) ?_; (with_reducible refine (num_over.calls (wrap64 (a0 - a1)) (decide ((Go.bits .and .i64 (Go.bits .xor .i64 a0 a1) (Go.bits .xor .i64 a0 (wrap64 (a0 - a1)))) < 0)) t113 t114 _ A3.out).mono ?_); rintro e w' ⟨rfl, ⟨nd, rfl⟩⟩; refine ⟨_, rfl, ?_⟩))
  go_ret2
  exact ⟨by first | rfl | (simp; done) | (simp [*]; done), by repeat (first | exact Drawn0.refl _ | apply Drawn0.step)⟩

/-! ### bits_Mul64: function 53 -/
def bits_Mul64.f (a0 : Int) (a1 : Int) : Option (Int × Int) := some (IntKind.u64.wrap ((IntKind.u64.wrap ((IntKind.u64.wrap ((a0 / 4294967296) * (a1 / 4294967296))) + ((IntKind.u64.wrap ((IntKind.u64.wrap ((a0 / 4294967296) * (Go.bits .and .u64 a1 4294967295))) + ((IntKind.u64.wrap ((Go.bits .and .u64 a0 4294967295) * (Go.bits .and .u64 a1 4294967295))) / 4294967296))) / 4294967296))) + ((IntKind.u64.wrap ((Go.bits .and .u64 (IntKind.u64.wrap ((IntKind.u64.wrap ((a0 / 4294967296) * (Go.bits .and .u64 a1 4294967295))) + ((IntKind.u64.wrap ((Go.bits .and .u64 a0 4294967295) * (Go.bits .and .u64 a1 4294967295))) / 4294967296))) 4294967295) + (IntKind.u64.wrap ((Go.bits .and .u64 a0 4294967295) * (a1 / 4294967296))))) / 4294967296)), IntKind.u64.wrap (a0 * a1))
set_option maxHeartbeats 8000000 in
set_option maxRecDepth 100000 in
theorem bits_Mul64.calls (a0 : Int) (a1 : Int) (r1 : Int) (r2 : Int) (w : World) (h : bits_Mul64.f a0 a1 = some (r1, r2)) :
    Calls Try.prog 53 #[.int .u64 a0, .int .u64 a1] w fun e w' => e = .returned (.tuple #[.int .u64 r1, .int .u64 r2]) ∧ Drawn0 w w' := by
  have H : (some (IntKind.u64.wrap ((IntKind.u64.wrap ((IntKind.u64.wrap ((a0 / 4294967296) * (a1 / 4294967296))) + ((IntKind.u64.wrap ((IntKind.u64.wrap ((a0 / 4294967296) * (Go.bits .and .u64 a1 4294967295))) + ((IntKind.u64.wrap ((Go.bits .and .u64 a0 4294967295) * (Go.bits .and .u64 a1 4294967295))) / 4294967296))) / 4294967296))) + ((IntKind.u64.wrap ((Go.bits .and .u64 (IntKind.u64.wrap ((IntKind.u64.wrap ((a0 / 4294967296) * (Go.bits .and .u64 a1 4294967295))) + ((IntKind.u64.wrap ((Go.bits .and .u64 a0 4294967295) * (Go.bits .and .u64 a1 4294967295))) / 4294967296))) 4294967295) + (IntKind.u64.wrap ((Go.bits .and .u64 a0 4294967295) * (a1 / 4294967296))))) / 4294967296)), IntKind.u64.wrap (a0 * a1))) = some (r1, r2) := h
  clear h
  simp only [Option.some.injEq, Prod.mk.injEq] at H
  obtain ⟨rfl, rfl⟩ := H
  go_enter Try.func53, Try.ntmps53
  go_wp2
  go_ret2
  exact ⟨by first | rfl | (simp; done) | (simp [*]; done), by repeat (first | exact Drawn0.refl _ | apply Drawn0.step)⟩

/-! ### num_size: function 54 -/
def num_size.f (a0 : Int) : Option (Int) := if a0 < 0 then (some (IntKind.u64.wrap (-(IntKind.u64.wrap (a0))))) else (some (IntKind.u64.wrap (a0)))
set_option maxHeartbeats 8000000 in
set_option maxRecDepth 100000 in
theorem num_size.calls (a0 : Int) (r : Int) (w : World) (h : num_size.f a0 = some r) :
    Calls Try.prog 54 #[.int .i64 a0] w fun e w' => e = .returned (.int .u64 r) ∧ Drawn0 w w' := by
  have H : (if a0 < 0 then (some (IntKind.u64.wrap (-(IntKind.u64.wrap (a0))))) else (some (IntKind.u64.wrap (a0)))) = some r := h
  clear h
  by_cases c2 : a0 < 0
  · rw [if_pos c2] at H
    have c2b0 : decide (a0 < 0) = true := decide_eq_true c2
    clear c2
    obtain rfl := Option.some.inj H
    go_enter Try.func54, Try.ntmps54
    go_wp2
    go_ret
    exact ⟨by first | rfl | (simp; done) | (simp [*]; done), by repeat (first | exact Drawn0.refl _ | apply Drawn0.step)⟩
  · rw [if_neg c2] at H
    have c2b0 : decide (a0 < 0) = false := decide_eq_false c2
    clear c2
    obtain rfl := Option.some.inj H
    go_enter Try.func54, Try.ntmps54
    go_wp2
    go_ret
    exact ⟨by first | rfl | (simp; done) | (simp [*]; done), by repeat (first | exact Drawn0.refl _ | apply Drawn0.step)⟩

/-! ### num_Mul: function 38 -/
def num_Mul.f (a0 : Int) (a1 : Int) : Option (Int × Int) := (num_size.f a0).bind fun t115 => ((num_size.f a1).bind fun t116 => ((bits_Mul64.f t115 t116).bind fun bt117 => (if ((decide (a0 < 0)) != (decide (a1 < 0))) = true then (if bt117.1 > 0 then ((num_over.f (wrap64 (a0 * a1)) true).bind fun bt119 => (some (bt119.1, bt119.2))) else ((num_over.f (wrap64 (a0 * a1)) (decide (bt117.2 > (9223372036854775807 + 1)))).bind fun bt121 => (some (bt121.1, bt121.2)))) else (if bt117.1 > 0 then ((num_over.f (wrap64 (a0 * a1)) true).bind fun bt123 => (some (bt123.1, bt123.2))) else ((num_over.f (wrap64 (a0 * a1)) (decide (bt117.2 > 9223372036854775807))).bind fun bt125 => (some (bt125.1, bt125.2)))))))
set_option maxHeartbeats 8000000 in
set_option maxRecDepth 100000 in
theorem num_Mul.calls (a0 : Int) (a1 : Int) (r1 : Int) (r2 : Int) (w : World) (h : num_Mul.f a0 a1 = some (r1, r2)) :
    Calls Try.prog 38 #[.int .i64 a0, .int .i64 a1] w fun e w' => e = .returned (.tuple #[.int .i64 r1, .int .i64 r2]) ∧ Drawn0 w w' := by
  have H : ((num_size.f a0).bind fun t115 => ((num_size.f a1).bind fun t116 => ((bits_Mul64.f t115 t116).bind fun bt117 => (if ((decide (a0 < 0)) != (decide (a1 < 0))) = true then (if bt117.1 > 0 then ((num_over.f (wrap64 (a0 * a1)) true).bind fun bt119 => (some (bt119.1, bt119.2))) else ((num_over.f (wrap64 (a0 * a1)) (decide (bt117.2 > (9223372036854775807 + 1)))).bind fun bt121 => (some (bt121.1, bt121.2)))) else (if bt117.1 > 0 then ((num_over.f (wrap64 (a0 * a1)) true).bind fun bt123 => (some (bt123.1, bt123.2))) else ((num_over.f (wrap64 (a0 * a1)) (decide (bt117.2 > 9223372036854775807))).bind fun bt125 => (some (bt125.1, bt125.2)))))))) = some (r1, r2) := h
  clear h
  replace H := Option.bind_eq_some_iff.mp H
  obtain ⟨t115, A30, H⟩ := H
  replace H : ((num_size.f a1).bind fun t116 => ((bits_Mul64.f t115 t116).bind fun bt117 => (if ((decide (a0 < 0)) != (decide (a1 < 0))) = true then (if bt117.1 > 0 then ((num_over.f (wrap64 (a0 * a1)) true).bind fun bt119 => (some (bt119.1, bt119.2))) else ((num_over.f (wrap64 (a0 * a1)) (decide (bt117.2 > (9223372036854775807 + 1)))).bind fun bt121 => (some (bt121.1, bt121.2)))) else (if bt117.1 > 0 then ((num_over.f (wrap64 (a0 * a1)) true).bind fun bt123 => (some (bt123.1, bt123.2))) else ((num_over.f (wrap64 (a0 * a1)) (decide (bt117.2 > 9223372036854775807))).bind fun bt125 => (some (bt125.1, bt125.2))))))) = some (r1, r2) := H
  have A3 := Aside0.mk A30
  clear A30
  replace H := Option.bind_eq_some_iff.mp H
  obtain ⟨t116, A40, H⟩ := H
  replace H : ((bits_Mul64.f t115 t116).bind fun bt117 => (if ((decide (a0 < 0)) != (decide (a1 < 0))) = true then (if bt117.1 > 0 then ((num_over.f (wrap64 (a0 * a1)) true).bind fun bt119 => (some (bt119.1, bt119.2))) else ((num_over.f (wrap64 (a0 * a1)) (decide (bt117.2 > (9223372036854775807 + 1)))).bind fun bt121 => (some (bt121.1, bt121.2)))) else (if bt117.1 > 0 then ((num_over.f (wrap64 (a0 * a1)) true).bind fun bt123 => (some (bt123.1, bt123.2))) else ((num_over.f (wrap64 (a0 * a1)) (decide (bt117.2 > 9223372036854775807))).bind fun bt125 => (some (bt125.1, bt125.2)))))) = some (r1, r2) := H
  have A4 := Aside0.mk A40
  clear A40
  replace H := Option.bind_eq_some_iff.mp H
  obtain ⟨⟨t117, t118⟩, A50, H⟩ := H
  replace H : (if ((decide (a0 < 0)) != (decide (a1 < 0))) = true then (if t117 > 0 then ((num_over.f (wrap64 (a0 * a1)) true).bind fun bt119 => (some (bt119.1, bt119.2))) else ((num_over.f (wrap64 (a0 * a1)) (decide (t118 > (9223372036854775807 + 1)))).bind fun bt121 => (some (bt121.1, bt121.2)))) else (if t117 > 0 then ((num_over.f (wrap64 (a0 * a1)) true).bind fun bt123 => (some (bt123.1, bt123.2))) else ((num_over.f (wrap64 (a0 * a1)) (decide (t118 > 9223372036854775807))).bind fun bt125 => (some (bt125.1, bt125.2))))) = some (r1, r2) := H
  have A5 := Aside0.mk A50
  clear A50
  by_cases c6 : ((decide (a0 < 0)) != (decide (a1 < 0))) = true
  · rw [if_pos c6] at H
    have c6b0 : ((decide (a0 < 0)) != (decide (a1 < 0))) = true := c6
    (try (have c6b1 : decide ((decide (a0 < 0)) = (decide (a1 < 0))) = false := by simpa using c6))
    (try (have c6b2 : ((decide (a0 < 0)) == (decide (a1 < 0))) = false := by simpa using c6))
    (try (have c6b3 : ¬ ((decide (a0 < 0)) = (decide (a1 < 0))) := by simpa using c6))
    clear c6
    by_cases c7 : t117 > 0
    · rw [if_pos c7] at H
      have c7b0 : decide (0 < t117) = true := decide_eq_true c7
      clear c7
      replace H := Option.bind_eq_some_iff.mp H
      obtain ⟨⟨t119, t120⟩, A80, H⟩ := H
      replace H : (some (t119, t120)) = some (r1, r2) := H
      have A8 := Aside0.mk A80
      clear A80
      simp only [Option.some.injEq, Prod.mk.injEq] at H
      obtain ⟨rfl, rfl⟩ := H
      go_enter Try.func38, Try.ntmps38
      go_wp2_with (first | ((with_reducible refine gate_callee (f := 54) rfl ?_); refine goesL_ (some 11) rfl rfl Try.func54 (by kernel_rfl) rfl #[.int .i64 a0] rfl (by (try simp only [List.map_toArray, List.map_cons, List.map_nil]); first | done | rfl | (simp only [List.length_drop, List.length_take]; rfl)) ?_; (with_reducible refine (num_size.calls a0 t115 _ A3.out).mono ?_); rintro e w' ⟨rfl, ⟨nd, rfl⟩⟩; refine ⟨_, rfl, ?_⟩) | ((with_reducible refine gate_callee (f := 54) rfl ?_); refine goesL_ (some 13) rfl rfl Try.func54 (by kernel_rfl) rfl #[.int .i64 a1] rfl (by (try simp only [List.map_toArray, List.map_cons, List.map_nil]); first | done | rfl | (simp only [List.length_drop, List.length_take]; rfl)) ?_; (with_reducible refine (num_size.calls a1 t116 _ A4.out).mono ?_); rintro e w' ⟨rfl, ⟨nd, rfl⟩⟩; refine ⟨_, rfl, ?_⟩) | ((with_reducible refine gate_callee (f := 53) rfl ?_); refine goesL_ (some 14) rfl rfl Try.func53 (by kernel_rfl) rfl #[.int .u64 t115, .int .u64 t116] rfl (by (try simp only [List.map_toArray, List.map_cons, List.map_nil]); first | done | rfl | (simp only [List.length_drop, List.length_take]; rfl)) ?_; (with_reducible refine (bits_Mul64.calls t115 t116 t117 t118 _ A5.out).mono ?_); rintro e w' ⟨rfl, ⟨nd, rfl⟩⟩; refine ⟨_, rfl, ?_⟩) | ((with_reducible refine gate_callee (f := 52) rfl ?_); refine goesL_ (some 34) rfl rfl Try.func52 (by kernel_rfl) rfl #[.int .i64 (wrap64 (a0 * a1)), .bool true] rfl (by (try simp only [List.map_toArray, List.map_cons, List.map_nil]); first | done | rfl | (simp only [List.length_drop, List.length_take]; rfl)) ?_; (with_reducible refine (num_over.calls (wrap64 (a0 * a1)) true t119 t120 _ A8.out).mono ?_); rintro e w' ⟨rfl, ⟨nd, rfl⟩⟩; refine ⟨_, rfl, ?_⟩))
      go_ret2
      exact ⟨by first | rfl | (simp; done) | (simp [*]; done), by repeat (first | exact Drawn0.refl _ | apply Drawn0.step)⟩
    · rw [if_neg c7] at H
      have c7b0 : decide (0 < t117) = false := decide_eq_false c7
      clear c7
      replace H := Option.bind_eq_some_iff.mp H
      obtain ⟨⟨t121, t122⟩, A90, H⟩ := H
      replace H : (some (t121, t122)) = some (r1, r2) := H
      have A9 := Aside0.mk A90
      clear A90
      simp only [Option.some.injEq, Prod.mk.injEq] at H
      obtain ⟨rfl, rfl⟩ := H
      go_enter Try.func38, Try.ntmps38
      go_wp2_with (first | ((with_reducible refine gate_callee (f := 54) rfl ?_); refine goesL_ (some 11) rfl rfl Try.func54 (by kernel_rfl) rfl #[.int .i64 a0] rfl (by (try simp only [List.map_toArray, List.map_cons, List.map_nil]); first | done | rfl | (simp only [List.length_drop, List.length_take]; rfl)) ?_; (with_reducible refine (num_size.calls a0 t115 _ A3.out).mono ?_); rintro e w' ⟨rfl, ⟨nd, rfl⟩⟩; refine ⟨_, rfl, ?_⟩) | ((with_reducible refine gate_callee (f := 54) rfl ?_); refine goesL_ (some 13) rfl rfl Try.func54 (by kernel_rfl) rfl #[.int .i64 a1] rfl (by (try simp only [List.map_toArray, List.map_cons, List.map_nil]); first | done | rfl | (simp only [List.length_drop, List.length_take]; rfl)) ?_; (with_reducible refine (num_size.calls a1 t116 _ A4.out).mono ?_); rintro e w' ⟨rfl, ⟨nd, rfl⟩⟩; refine ⟨_, rfl, ?_⟩) | ((with_reducible refine gate_callee (f := 53) rfl ?_); refine goesL_ (some 14) rfl rfl Try.func53 (by kernel_rfl) rfl #[.int .u64 t115, .int .u64 t116] rfl (by (try simp only [List.map_toArray, List.map_cons, List.map_nil]); first | done | rfl | (simp only [List.length_drop, List.length_take]; rfl)) ?_; (with_reducible refine (bits_Mul64.calls t115 t116 t117 t118 _ A5.out).mono ?_); rintro e w' ⟨rfl, ⟨nd, rfl⟩⟩; refine ⟨_, rfl, ?_⟩) | ((with_reducible refine gate_callee (f := 52) rfl ?_); refine goesL_ (some 34) rfl rfl Try.func52 (by kernel_rfl) rfl #[.int .i64 (wrap64 (a0 * a1)), .bool (decide (t118 > (9223372036854775807 + 1)))] rfl (by (try simp only [List.map_toArray, List.map_cons, List.map_nil]); first | done | rfl | (simp only [List.length_drop, List.length_take]; rfl)) ?_; (with_reducible refine (num_over.calls (wrap64 (a0 * a1)) (decide (t118 > (9223372036854775807 + 1))) t121 t122 _ A9.out).mono ?_); rintro e w' ⟨rfl, ⟨nd, rfl⟩⟩; refine ⟨_, rfl, ?_⟩))
      go_ret2
      exact ⟨by first | rfl | (simp; done) | (simp [*]; done), by repeat (first | exact Drawn0.refl _ | apply Drawn0.step)⟩
  · rw [if_neg c6] at H
    have c6b0 : ((decide (a0 < 0)) != (decide (a1 < 0))) = false := by simpa using c6
    (try (have c6b1 : decide ((decide (a0 < 0)) = (decide (a1 < 0))) = true := by simpa using c6))
    (try (have c6b2 : ((decide (a0 < 0)) == (decide (a1 < 0))) = true := by simpa using c6))
    clear c6
    by_cases c10 : t117 > 0
    · rw [if_pos c10] at H
      have c10b0 : decide (0 < t117) = true := decide_eq_true c10
      clear c10
      replace H := Option.bind_eq_some_iff.mp H
      obtain ⟨⟨t123, t124⟩, A110, H⟩ := H
      replace H : (some (t123, t124)) = some (r1, r2) := H
      have A11 := Aside0.mk A110
      clear A110
      simp only [Option.some.injEq, Prod.mk.injEq] at H
      obtain ⟨rfl, rfl⟩ := H
      go_enter Try.func38, Try.ntmps38
      go_wp2_with (first | ((with_reducible refine gate_callee (f := 54) rfl ?_); refine goesL_ (some 11) rfl rfl Try.func54 (by kernel_rfl) rfl #[.int .i64 a0] rfl (by (try simp only [List.map_toArray, List.map_cons, List.map_nil]); first | done | rfl | (simp only [List.length_drop, List.length_take]; rfl)) ?_; (with_reducible refine (num_size.calls a0 t115 _ A3.out).mono ?_); rintro e w' ⟨rfl, ⟨nd, rfl⟩⟩; refine ⟨_, rfl, ?_⟩) | ((with_reducible refine gate_callee (f := 54) rfl ?_); refine goesL_ (some 13) rfl rfl Try.func54 (by kernel_rfl) rfl #[.int .i64 a1] rfl (by (try simp only [List.map_toArray, List.map_cons, List.map_nil]); first | done | rfl | (simp only [List.length_drop, List.length_take]; rfl)) ?_; (with_reducible refine (num_size.calls a1 t116 _ A4.out).mono ?_); rintro e w' ⟨rfl, ⟨nd, rfl⟩⟩; refine ⟨_, rfl, ?_⟩) | ((with_reducible refine gate_callee (f := 53) rfl ?_); refine goesL_ (some 14) rfl rfl Try.func53 (by kernel_rfl) rfl #[.int .u64 t115, .int .u64 t116] rfl (by (try simp only [List.map_toArray, List.map_cons, List.map_nil]); first | done | rfl | (simp only [List.length_drop, List.length_take]; rfl)) ?_; (with_reducible refine (bits_Mul64.calls t115 t116 t117 t118 _ A5.out).mono ?_); rintro e w' ⟨rfl, ⟨nd, rfl⟩⟩; refine ⟨_, rfl, ?_⟩) | ((with_reducible refine gate_callee (f := 52) rfl ?_); refine goesL_ (some 34) rfl rfl Try.func52 (by kernel_rfl) rfl #[.int .i64 (wrap64 (a0 * a1)), .bool true] rfl (by (try simp only [List.map_toArray, List.map_cons, List.map_nil]); first | done | rfl | (simp only [List.length_drop, List.length_take]; rfl)) ?_; (with_reducible refine (num_over.calls (wrap64 (a0 * a1)) true t123 t124 _ A11.out).mono ?_); rintro e w' ⟨rfl, ⟨nd, rfl⟩⟩; refine ⟨_, rfl, ?_⟩))
      go_ret2
      exact ⟨by first | rfl | (simp; done) | (simp [*]; done), by repeat (first | exact Drawn0.refl _ | apply Drawn0.step)⟩
    · rw [if_neg c10] at H
      have c10b0 : decide (0 < t117) = false := decide_eq_false c10
      clear c10
      replace H := Option.bind_eq_some_iff.mp H
      obtain ⟨⟨t125, t126⟩, A120, H⟩ := H
      replace H : (some (t125, t126)) = some (r1, r2) := H
      have A12 := Aside0.mk A120
      clear A120
      simp only [Option.some.injEq, Prod.mk.injEq] at H
      obtain ⟨rfl, rfl⟩ := H
      go_enter Try.func38, Try.ntmps38
      go_wp2_with (first | ((with_reducible refine gate_callee (f := 54) rfl ?_); refine goesL_ (some 11) rfl rfl Try.func54 (by kernel_rfl) rfl #[.int .i64 a0] rfl (by (try simp only [List.map_toArray, List.map_cons, List.map_nil]); first | done | rfl | (simp only [List.length_drop, List.length_take]; rfl)) ?_; (with_reducible refine (num_size.calls a0 t115 _ A3.out).mono ?_); rintro e w' ⟨rfl, ⟨nd, rfl⟩⟩; refine ⟨_, rfl, ?_⟩) | ((with_reducible refine gate_callee (f := 54) rfl ?_); refine goesL_ (some 13) rfl rfl Try.func54 (by kernel_rfl) rfl #[.int .i64 a1] rfl (by (try simp only [List.map_toArray, List.map_cons, List.map_nil]); first | done | rfl | (simp only [List.length_drop, List.length_take]; rfl)) ?_; (with_reducible refine (num_size.calls a1 t116 _ A4.out).mono ?_); rintro e w' ⟨rfl, ⟨nd, rfl⟩⟩; refine ⟨_, rfl, ?_⟩) | ((with_reducible refine gate_callee (f := 53) rfl ?_); refine goesL_ (some 14) rfl rfl Try.func53 (by kernel_rfl) rfl #[.int .u64 t115, .int .u64 t116] rfl (by (try simp only [List.map_toArray, List.map_cons, List.map_nil]); first | done | rfl | (simp only [List.length_drop, List.length_take]; rfl)) ?_; (with_reducible refine (bits_Mul64.calls t115 t116 t117 t118 _ A5.out).mono ?_); rintro e w' ⟨rfl, ⟨nd, rfl⟩⟩; refine ⟨_, rfl, ?_⟩) | ((with_reducible refine gate_callee (f := 52) rfl ?_); refine goesL_ (some 34) rfl rfl Try.func52 (by kernel_rfl) rfl #[.int .i64 (wrap64 (a0 * a1)), .bool (decide (t118 > 9223372036854775807))] rfl (by (try simp only [List.map_toArray, List.map_cons, List.map_nil]); first | done | rfl | (simp only [List.length_drop, List.length_take]; rfl)) ?_; (with_reducible refine (num_over.calls (wrap64 (a0 * a1)) (decide (t118 > 9223372036854775807)) t125 t126 _ A12.out).mono ?_); rintro e w' ⟨rfl, ⟨nd, rfl⟩⟩; refine ⟨_, rfl, ?_⟩))
      go_ret2
      exact ⟨by first | rfl | (simp; done) | (simp [*]; done), by repeat (first | exact Drawn0.refl _ | apply Drawn0.step)⟩

/-! ### num_Neg: function 42 -/
def num_Neg.f (a0 : Int) : Option (Int × Int) := (num_over.f (wrap64 (-a0)) (a0 == (-9223372036854775808))).bind fun bt127 => (some (bt127.1, bt127.2))
set_option maxHeartbeats 8000000 in
set_option maxRecDepth 100000 in
theorem num_Neg.calls (a0 : Int) (r1 : Int) (r2 : Int) (w : World) (h : num_Neg.f a0 = some (r1, r2)) :
    Calls Try.prog 42 #[.int .i64 a0] w fun e w' => e = .returned (.tuple #[.int .i64 r1, .int .i64 r2]) ∧ Drawn0 w w' := by
  have H : ((num_over.f (wrap64 (-a0)) (a0 == (-9223372036854775808))).bind fun bt127 => (some (bt127.1, bt127.2))) = some (r1, r2) := h
  clear h
  replace H := Option.bind_eq_some_iff.mp H
  obtain ⟨⟨t127, t128⟩, A20, H⟩ := H
  replace H : (some (t127, t128)) = some (r1, r2) := H
  have A2 := Aside0.mk A20
  clear A20
  simp only [Option.some.injEq, Prod.mk.injEq] at H
  obtain ⟨rfl, rfl⟩ := H
  go_enter Try.func42, Try.ntmps42
  go_wp2_with (first | ((with_reducible refine gate_callee (f := 52) rfl ?_); refine goesL_ (some 8) rfl rfl Try.func52 (by kernel_rfl) rfl #[.int .i64 (wrap64 (-a0)), .bool (a0 == (-9223372036854775808))] rfl (by (try simp only [List.map_toArray, List.map_cons, List.map_nil]); first | done | rfl | (simp only [List.length_drop, List.length_take]; rfl)) ?_; (with_reducible refine (num_over.calls (wrap64 (-a0)) (a0 == (-9223372036854775808)) t127 t128 _ A2.out).mono ?_); rintro e w' ⟨rfl, ⟨nd, rfl⟩⟩; refine ⟨_, rfl, ?_⟩))
  go_ret2
  exact ⟨by first | rfl | (simp; done) | (simp [*]; done), by repeat (first | exact Drawn0.refl _ | apply Drawn0.step)⟩

/-! ### num_Quo: function 39 -/
def num_Quo.f (a0 : Int) (a1 : Int) : Option (Int × Int) := if a1 = 0 then (some (0, 11)) else (if a1 = (-1) then ((num_Neg.f a0).bind fun bt129 => (some (bt129.1, bt129.2))) else (some (wrap64 (Int.tdiv a0 a1), 0)))
set_option maxHeartbeats 8000000 in
set_option maxRecDepth 100000 in
theorem num_Quo.calls (a0 : Int) (a1 : Int) (r1 : Int) (r2 : Int) (w : World) (h : num_Quo.f a0 a1 = some (r1, r2)) :
    Calls Try.prog 39 #[.int .i64 a0, .int .i64 a1] w fun e w' => e = .returned (.tuple #[.int .i64 r1, .int .i64 r2]) ∧ Drawn0 w w' := by
  have H : (if a1 = 0 then (some (0, 11)) else (if a1 = (-1) then ((num_Neg.f a0).bind fun bt129 => (some (bt129.1, bt129.2))) else (some (wrap64 (Int.tdiv a0 a1), 0)))) = some (r1, r2) := h
  clear h
  by_cases c3 : a1 = 0
  · rw [if_pos c3] at H
    have c3b0 : (a1 == 0) = true := beq_iff_eq.mpr c3
    have c3b1 : (a1 != 0) = false := bne_eq_false_iff_eq.mpr c3
    clear c3
    simp only [Option.some.injEq, Prod.mk.injEq] at H
    obtain ⟨rfl, rfl⟩ := H
    go_enter Try.func39, Try.ntmps39
    go_wp2
    go_ret2
    exact ⟨by first | rfl | (simp; done) | (simp [*]; done), by repeat (first | exact Drawn0.refl _ | apply Drawn0.step)⟩
  · rw [if_neg c3] at H
    have c3b0 : (a1 == 0) = false := beq_eq_false_iff_ne.mpr c3
    have c3b1 : (a1 != 0) = true := bne_iff_ne.mpr c3
    by_cases c4 : a1 = (-1)
    · rw [if_pos c4] at H
      have c4b0 : (a1 == (-1)) = true := beq_iff_eq.mpr c4
      have c4b1 : (a1 != (-1)) = false := bne_eq_false_iff_eq.mpr c4
      clear c4
      replace H := Option.bind_eq_some_iff.mp H
      obtain ⟨⟨t129, t130⟩, A50, H⟩ := H
      replace H : (some (t129, t130)) = some (r1, r2) := H
      have A5 := Aside0.mk A50
      clear A50
      simp only [Option.some.injEq, Prod.mk.injEq] at H
      obtain ⟨rfl, rfl⟩ := H
      go_enter Try.func39, Try.ntmps39
      go_wp2_with (first | ((with_reducible refine gate_callee (f := 42) rfl ?_); refine goesL_ (some 11) rfl rfl Try.func42 (by kernel_rfl) rfl #[.int .i64 a0] rfl (by (try simp only [List.map_toArray, List.map_cons, List.map_nil]); first | done | rfl | (simp only [List.length_drop, List.length_take]; rfl)) ?_; (with_reducible refine (num_Neg.calls a0 t129 t130 _ A5.out).mono ?_); rintro e w' ⟨rfl, ⟨nd, rfl⟩⟩; refine ⟨_, rfl, ?_⟩))
      go_ret2
      exact ⟨by first | rfl | (simp; done) | (simp [*]; done), by repeat (first | exact Drawn0.refl _ | apply Drawn0.step)⟩
    · rw [if_neg c4] at H
      have c4b0 : (a1 == (-1)) = false := beq_eq_false_iff_ne.mpr c4
      have c4b1 : (a1 != (-1)) = true := bne_iff_ne.mpr c4
      simp only [Option.some.injEq, Prod.mk.injEq] at H
      obtain ⟨rfl, rfl⟩ := H
      go_enter Try.func39, Try.ntmps39
      go_wp2
      go_ret2
      exact ⟨by first | rfl | (simp; done) | (simp [*]; done), by repeat (first | exact Drawn0.refl _ | apply Drawn0.step)⟩

/-! ### num_Rem: function 40 -/
def num_Rem.f (a0 : Int) (a1 : Int) : Option (Int × Int) := if a1 = 0 then (some (0, 11)) else (if a1 = (-1) then (some (0, 0)) else (some (Int.tmod a0 a1, 0)))
set_option maxHeartbeats 8000000 in
set_option maxRecDepth 100000 in
theorem num_Rem.calls (a0 : Int) (a1 : Int) (r1 : Int) (r2 : Int) (w : World) (h : num_Rem.f a0 a1 = some (r1, r2)) :
    Calls Try.prog 40 #[.int .i64 a0, .int .i64 a1] w fun e w' => e = .returned (.tuple #[.int .i64 r1, .int .i64 r2]) ∧ Drawn0 w w' := by
  have H : (if a1 = 0 then (some (0, 11)) else (if a1 = (-1) then (some (0, 0)) else (some (Int.tmod a0 a1, 0)))) = some (r1, r2) := h
  clear h
  by_cases c3 : a1 = 0
  · rw [if_pos c3] at H
    have c3b0 : (a1 == 0) = true := beq_iff_eq.mpr c3
    have c3b1 : (a1 != 0) = false := bne_eq_false_iff_eq.mpr c3
    clear c3
    simp only [Option.some.injEq, Prod.mk.injEq] at H
    obtain ⟨rfl, rfl⟩ := H
    go_enter Try.func40, Try.ntmps40
    go_wp2
    go_ret2
    exact ⟨by first | rfl | (simp; done) | (simp [*]; done), by repeat (first | exact Drawn0.refl _ | apply Drawn0.step)⟩
  · rw [if_neg c3] at H
    have c3b0 : (a1 == 0) = false := beq_eq_false_iff_ne.mpr c3
    have c3b1 : (a1 != 0) = true := bne_iff_ne.mpr c3
    by_cases c4 : a1 = (-1)
    · rw [if_pos c4] at H
      have c4b0 : (a1 == (-1)) = true := beq_iff_eq.mpr c4
      have c4b1 : (a1 != (-1)) = false := bne_eq_false_iff_eq.mpr c4
      clear c4
      simp only [Option.some.injEq, Prod.mk.injEq] at H
      obtain ⟨rfl, rfl⟩ := H
      go_enter Try.func40, Try.ntmps40
      go_wp2
      go_ret2
      exact ⟨by first | rfl | (simp; done) | (simp [*]; done), by repeat (first | exact Drawn0.refl _ | apply Drawn0.step)⟩
    · rw [if_neg c4] at H
      have c4b0 : (a1 == (-1)) = false := beq_eq_false_iff_ne.mpr c4
      have c4b1 : (a1 != (-1)) = true := bne_iff_ne.mpr c4
      simp only [Option.some.injEq, Prod.mk.injEq] at H
      obtain ⟨rfl, rfl⟩ := H
      go_enter Try.func40, Try.ntmps40
      go_wp2
      go_ret2
      exact ⟨by first | rfl | (simp; done) | (simp [*]; done), by repeat (first | exact Drawn0.refl _ | apply Drawn0.step)⟩

/-! ### num_Mod: function 41 -/
def num_Mod.f (a0 : Int) (a1 : Int) : Option (Int × Int) := (num_Rem.f a0 a1).bind fun bt131 => (if (Go.bits .xor .i64 bt131.1 a1) < 0 then (if bt131.1 = 0 then (some (bt131.1, bt131.2)) else (some (wrap64 (bt131.1 + a1), bt131.2))) else (some (bt131.1, bt131.2)))
set_option maxHeartbeats 8000000 in
set_option maxRecDepth 100000 in
theorem num_Mod.calls (a0 : Int) (a1 : Int) (r1 : Int) (r2 : Int) (w : World) (h : num_Mod.f a0 a1 = some (r1, r2)) :
    Calls Try.prog 41 #[.int .i64 a0, .int .i64 a1] w fun e w' => e = .returned (.tuple #[.int .i64 r1, .int .i64 r2]) ∧ Drawn0 w w' := by
  have H : ((num_Rem.f a0 a1).bind fun bt131 => (if (Go.bits .xor .i64 bt131.1 a1) < 0 then (if bt131.1 = 0 then (some (bt131.1, bt131.2)) else (some (wrap64 (bt131.1 + a1), bt131.2))) else (some (bt131.1, bt131.2)))) = some (r1, r2) := h
  clear h
  replace H := Option.bind_eq_some_iff.mp H
  obtain ⟨⟨t131, t132⟩, A30, H⟩ := H
  replace H : (if (Go.bits .xor .i64 t131 a1) < 0 then (if t131 = 0 then (some (t131, t132)) else (some (wrap64 (t131 + a1), t132))) else (some (t131, t132))) = some (r1, r2) := H
  have A3 := Aside0.mk A30
  clear A30
  by_cases c4 : (Go.bits .xor .i64 t131 a1) < 0
  · rw [if_pos c4] at H
    have c4b0 : decide ((Go.bits .xor .i64 t131 a1) < 0) = true := decide_eq_true c4
    clear c4
    by_cases c5 : t131 = 0
    · rw [if_pos c5] at H
      have c5b0 : (t131 == 0) = true := beq_iff_eq.mpr c5
      have c5b1 : (t131 != 0) = false := bne_eq_false_iff_eq.mpr c5
      clear c5
      simp only [Option.some.injEq, Prod.mk.injEq] at H
      obtain ⟨rfl, rfl⟩ := H
      go_enter Try.func41, Try.ntmps41
      go_wp2_with (first | ((with_reducible refine gate_callee (f := 40) rfl ?_); refine goesL_ (some 11) rfl rfl Try.func40 (by kernel_rfl) rfl #[.int .i64 a0, .int .i64 a1] rfl (by (try simp only [List.map_toArray, List.map_cons, List.map_nil]); first | done | rfl | (simp only [List.length_drop, List.length_take]; rfl)) ?_; (with_reducible refine (num_Rem.calls a0 a1 t131 t132 _ A3.out).mono ?_); rintro e w' ⟨rfl, ⟨nd, rfl⟩⟩; refine ⟨_, rfl, ?_⟩))
      go_ret2
      exact ⟨by first | rfl | (simp; done) | (simp [*]; done), by repeat (first | exact Drawn0.refl _ | apply Drawn0.step)⟩
    · rw [if_neg c5] at H
      have c5b0 : (t131 == 0) = false := beq_eq_false_iff_ne.mpr c5
      have c5b1 : (t131 != 0) = true := bne_iff_ne.mpr c5
      simp only [Option.some.injEq, Prod.mk.injEq] at H
      obtain ⟨rfl, rfl⟩ := H
      go_enter Try.func41, Try.ntmps41
      go_wp2_with (first | ((with_reducible refine gate_callee (f := 40) rfl ?_); refine goesL_ (some 11) rfl rfl Try.func40 (by kernel_rfl) rfl #[.int .i64 a0, .int .i64 a1] rfl (by (try simp only [List.map_toArray, List.map_cons, List.map_nil]); first | done | rfl | (simp only [List.length_drop, List.length_take]; rfl)) ?_; (with_reducible refine (num_Rem.calls a0 a1 t131 t132 _ A3.out).mono ?_); rintro e w' ⟨rfl, ⟨nd, rfl⟩⟩; refine ⟨_, rfl, ?_⟩))
      go_ret2
      exact ⟨by first | rfl | (simp; done) | (simp [*]; done), by repeat (first | exact Drawn0.refl _ | apply Drawn0.step)⟩
  · rw [if_neg c4] at H
    have c4b0 : decide ((Go.bits .xor .i64 t131 a1) < 0) = false := decide_eq_false c4
    clear c4
    simp only [Option.some.injEq, Prod.mk.injEq] at H
    obtain ⟨rfl, rfl⟩ := H
    go_enter Try.func41, Try.ntmps41
    go_wp2_with (first | ((with_reducible refine gate_callee (f := 40) rfl ?_); refine goesL_ (some 11) rfl rfl Try.func40 (by kernel_rfl) rfl #[.int .i64 a0, .int .i64 a1] rfl (by (try simp only [List.map_toArray, List.map_cons, List.map_nil]); first | done | rfl | (simp only [List.length_drop, List.length_take]; rfl)) ?_; (with_reducible refine (num_Rem.calls a0 a1 t131 t132 _ A3.out).mono ?_); rintro e w' ⟨rfl, ⟨nd, rfl⟩⟩; refine ⟨_, rfl, ?_⟩))
    go_ret2
    exact ⟨by first | rfl | (simp; done) | (simp [*]; done), by repeat (first | exact Drawn0.refl _ | apply Drawn0.step)⟩

-- NOT PRINTED: function 28 (arith_binary)

/-! ### num_Abs: function 43 -/
def num_Abs.f (a0 : Int) : Option (Int × Int) := if a0 < 0 then ((num_Neg.f a0).bind fun bt133 => (some (bt133.1, bt133.2))) else (some (a0, 0))
set_option maxHeartbeats 8000000 in
set_option maxRecDepth 100000 in
theorem num_Abs.calls (a0 : Int) (r1 : Int) (r2 : Int) (w : World) (h : num_Abs.f a0 = some (r1, r2)) :
    Calls Try.prog 43 #[.int .i64 a0] w fun e w' => e = .returned (.tuple #[.int .i64 r1, .int .i64 r2]) ∧ Drawn0 w w' := by
  have H : (if a0 < 0 then ((num_Neg.f a0).bind fun bt133 => (some (bt133.1, bt133.2))) else (some (a0, 0))) = some (r1, r2) := h
  clear h
  by_cases c2 : a0 < 0
  · rw [if_pos c2] at H
    have c2b0 : decide (a0 < 0) = true := decide_eq_true c2
    clear c2
    replace H := Option.bind_eq_some_iff.mp H
    obtain ⟨⟨t133, t134⟩, A30, H⟩ := H
    replace H : (some (t133, t134)) = some (r1, r2) := H
    have A3 := Aside0.mk A30
    clear A30
    simp only [Option.some.injEq, Prod.mk.injEq] at H
    obtain ⟨rfl, rfl⟩ := H
    go_enter Try.func43, Try.ntmps43
    go_wp2_with (first | ((with_reducible refine gate_callee (f := 42) rfl ?_); refine goesL_ (some 7) rfl rfl Try.func42 (by kernel_rfl) rfl #[.int .i64 a0] rfl (by (try simp only [List.map_toArray, List.map_cons, List.map_nil]); first | done | rfl | (simp only [List.length_drop, List.length_take]; rfl)) ?_; (with_reducible refine (num_Neg.calls a0 t133 t134 _ A3.out).mono ?_); rintro e w' ⟨rfl, ⟨nd, rfl⟩⟩; refine ⟨_, rfl, ?_⟩))
    go_ret2
    exact ⟨by first | rfl | (simp; done) | (simp [*]; done), by repeat (first | exact Drawn0.refl _ | apply Drawn0.step)⟩
  · rw [if_neg c2] at H
    have c2b0 : decide (a0 < 0) = false := decide_eq_false c2
    clear c2
    simp only [Option.some.injEq, Prod.mk.injEq] at H
    obtain ⟨rfl, rfl⟩ := H
    go_enter Try.func43, Try.ntmps43
    go_wp2
    go_ret2
    exact ⟨by first | rfl | (simp; done) | (simp [*]; done), by repeat (first | exact Drawn0.refl _ | apply Drawn0.step)⟩

-- NOT PRINTED: function 29 (arith_unary)

-- NOT PRINTED: function 30 (arith_reckoner_args)

-- NOT PRINTED: function 24 (arith_reckoner_value)

end Go.Proofs.Ytmiapolhklapnaa.P
