-- PRINTED by a program of this session over the kit's print.py.
import Derived.Test.YtjlfclhlfgjgcabPx0
namespace Go.Proofs.Ytjlfclhlfgjgcab.P
open Go.Own Go.RowKit Go.Proofs.YtjlfclhlfgjgcabW.PrintWords Go.Proofs.YtjlfclhlfgjgcabW.PrintLast Go.Proofs.YtjlfclhlfgjgcabW.PrintMore
attribute [local go_sem] max2_int min2_int max_two min_two max_three min_three max_four min_four   -- for this text's walks alone
set_option linter.unusedVariables false
set_option linter.unusedSimpArgs false

/-! ### spinneyref19_Next: function 17 -/
def spinneyref19_Next.f (l0 : List Int) (a1 : Int) : Option (List Int) := if ([] : List Int).length + l0.length < 17592186044416 then ((some (([] : List Int) ++ l0 : List Int)).bind fun y179 => (if y179.length < 17592186044416 then (some (y179 ++ [a1])) else (none))) else (none)
set_option maxHeartbeats 8000000 in
set_option maxRecDepth 100000 in
theorem spinneyref19_Next.calls (A0 : Option Addr) (c0 : Nat) (l0 : List Int) (a1 : Int) (r : List Int) (w : World) (hr0 : Kd.C (Kd.int .i64) w A0 l0.length l0) (hc0 : l0.length ≤ c0) (h : spinneyref19_Next.f l0 a1 = some r) :
    Calls Try.prog 17 #[.slice A0 l0.length c0, .int .i64 a1] w fun e w' => ∃ v0_ : Value, e = .returned (v0_) ∧ Kd.R (Kd.int .i64) 3 w' w.heap.size (fun _ => True) v0_ r ∧ Below w.heap.size w w' := by
  have HR0 := Aside0.mk hr0
  have HC0 := Aside0.mk hc0
  clear hr0 hc0
  have HB := Aside0.mk (Below.refl w.heap.size w)
  have H : (if ([] : List Int).length + l0.length < 17592186044416 then ((some (([] : List Int) ++ l0 : List Int)).bind fun y179 => (if y179.length < 17592186044416 then (some (y179 ++ [a1])) else (none))) else (none)) = some r := h
  clear h
  by_cases c3 : ([] : List Int).length + l0.length < 17592186044416
  · rw [if_pos c3] at H
    have LMc3 := Aside0.mk c3
    clear c3
    obtain ⟨y179, hy179⟩ : ∃ y_ : List Int, y_ = (([] : List Int) ++ l0) := ⟨_, rfl⟩
    replace H : (if y179.length < 17592186044416 then (some (y179 ++ [a1])) else (none)) = some r := by first | (rw [hy179]; with_reducible exact H) | (have H2_ := (Option.bind_some _ _).symm.trans H; rw [hy179]; with_reducible exact H2_) | (have H2_ := (Option.bind_some _ _).symm.trans H; with_reducible exact H2_) | with_reducible exact H | (rw [hy179]; exact H) | exact H
    have Ny179 := Aside0.mk hy179
    clear hy179
    by_cases c4 : y179.length < 17592186044416
    · rw [if_pos c4] at H
      have LMc4 := Aside0.mk c4
      clear c4
      obtain ⟨y182, hy182⟩ : ∃ y_ : List Int, y_ = (y179 ++ [a1]) := ⟨_, rfl⟩
      replace H : (some y182) = some r := by first | (rw [hy182]; with_reducible exact H) | (have H2_ := (Option.bind_some _ _).symm.trans H; rw [hy182]; with_reducible exact H2_) | (have H2_ := (Option.bind_some _ _).symm.trans H; with_reducible exact H2_) | with_reducible exact H | (rw [hy182]; exact H) | exact H
      have Ny182 := Aside0.mk hy182
      clear hy182
      obtain rfl := Option.some.inj H
      go_enter Try.func17, Try.ntmps17
      go_wp2_with (first | ((with_reducible refine gate_builtin (b := .append) (xs := #[.const (.slice none 0 0), .tmp 5]) rfl ?_); at_builtin; refine Kd.R_append_rows (Kd.int .i64) (w0 := w) w.heap.size rfl (.const (.slice none 0 0)) (.tmp 5) 22 3 (.int .i64 0) 8 rfl Try.underlying22 info3 rfl (by decide) (by omega) (.slice none 0 0) ([] : List Int) l0 _ _ _ (fun _ => True) (fun _ => False) rfl rfl ?aO ?aR (fun _ _ h => h) (fun _ h => h.elim) ?aF ?aB ?aS ?aL ?_; (case aR => repeat (first | exact HR0.out | (with_reducible refine Kd.C_alloc ?_ _) | (with_reducible refine Kd.C_drewN ?_ _) | (with_reducible refine Kd.C_drew ?_))); (case aB => exact (by repeat (first | (with_reducible first | exact HB.out | apply below_alloc | apply pw_below_drewN | apply below_drew1) | exact HB.out))); (case aF => exact (fun _ _ => trivial)); (case aO => exact ((Kd.R_nil _ _ _ _ (fun _ => True)))); (case aS => exact (below_size (by repeat (first | (with_reducible first | exact HB.out | apply below_alloc | apply pw_below_drewN | apply below_drew1) | exact HB.out)))); (case aL => have := LMc3.out; omega); intro v180 w5 ho hb hg hat; rw [← Ny179.out] at ho; have n0_ := Aside0.mk (hb); have n1_ := Aside0.mk (ho); clear HB; have HB := n0_; have HO181 := n1_; clear n0_ n1_; clear ho hb hg hat) | ((with_reducible refine gate_builtin (b := .append) (xs := #[.tmp 6, .tmp 8]) rfl ?_); at_builtin; refine Kd.R_append (Kd.int .i64) (w0 := w) w.heap.size rfl (.tmp 6) (.tmp 8) 22 3 (.int .i64 0) 8 rfl Try.underlying22 info3 rfl (by decide) (by omega) v180 y179 a1 [.int .i64 a1] (fun _ => True) (fun _ => False) rfl rfl ?aP (fun _ hk => hk.elim) ?aF ?aO ?aB ?aS ?aL ?_; (case aP => exact rfl); (case aB => exact (by repeat (first | (with_reducible first | exact HB.out | apply below_alloc | apply pw_below_drewN | apply below_drew1) | exact HB.out))); (case aF => exact (fun _ _ => trivial)); (case aO => exact (by (with_reducible repeat (first | apply Kd.R_alloc | apply Kd.R_drewN | apply Kd.R_drew)); exact HO181.out)); (case aS => exact (below_size (by repeat (first | (with_reducible first | exact HB.out | apply below_alloc | apply pw_below_drewN | apply below_drew1) | exact HB.out)))); (case aL => have := LMc4.out; omega); intro v183 w6 ho hb hg hat; rw [← Ny182.out] at ho; have n0_ := Aside0.mk (hb); have n1_ := Aside0.mk (ho); clear HB; clear HO181; have HB := n0_; have HO184 := n1_; clear n0_ n1_; clear ho hb hg hat))
      go_ret
      exact ⟨_, by first | rfl | (simp [errW_none, errW_some] <;> rfl) | (simp [*, errW_none, errW_some] <;> rfl), by (with_reducible repeat (first | apply Kd.R_alloc | apply Kd.R_drewN | apply Kd.R_drew)); exact HO184.out, by repeat (first | (with_reducible first | exact HB.out | apply below_alloc | apply pw_below_drewN | apply below_drew1) | exact HB.out)⟩
    · rw [if_neg c4] at H
      exact absurd H (by simp)
  · rw [if_neg c3] at H
    exact absurd H (by simp)

/-! ### spinneyref01_digits: function 30 -/
def spinneyref01_digits.f : Nat → Int → Option (ByteArray)
  | 0, _ => none
  | k + 1, a0 => (some (([(wrap64 (48 - (Int.tmod a0 10))) % 256] : List Int) : List Int)).bind fun y185 => (if a0 > (-10) then (some (strOfNums y185)) else ((spinneyref01_digits.f k (wrap64 (Int.tdiv a0 10))).bind fun t188 => (if t188.size + (strOfNums y185).size ≤ 9223372036854775807 then (some (t188 ++ (strOfNums y185))) else (none))))
theorem spinneyref01_digits.mono_l : ∀ k, (∀ y0, LeO (spinneyref01_digits.f k y0) (spinneyref01_digits.f (k + 1) y0))
  | 0 => fun _ r h => by simp [spinneyref01_digits.f] at h
  | k + 1 => by
    have ih0 := spinneyref01_digits.mono_l k
    · intro y0
      unfold spinneyref01_digits.f
      repeat' first
      | (with_reducible exact ih0 _)
      | (with_reducible exact LeO.refl _)
      | (with_reducible exact LeO.none _)
      | (with_reducible refine LeO.ite ?_ ?_)
      | (with_reducible refine LeO.bind ?_ (fun _ => ?_))
      | exact ih0 _
      | exact LeO.none _
      | refine LeO.ite ?_ ?_
      | refine LeO.bind ?_ (fun _ => ?_)
theorem spinneyref01_digits.mono : ∀ a0 k, LeO (spinneyref01_digits.f k a0) (spinneyref01_digits.f (k + 1) a0) := by
  intro a0 k
  have ih0 := spinneyref01_digits.mono_l k
  exact ih0 a0
set_option maxHeartbeats 8000000 in
set_option maxRecDepth 100000 in
theorem spinneyref01_digits.calls (k : Nat) : ∀ (a0 : Int) (r : ByteArray) (w : World) (h : spinneyref01_digits.f k a0 = some r),
    Calls Try.prog 30 #[.int .i64 a0] w fun e w' => e = .returned (.string r) ∧ Below w.heap.size w w' := by
  induction k using Nat.strongRecOn with
  | _ k ih =>
  intro a0 r w h
  cases k with
  | zero => exact absurd h (by simp [spinneyref01_digits.f])
  | succ k =>
  simp only [spinneyref01_digits.f] at h
  have HB := Aside0.mk (Below.refl w.heap.size w)
  have H : ((some (([(wrap64 (48 - (Int.tmod a0 10))) % 256] : List Int) : List Int)).bind fun y185 => (if a0 > (-10) then (some (strOfNums y185)) else ((spinneyref01_digits.f k (wrap64 (Int.tdiv a0 10))).bind fun t188 => (if t188.size + (strOfNums y185).size ≤ 9223372036854775807 then (some (t188 ++ (strOfNums y185))) else (none))))) = some r := h
  clear h
  obtain ⟨y185, hy185⟩ : ∃ y_ : List Int, y_ = (([(wrap64 (48 - (Int.tmod a0 10))) % 256] : List Int)) := ⟨_, rfl⟩
  replace H : (if a0 > (-10) then (some (strOfNums y185)) else ((spinneyref01_digits.f k (wrap64 (Int.tdiv a0 10))).bind fun t188 => (if t188.size + (strOfNums y185).size ≤ 9223372036854775807 then (some (t188 ++ (strOfNums y185))) else (none)))) = some r := by first | (rw [hy185]; with_reducible exact H) | (have H2_ := (Option.bind_some _ _).symm.trans H; rw [hy185]; with_reducible exact H2_) | (have H2_ := (Option.bind_some _ _).symm.trans H; with_reducible exact H2_) | with_reducible exact H | (rw [hy185]; exact H) | exact H
  have Ny185 := Aside0.mk hy185
  clear hy185
  by_cases c2 : a0 > (-10)
  · rw [if_pos c2] at H
    have c2b0 : decide ((-10) < a0) = true := decide_eq_true c2
    clear c2
    obtain rfl := Option.some.inj H
    go_enter Try.func30, Try.ntmps30
    go_wp2_with (first | ((with_reducible refine gate_dst (N := 8) rfl ?_); refine Kd.R_lit (Kd.int .u8) _ 5 ?hg (N := 8) ?hd (xs := ([(wrap64 (48 - (Int.tmod a0 10))) % 256] : List Int)) (inner := [.int .u8 ((wrap64 (48 - (Int.tmod a0 10))) % 256)]) (ok := fun _ => True) (okp := fun _ => True) ?hr ?hp (fun _ hk => hk) trivial (Below.refl _ _) (Nat.le_refl _) (by simp) ?_; (case hd => rfl); (case hg => rfl); (case hr => first | (go_simp; done) | (go_simp; rfl)); (case hp => exact (Reps.one (show Kd.M (Kd.int .u8) _ _ _ ((wrap64 (48 - (Int.tmod a0 10))) % 256) [.int .u8 ((wrap64 (48 - (Int.tmod a0 10))) % 256)] from rfl) (Reps.none _ _))); intro v186 w3 ho4 hb hg_ hnew_; clear hg_ hnew_; (first | rw [← Ny185.out] at ho4 | (simp only [Int.reduceToNat] at ho4; rw [← Ny185.out] at ho4)); have n0_ := Aside0.mk (Kd.R_lower ho4 (below_size (by repeat (first | (with_reducible first | exact HB.out | apply below_alloc | apply pw_below_drewN | apply below_drew1) | exact HB.out)))); have n1_ := Aside0.mk (below_step (by repeat (first | (with_reducible first | exact HB.out | apply below_alloc | apply pw_below_drewN | apply below_drew1) | exact HB.out)) hb); clear HB; have HO187 := n0_; have HB := n1_; clear n0_ n1_; clear hb ho4; have hcv5 := own_string (P := Try.prog) Try.underlying43 Try.underlying5 Try.underlying9 (Kd.own_of_R HO187.out)))
    go_ret
    exact ⟨by first | rfl | (simp [errW_none, errW_some] <;> rfl) | (simp [*, errW_none, errW_some] <;> rfl), by repeat (first | (with_reducible first | exact HB.out | apply below_alloc | apply pw_below_drewN | apply below_drew1) | exact HB.out)⟩
  · rw [if_neg c2] at H
    have c2b0 : decide ((-10) < a0) = false := decide_eq_false c2
    clear c2
    replace H := Option.bind_eq_some_iff.mp H
    obtain ⟨t188, A60, H⟩ := H
    replace H : (if t188.size + (strOfNums y185).size ≤ 9223372036854775807 then (some (t188 ++ (strOfNums y185))) else (none)) = some r := H
    have A6 := Aside0.mk A60
    clear A60
    by_cases c7 : t188.size + (strOfNums y185).size ≤ 9223372036854775807
    · rw [if_pos c7] at H
      have c7b0 := eq_true c7
      have c7b1 : decide (t188.size + (strOfNums y185).size ≤ 9223372036854775807) = true := decide_eq_true c7
      try have c7b2 : (9223372036854775807 < t188.size + (strOfNums y185).size) = False := eq_false (Nat.not_lt.2 c7)
      obtain rfl := Option.some.inj H
      go_enter Try.func30, Try.ntmps30
      go_wp2_with (first | ((with_reducible refine gate_dst (N := 8) rfl ?_); refine Kd.R_lit (Kd.int .u8) _ 5 ?hg (N := 8) ?hd (xs := ([(wrap64 (48 - (Int.tmod a0 10))) % 256] : List Int)) (inner := [.int .u8 ((wrap64 (48 - (Int.tmod a0 10))) % 256)]) (ok := fun _ => True) (okp := fun _ => True) ?hr ?hp (fun _ hk => hk) trivial (Below.refl _ _) (Nat.le_refl _) (by simp) ?_; (case hd => rfl); (case hg => rfl); (case hr => first | (go_simp; done) | (go_simp; rfl)); (case hp => exact (Reps.one (show Kd.M (Kd.int .u8) _ _ _ ((wrap64 (48 - (Int.tmod a0 10))) % 256) [.int .u8 ((wrap64 (48 - (Int.tmod a0 10))) % 256)] from rfl) (Reps.none _ _))); intro v186 w8 ho9 hb hg_ hnew_; clear hg_ hnew_; (first | rw [← Ny185.out] at ho9 | (simp only [Int.reduceToNat] at ho9; rw [← Ny185.out] at ho9)); have n0_ := Aside0.mk (Kd.R_lower ho9 (below_size (by repeat (first | (with_reducible first | exact HB.out | apply below_alloc | apply pw_below_drewN | apply below_drew1) | exact HB.out)))); have n1_ := Aside0.mk (below_step (by repeat (first | (with_reducible first | exact HB.out | apply below_alloc | apply pw_below_drewN | apply below_drew1) | exact HB.out)) hb); clear HB; have HO187 := n0_; have HB := n1_; clear n0_ n1_; clear hb ho9; have hcv10 := own_string (P := Try.prog) Try.underlying43 Try.underlying5 Try.underlying9 (Kd.own_of_R HO187.out)) | ((with_reducible refine gate_callee (f := 30) rfl ?_); refine goesL_ (some 15) rfl rfl Try.func30 (by kernel_rfl) rfl #[.int .i64 (wrap64 (Int.tdiv a0 10))] rfl (by (try simp only [List.map_toArray, List.map_cons, List.map_nil]); first | done | rfl | (simp only [List.length_drop, List.length_take]; rfl)) ?_; (with_reducible refine (ih k (by omega) (wrap64 (Int.tdiv a0 10)) t188 _ A6.out).mono ?_); rintro e w11 ⟨rfl, hb⟩; refine ⟨_, rfl, ?_⟩; have n0_ := Aside0.mk (Kd.R_below (by (with_reducible repeat (first | apply Kd.R_alloc | apply Kd.R_drewN | apply Kd.R_drew)); exact HO187.out) hb); have n1_ := Aside0.mk (below_step (by repeat (first | (with_reducible first | exact HB.out | apply below_alloc | apply pw_below_drewN | apply below_drew1) | exact HB.out)) hb); clear HO187; clear HB; have HO187 := n0_; have HB := n1_; clear n0_ n1_; (try clear hb); (try clear hb2); (try clear hk); (try clear hi)))
      go_ret
      exact ⟨by first | rfl | (simp [errW_none, errW_some] <;> rfl) | (simp [*, errW_none, errW_some] <;> rfl), by repeat (first | (with_reducible first | exact HB.out | apply below_alloc | apply pw_below_drewN | apply below_drew1) | exact HB.out)⟩
    · rw [if_neg c7] at H
      exact absurd H (by simp)

/-! ### spinneyref01_Text: function 24 -/
def spinneyref01_Text.f (k : Nat) (a0 : Int) : Option (ByteArray) := if a0 < 0 then ((spinneyref01_digits.f k a0).bind fun t189 => (if 1 + t189.size ≤ 9223372036854775807 then (some ((⟨#[45]⟩ : ByteArray) ++ t189)) else (none))) else ((spinneyref01_digits.f k (wrap64 (-a0))).bind fun t190 => (some t190))
theorem spinneyref01_Text.mono : ∀ a0 k, LeO (spinneyref01_Text.f k a0) (spinneyref01_Text.f (k + 1) a0) := by
  intro a0 k
  unfold spinneyref01_Text.f
  repeat' first
      | (with_reducible exact spinneyref01_digits.mono _ _)
      | (with_reducible exact LeO.refl _)
      | (with_reducible exact LeO.none _)
      | (with_reducible refine LeO.ite ?_ ?_)
      | (with_reducible refine LeO.bind ?_ (fun _ => ?_))
      | exact spinneyref01_digits.mono _ _
      | exact LeO.none _
      | refine LeO.ite ?_ ?_
      | refine LeO.bind ?_ (fun _ => ?_)
set_option maxHeartbeats 8000000 in
set_option maxRecDepth 100000 in
theorem spinneyref01_Text.calls (k : Nat) (a0 : Int) (r : ByteArray) (w : World) (h : spinneyref01_Text.f k a0 = some r) :
    Calls Try.prog 24 #[.int .i64 a0] w fun e w' => e = .returned (.string r) ∧ Below w.heap.size w w' := by
  have HB := Aside0.mk (Below.refl w.heap.size w)
  have H : (if a0 < 0 then ((spinneyref01_digits.f k a0).bind fun t189 => (if 1 + t189.size ≤ 9223372036854775807 then (some ((⟨#[45]⟩ : ByteArray) ++ t189)) else (none))) else ((spinneyref01_digits.f k (wrap64 (-a0))).bind fun t190 => (some t190))) = some r := h
  clear h
  by_cases c2 : a0 < 0
  · rw [if_pos c2] at H
    have c2b0 : decide (a0 < 0) = true := decide_eq_true c2
    clear c2
    replace H := Option.bind_eq_some_iff.mp H
    obtain ⟨t189, A30, H⟩ := H
    replace H : (if 1 + t189.size ≤ 9223372036854775807 then (some ((⟨#[45]⟩ : ByteArray) ++ t189)) else (none)) = some r := H
    have A3 := Aside0.mk A30
    clear A30
    by_cases c4 : 1 + t189.size ≤ 9223372036854775807
    · rw [if_pos c4] at H
      have c4b0 := eq_true c4
      have c4b1 : decide (1 + t189.size ≤ 9223372036854775807) = true := decide_eq_true c4
      try have c4b2 : (9223372036854775807 < 1 + t189.size) = False := eq_false (Nat.not_lt.2 c4)
      obtain rfl := Option.some.inj H
      go_enter Try.func24, Try.ntmps24
      go_wp2_with (first | ((with_reducible refine gate_callee (f := 30) rfl ?_); refine goesL_ (some 6) rfl rfl Try.func30 (by kernel_rfl) rfl #[.int .i64 a0] rfl (by (try simp only [List.map_toArray, List.map_cons, List.map_nil]); first | done | rfl | (simp only [List.length_drop, List.length_take]; rfl)) ?_; (with_reducible refine (spinneyref01_digits.calls k a0 t189 _ A3.out).mono ?_); rintro e w5 ⟨rfl, hb⟩; refine ⟨_, rfl, ?_⟩; have n0_ := Aside0.mk (below_step (by repeat (first | (with_reducible first | exact HB.out | apply below_alloc | apply pw_below_drewN | apply below_drew1) | exact HB.out)) hb); clear HB; have HB := n0_; clear n0_; (try clear hb); (try clear hb2); (try clear hk); (try clear hi)))
      go_ret
      exact ⟨by first | rfl | (simp [errW_none, errW_some] <;> rfl) | (simp [*, errW_none, errW_some] <;> rfl), by repeat (first | (with_reducible first | exact HB.out | apply below_alloc | apply pw_below_drewN | apply below_drew1) | exact HB.out)⟩
    · rw [if_neg c4] at H
      exact absurd H (by simp)
  · rw [if_neg c2] at H
    have c2b0 : decide (a0 < 0) = false := decide_eq_false c2
    clear c2
    replace H := Option.bind_eq_some_iff.mp H
    obtain ⟨t190, A60, H⟩ := H
    replace H : (some t190) = some r := H
    have A6 := Aside0.mk A60
    clear A60
    obtain rfl := Option.some.inj H
    go_enter Try.func24, Try.ntmps24
    go_wp2_with (first | ((with_reducible refine gate_callee (f := 30) rfl ?_); refine goesL_ (some 10) rfl rfl Try.func30 (by kernel_rfl) rfl #[.int .i64 (wrap64 (-a0))] rfl (by (try simp only [List.map_toArray, List.map_cons, List.map_nil]); first | done | rfl | (simp only [List.length_drop, List.length_take]; rfl)) ?_; (with_reducible refine (spinneyref01_digits.calls k (wrap64 (-a0)) t190 _ A6.out).mono ?_); rintro e w7 ⟨rfl, hb⟩; refine ⟨_, rfl, ?_⟩; have n0_ := Aside0.mk (below_step (by repeat (first | (with_reducible first | exact HB.out | apply below_alloc | apply pw_below_drewN | apply below_drew1) | exact HB.out)) hb); clear HB; have HB := n0_; clear n0_; (try clear hb); (try clear hb2); (try clear hk); (try clear hi)))
    go_ret
    exact ⟨by first | rfl | (simp [errW_none, errW_some] <;> rfl) | (simp [*, errW_none, errW_some] <;> rfl), by repeat (first | (with_reducible first | exact HB.out | apply below_alloc | apply pw_below_drewN | apply below_drew1) | exact HB.out)⟩

/-! ### spinneyref19_Text: function 18 (given) -/
def spinneyref19_Text.g (k : Nat) : List Int → Bool → ByteArray → Option ByteArray
  | [], _, s => some s
  | n :: l, dot, s =>
    (if dot = true then (if s.size + 1 ≤ 140737488355328 then some (s ++ (⟨#[46]⟩ : ByteArray)) else none) else some s).bind fun s1 =>
    (spinneyref01_Text.f k n).bind fun t => if s1.size + t.size ≤ 140737488355328 then spinneyref19_Text.g k l true (s1 ++ t) else none
def spinneyref19_Text.f (k : Nat) (l0 : List Int) : Option ByteArray := if l0 = [] then some (⟨#[45]⟩ : ByteArray) else spinneyref19_Text.g k l0 false (⟨#[]⟩ : ByteArray)
theorem spinneyref19_Text.mono_g (k : Nat) : ∀ l b s, LeO (spinneyref19_Text.g k l b s) (spinneyref19_Text.g (k + 1) l b s)
  | [], b, s => LeO.refl _
  | n :: l, b, s => by
    unfold spinneyref19_Text.g
    refine LeO.bind (LeO.refl _) (fun s1 => ?_)
    refine LeO.bind (spinneyref01_Text.mono _ _) (fun t => ?_)
    refine LeO.ite (spinneyref19_Text.mono_g k l true _) (LeO.refl _)
theorem spinneyref19_Text.mono : ∀ a0 k, LeO (spinneyref19_Text.f k a0) (spinneyref19_Text.f (k + 1) a0) := by
  intro l k
  unfold spinneyref19_Text.f
  exact LeO.ite (LeO.refl _) (spinneyref19_Text.mono_g k l _ _)
set_option maxRecDepth 100000 in
theorem spinneyref19_Text.calls (k : Nat) (A0 : Option Addr) (c0 : Nat) (l0 : List Int) (r : ByteArray) (w : World) (hr0 : Kd.C (Kd.int .i64) w A0 l0.length l0) (hc0 : l0.length ≤ c0) (h : spinneyref19_Text.f k l0 = some r) :
    Calls Try.prog 18 #[.slice A0 l0.length c0] w fun e w' => e = .returned (.string r) ∧ Below w.heap.size w w' := by
  have hb0 : l0.length ≤ 9223372036854775807 := hr0.2.1
  have HR0 := Aside0.mk (Kd.reads_of_C (d := (0 : Int)) hr0)
  clear hr0 hc0
  unfold spinneyref19_Text.f at h
  by_cases h0 : l0 = []
  · rw [if_pos h0] at h
    subst h0
    injection h with h
    subst h
    go_enter Try.func18, Try.ntmps18
    go_wp2
    go_ret
    exact ⟨rfl, Below.refl _ _⟩
  · rw [if_neg h0] at h
    have hpos : 0 < l0.length := List.length_pos_iff.mpr h0
    have hb : ((l0.length : Int) == 0) = false := by simp; omega
    clear h0
    have H := Aside0.mk h
    clear h
    go_enter Try.func18, Try.ntmps18
    go_wp2
    go_loopw [3, 11] (fun sv iv wr => ∃ (i : Nat) (s : ByteArray), iv = .int .i64 i ∧ sv = .string s ∧ Aside0 (i ≤ l0.length ∧ Below w.heap.size w wr ∧ spinneyref19_Text.g k (l0.drop i) (decide (0 < i)) s = some r)) (fun _ iv _ => l0.length - (intOf iv).toNat)
    case atStart => exact ⟨0, _, rfl, rfl, ⟨by omega, Below.refl _ _, by simpa using H.out⟩⟩
    case round =>
      obtain ⟨i, s, rfl, rfl, HA⟩ := hrel
      have hi0 := HA.out.1
      have HB := Aside0.mk HA.out.2.1
      by_cases hin : i < l0.length
      · have hg := HA.out.2.2
        rw [List.drop_eq_getElem_cons hin] at hg
        unfold spinneyref19_Text.g at hg
        obtain ⟨s1, hs1, hg⟩ := Option.bind_eq_some_iff.mp hg
        obtain ⟨t, ht, hg⟩ := Option.bind_eq_some_iff.mp hg
        split at hg
        case isFalse => exact absurd hg (by simp)
        case isTrue hsz =>
        obtain ⟨ad0, e0, hc0⟩ := HR0.out.2.2 (by omega)
        obtain ⟨x, hx⟩ : ∃ x, x = l0[i] := ⟨_, rfl⟩
        rw [← hx] at ht
        have k0 : wr.cell? (ad0.add i) = some (.int .i64 x) := pw_cell_below HB.out (by rw [hc0 i hin, hx]; simp [List.getD, hin])
        subst e0
        clear hc0 hx
        have HT := Aside0.mk ht
        have HG := Aside0.mk hg
        clear ht hg
        by_cases hd : 0 < i
        · rw [decide_eq_true hd, if_pos rfl] at hs1
          split at hs1
          case isFalse => exact absurd hs1 (by simp)
          case isTrue hs2 =>
          injection hs1 with hs1
          have hsz1 : (s ++ (⟨#[46]⟩ : ByteArray)).size + t.size ≤ 140737488355328 := by rw [hs1]; exact hsz
          rw [← hs1] at HG
          clear hs1 hsz hg
          go_wp2_with (go_at_call 24; (with_reducible refine (spinneyref01_Text.calls k _ t _ HT.out).mono ?_); rintro e w10 ⟨rfl, hb10⟩)
          go_roundw
          · exact ⟨i + 1, _, by go_num, rfl, ⟨by omega, below_step HB.out hb10, by rw [decide_eq_true (by omega)]; exact HG.out⟩⟩
          · simp [intOf]; omega
        · rw [decide_eq_false hd, if_neg (by simp)] at hs1
          injection hs1 with hs1
          subst hs1
          clear hg
          go_wp2_with (go_at_call 24; (with_reducible refine (spinneyref01_Text.calls k _ t _ HT.out).mono ?_); rintro e w10 ⟨rfl, hb10⟩)
          go_roundw
          · exact ⟨i + 1, _, by go_num, rfl, ⟨by omega, below_step HB.out hb10, by rw [decide_eq_true (by omega)]; exact HG.out⟩⟩
          · simp [intOf]; omega
      · have hnil : l0.drop i = [] := List.drop_eq_nil_of_le (by omega)
        have hr := HA.out.2.2
        rw [hnil] at hr
        injection hr with hr
        subst hr
        go_wp2
        go_ret
        exact ⟨rfl, HB.out⟩

end Go.Proofs.Ytjlfclhlfgjgcab.P
