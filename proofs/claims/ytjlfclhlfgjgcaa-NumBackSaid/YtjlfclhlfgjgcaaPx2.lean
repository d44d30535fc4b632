-- PRINTED by a program of this session over the kit's print.py.
import Derived.Test.YtjlfclhlfgjgcaaPx0
import Derived.Test.YtjlfclhlfgjgcaaPx1
namespace Go.Proofs.Ytjlfclhlfgjgcaa.P
open Go.Own Go.RowKit Go.Proofs.YtjlfclhlfgjgcaaW.PrintWords Go.Proofs.YtjlfclhlfgjgcaaW.PrintLast Go.Proofs.YtjlfclhlfgjgcaaW.PrintMore
attribute [local go_sem] max2_int min2_int max_two min_two max_three min_three max_four min_four   -- for this text's walks alone
set_option linter.unusedVariables false
set_option linter.unusedSimpArgs false

/-! ### num_size: function 65 -/
def num_size.f (a0 : Int) : Option (Int) := if a0 < 0 then (some (IntKind.u64.wrap (-(IntKind.u64.wrap (a0))))) else (some (IntKind.u64.wrap (a0)))
set_option maxHeartbeats 8000000 in
set_option maxRecDepth 100000 in
theorem num_size.calls (a0 : Int) (r : Int) (w : World) (h : num_size.f a0 = some r) :
    Calls Try.prog 65 #[.int .i64 a0] w fun e w' => e = .returned (.int .u64 r) ∧ Drawn0 w w' := by
  have H : (if a0 < 0 then (some (IntKind.u64.wrap (-(IntKind.u64.wrap (a0))))) else (some (IntKind.u64.wrap (a0)))) = some r := h
  clear h
  by_cases c2 : a0 < 0
  · rw [if_pos c2] at H
    have c2b0 : decide (a0 < 0) = true := decide_eq_true c2
    clear c2
    obtain rfl := Option.some.inj H
    go_enter Try.func65, Try.ntmps65
    go_wp2
    go_ret
    exact ⟨by first | rfl | (simp; done) | (simp [*]; done), by repeat (first | exact Drawn0.refl _ | apply Drawn0.step)⟩
  · rw [if_neg c2] at H
    have c2b0 : decide (a0 < 0) = false := decide_eq_false c2
    clear c2
    obtain rfl := Option.some.inj H
    go_enter Try.func65, Try.ntmps65
    go_wp2
    go_ret
    exact ⟨by first | rfl | (simp; done) | (simp [*]; done), by repeat (first | exact Drawn0.refl _ | apply Drawn0.step)⟩

/-! ### num_Text: function 25 (given) -/
def num_Text.f (a0 : Int) : Option ByteArray := if -9223372036854775808 ≤ a0 ∧ a0 ≤ 9223372036854775807 then some ⟨(textB a0).toArray⟩ else none

def num_Text.Rel (B : Nat) (w : World) (u : Nat) (q m : Nat) (wr : World) : Prop :=
  ∃ cs : Array Value, ArrAt wr B cs ∧ Below B w wr ∧ cs.size = 20 ∧ m ≤ 9223372036854775808 ∧ (digs m).length ≤ q ∧ q < 20 ∧ ∃ done : List UInt8, cs.toList.drop (q + 1) = done.map (fun (b : UInt8) => Value.int .u8 b.toNat) ∧ digs u = digs m ++ done

theorem num_Text.size_nat {a u : Int} (h1 : -9223372036854775808 ≤ a) (h2 : a ≤ 9223372036854775807) (h : num_size.f a = some u) : u = a.natAbs := by
  unfold num_size.f at h
  have e : ∀ x : Int, IntKind.u64.wrap x = x % 18446744073709551616 := fun x => by first | rfl | (simp [IntKind.wrap]; done)
  split at h <;> (injection h with h; subst h; rw [e]; (try rw [e]); omega)

theorem num_Text.start (w : World) (u : Nat) (hu : u ≤ 9223372036854775808) (nd : Nat) : num_Text.Rel w.heap.size w u 19 u ((w.alloc (.cells #[.int .u8 0, .int .u8 0, .int .u8 0, .int .u8 0, .int .u8 0, .int .u8 0, .int .u8 0, .int .u8 0, .int .u8 0, .int .u8 0, .int .u8 0, .int .u8 0, .int .u8 0, .int .u8 0, .int .u8 0, .int .u8 0, .int .u8 0, .int .u8 0, .int .u8 0, .int .u8 0] 60)).drewN nd) := by
  exact ⟨_, (ArrAt.alloc w _ 60).drewN nd, pw_below_drewN ((Below.refl _ _).alloc (Nat.le_refl _) _) nd, rfl, hu, digs_len 18 u (by omega), by omega, [], rfl, by simp⟩

theorem num_Text.step {B : Nat} {w wr : World} {u q m : Nat} (h : num_Text.Rel B w u q m wr) (hm : ¬ m < 10) : ∃ q', q = q' + 1 ∧ num_Text.Rel B w u q' (m / 10) (wr.setCell ⟨B, q, none⟩ (.int .u8 (48 + (m : Int) % 10))) := by
  obtain ⟨cs, ha, hb, hs, hm64, hl, hq, done, hd, hu⟩ := h
  have hp := digs_pos (m / 10)
  have e : digs m = digs (m / 10) ++ [UInt8.ofNat (48 + m % 10)] := by rw [digs]; simp [hm]
  have hl' := hl
  rw [e] at hl'
  simp at hl'
  obtain ⟨q', rfl⟩ : ∃ q', q = q' + 1 := ⟨q - 1, by omega⟩
  refine ⟨q', rfl, _, ha.set _ _ (by omega), hb.setCell (Nat.le_refl _) _, by simp [hs], by omega, by omega, by omega, UInt8.ofNat (48 + m % 10) :: done, ?_, by rw [hu, e]; simp⟩
  rw [List.drop_eq_getElem_cons (by simp [hs]; omega)]
  simp [Array.setIfInBounds, hs, hq, ← hd, List.drop_set_of_lt]
  omega

theorem num_Text.last {B : Nat} {w wr : World} {u q m : Nat} (h : num_Text.Rel B w u q m wr) (hm : m < 10) : ∃ cs : Array Value, ArrAt (wr.setCell ⟨B, q, none⟩ (.int .u8 (48 + (m : Int) % 10))) B cs ∧ Below B w (wr.setCell ⟨B, q, none⟩ (.int .u8 (48 + (m : Int) % 10))) ∧ cs.size = 20 ∧
    cs.toList.drop q = (digs u).map (fun (b : UInt8) => Value.int .u8 b.toNat) := by
  obtain ⟨cs, ha, hb, hs, hm64, hl, hq, done, hd, hu⟩ := h
  have e : digs m = [UInt8.ofNat (48 + m)] := by rw [digs]; simp [hm]
  refine ⟨_, ha.set _ _ (by omega), hb.setCell (Nat.le_refl _) _, by simp [hs], ?_⟩
  rw [List.drop_eq_getElem_cons (by simp [hs]; omega)]
  rw [hu, e]
  simp [Array.setIfInBounds, hs, hq, ← hd, List.drop_set_of_lt]
  omega

theorem num_Text.slice20 (W : World) (b : Nat) (i : Nat) (hi : i < 20) : (Instr.sliceAt 60 (.pointer (some ⟨b, 0, none⟩)) (some (.int .i64 i)) none none).run Try.prog W = .ok (.slice (some ⟨b, i, none⟩) (20 - i) (20 - i)) W := by
  have ha : Try.prog.arrayLen 60 = 20 := by kernel_rfl
  have he : Try.prog.elem 60 = 5 := by kernel_rfl
  have hz : (sizeOf 5).run Try.prog W = .ok 1 W := by kernel_rfl
  have hi2 : ((i : Int)).toNat = i := by omega
  rw [run_sliceAt_array_l (P := Try.prog) W 60 ⟨b, 0, none⟩ (by kernel_rfl) .i64 i (by omega) (by rw [ha]; omega), ha, he, hz, hi2]
  have hne : ¬ (20 = i) := by omega
  simp [Result.andThen, slicedAt, Addr.add, hne]
  intro h
  exact h.symm

theorem num_Text.conv {W : World} {b q : Nat} {cs : Array Value} (h : ArrAt W b cs) (l : List UInt8) (hl : cs.toList.drop q = l.map (fun (b : UInt8) => Value.int .u8 b.toNat)) (n c : Nat) (hn : n = l.length) :
    (convert 62 9 (.slice (some ⟨b, q, none⟩) n c)).run Try.prog W = .ok (.string ⟨l.toArray⟩) W :=
  conv_arr h 62 5 9 (by kernel_rfl) (by kernel_rfl) (by kernel_rfl) l n c (fun i hi => by
    have : cs[q + i]? = (cs.toList.drop q)[i]? := by simp
    rw [this, hl]
    simp) hn

set_option maxRecDepth 100000 in
theorem num_Text.walk (a : Int) (h1 : -9223372036854775808 ≤ a) (h2 : a ≤ 9223372036854775807) (w : World) :
    Calls Try.prog 25 #[.int .i64 a] w fun e w' => e = .returned (.string ⟨(textB a).toArray⟩) ∧ Below w.heap.size w w' := by
  obtain ⟨u, hu⟩ : ∃ u, num_size.f a = some u := by unfold num_size.f; split <;> exact ⟨_, rfl⟩
  obtain rfl := num_Text.size_nat h1 h2 hu
  go_enter Try.func25, Try.ntmps25
  go_wp2_with (go_at_call 65; (with_reducible refine (num_size.calls a _ _ hu).mono ?_); rintro e w' ⟨rfl, ⟨nd, rfl⟩⟩)
  go_loopw [4, 5] (fun pv mv wr => ∃ (q m : Nat), pv = .int .i64 (q + 1) ∧ mv = .int .u64 m ∧ Aside0 (num_Text.Rel w.heap.size w a.natAbs q m wr)) (fun _ mv _ => (intOf mv).toNat)
  case atStart => exact ⟨19, a.natAbs, rfl, rfl, ⟨num_Text.start w _ (by omega) nd⟩⟩
  case round =>
    obtain ⟨q, m, rfl, rfl, hr⟩ := hrel
    have hq : q < 20 := hr.out.choose_spec.2.2.2.2.2.1
    have hm2 : m ≤ 9223372036854775808 := hr.out.choose_spec.2.2.2.1
    obtain ⟨v0, hv0⟩ : ∃ v, wr.cell? ⟨w.heap.size, q, none⟩ = some v := by
      obtain ⟨cs, ha, -, hs, -⟩ := hr.out
      exact ⟨cs[q], by rw [ha.cell]; simp [hs, hq]⟩
    have hf0 : wr.frozen? ⟨w.heap.size, q, none⟩ = false := hr.out.choose_spec.1.free q
    by_cases hm : (m : Int) < 10
    · obtain ⟨cs, ha2, hb2, hs2, hd2⟩ := num_Text.last hr.out (by omega)
      have hq1 : 1 ≤ q := by
        obtain ⟨_, _, _, _, _, hl, _⟩ := hr.out
        have := digs_pos m
        omega
      have hlen : (digs a.natAbs).length = 20 - q := by
        have := congrArg List.length hd2
        simp [hs2] at this
        omega
      by_cases ha : a < 0
      · obtain ⟨q', rfl⟩ : ∃ q', q = q' + 1 := ⟨q - 1, by omega⟩
        obtain ⟨v1, hv1⟩ : ∃ v, wr.cell? ⟨w.heap.size, q', none⟩ = some v := by
          obtain ⟨cs, ha, -, hs, -⟩ := hr.out
          exact ⟨cs[q'], by rw [ha.cell]; simp⟩
        have hf1 : wr.frozen? ⟨w.heap.size, q', none⟩ = false := hr.out.choose_spec.1.free q'
        have hsl := fun W => num_Text.slice20 W w.heap.size q' (by omega)
        have hcv := num_Text.conv (ha2.set q' (.int .u8 45) (by omega)) (q := q') (textB a) (by
          have hq3 : q' < cs.size := by omega
          rw [List.drop_eq_getElem_cons (by simp; omega)]
          simp [Array.setIfInBounds, hq3, textB, ha, ← hd2]
          exact List.drop_set_of_lt (by omega)) (20 - q') (20 - q') (by simp [textB, ha, hlen]; omega)
        have HB := Aside0.mk (hb2.setCell (p := ⟨w.heap.size, q', none⟩) (Nat.le_refl _) (.int .u8 45))
        clear ha2 hb2 hs2 hd2 hlen
        go_wp2
        go_ret
        exact ⟨rfl, HB.out⟩
      · have hsl := fun W => num_Text.slice20 W w.heap.size q hq
        have hcv := num_Text.conv ha2 (q := q) (textB a) (by rw [hd2]; simp [textB, ha]) (20 - q) (20 - q) (by simp [textB, ha, hlen])
        have HB := Aside0.mk hb2
        clear ha2 hb2 hs2 hd2 hlen
        go_wp2
        go_ret
        exact ⟨rfl, HB.out⟩
    · obtain ⟨q', rfl, hr'⟩ := num_Text.step hr.out (by omega)
      have HR := Aside0.mk hr'
      clear hr'
      go_wp2
      go_roundw
      · exact ⟨q', m / 10, by go_num, rfl, HR⟩
      · simp [intOf]; omega

theorem num_Text.calls (a0 : Int) (r : ByteArray) (w : World) (h : num_Text.f a0 = some r) :
    Calls Try.prog 25 #[.int .i64 a0] w fun e w' => e = .returned (.string r) ∧ Below w.heap.size w w' := by
  unfold num_Text.f at h
  split at h
  case isTrue hh => injection h with h; subst h; exact num_Text.walk a0 hh.1 hh.2 w
  case isFalse => exact absurd h (by simp)

/-! ### bits_Mul64: function 67 -/
def bits_Mul64.f (a0 : Int) (a1 : Int) : Option (Int × Int) := some (IntKind.u64.wrap ((IntKind.u64.wrap ((IntKind.u64.wrap ((a0 / 4294967296) * (a1 / 4294967296))) + ((IntKind.u64.wrap ((IntKind.u64.wrap ((a0 / 4294967296) * (Go.bits .and .u64 a1 4294967295))) + ((IntKind.u64.wrap ((Go.bits .and .u64 a0 4294967295) * (Go.bits .and .u64 a1 4294967295))) / 4294967296))) / 4294967296))) + ((IntKind.u64.wrap ((Go.bits .and .u64 (IntKind.u64.wrap ((IntKind.u64.wrap ((a0 / 4294967296) * (Go.bits .and .u64 a1 4294967295))) + ((IntKind.u64.wrap ((Go.bits .and .u64 a0 4294967295) * (Go.bits .and .u64 a1 4294967295))) / 4294967296))) 4294967295) + (IntKind.u64.wrap ((Go.bits .and .u64 a0 4294967295) * (a1 / 4294967296))))) / 4294967296)), IntKind.u64.wrap (a0 * a1))
set_option maxHeartbeats 8000000 in
set_option maxRecDepth 100000 in
theorem bits_Mul64.calls (a0 : Int) (a1 : Int) (r1 : Int) (r2 : Int) (w : World) (h : bits_Mul64.f a0 a1 = some (r1, r2)) :
    Calls Try.prog 67 #[.int .u64 a0, .int .u64 a1] w fun e w' => e = .returned (.tuple #[.int .u64 r1, .int .u64 r2]) ∧ Drawn0 w w' := by
  have H : (some (IntKind.u64.wrap ((IntKind.u64.wrap ((IntKind.u64.wrap ((a0 / 4294967296) * (a1 / 4294967296))) + ((IntKind.u64.wrap ((IntKind.u64.wrap ((a0 / 4294967296) * (Go.bits .and .u64 a1 4294967295))) + ((IntKind.u64.wrap ((Go.bits .and .u64 a0 4294967295) * (Go.bits .and .u64 a1 4294967295))) / 4294967296))) / 4294967296))) + ((IntKind.u64.wrap ((Go.bits .and .u64 (IntKind.u64.wrap ((IntKind.u64.wrap ((a0 / 4294967296) * (Go.bits .and .u64 a1 4294967295))) + ((IntKind.u64.wrap ((Go.bits .and .u64 a0 4294967295) * (Go.bits .and .u64 a1 4294967295))) / 4294967296))) 4294967295) + (IntKind.u64.wrap ((Go.bits .and .u64 a0 4294967295) * (a1 / 4294967296))))) / 4294967296)), IntKind.u64.wrap (a0 * a1))) = some (r1, r2) := h
  clear h
  simp only [Option.some.injEq, Prod.mk.injEq] at H
  obtain ⟨rfl, rfl⟩ := H
  go_enter Try.func67, Try.ntmps67
  go_wp2
  go_ret2
  exact ⟨by first | rfl | (simp; done) | (simp [*]; done), by repeat (first | exact Drawn0.refl _ | apply Drawn0.step)⟩

/-! ### num_Mul: function 28 -/
def num_Mul.f (a0 : Int) (a1 : Int) : Option (Int × Int) := (num_size.f a0).bind fun t109 => ((num_size.f a1).bind fun t110 => ((bits_Mul64.f t109 t110).bind fun bt111 => (if ((decide (a0 < 0)) != (decide (a1 < 0))) = true then (if bt111.1 > 0 then ((num_over.f (wrap64 (a0 * a1)) true).bind fun bt113 => (some (bt113.1, bt113.2))) else ((num_over.f (wrap64 (a0 * a1)) (decide (bt111.2 > (9223372036854775807 + 1)))).bind fun bt115 => (some (bt115.1, bt115.2)))) else (if bt111.1 > 0 then ((num_over.f (wrap64 (a0 * a1)) true).bind fun bt117 => (some (bt117.1, bt117.2))) else ((num_over.f (wrap64 (a0 * a1)) (decide (bt111.2 > 9223372036854775807))).bind fun bt119 => (some (bt119.1, bt119.2)))))))
set_option maxHeartbeats 8000000 in
set_option maxRecDepth 100000 in
theorem num_Mul.calls (a0 : Int) (a1 : Int) (r1 : Int) (r2 : Int) (w : World) (h : num_Mul.f a0 a1 = some (r1, r2)) :
    Calls Try.prog 28 #[.int .i64 a0, .int .i64 a1] w fun e w' => e = .returned (.tuple #[.int .i64 r1, .int .i64 r2]) ∧ Drawn0 w w' := by
  have H : ((num_size.f a0).bind fun t109 => ((num_size.f a1).bind fun t110 => ((bits_Mul64.f t109 t110).bind fun bt111 => (if ((decide (a0 < 0)) != (decide (a1 < 0))) = true then (if bt111.1 > 0 then ((num_over.f (wrap64 (a0 * a1)) true).bind fun bt113 => (some (bt113.1, bt113.2))) else ((num_over.f (wrap64 (a0 * a1)) (decide (bt111.2 > (9223372036854775807 + 1)))).bind fun bt115 => (some (bt115.1, bt115.2)))) else (if bt111.1 > 0 then ((num_over.f (wrap64 (a0 * a1)) true).bind fun bt117 => (some (bt117.1, bt117.2))) else ((num_over.f (wrap64 (a0 * a1)) (decide (bt111.2 > 9223372036854775807))).bind fun bt119 => (some (bt119.1, bt119.2)))))))) = some (r1, r2) := h
  clear h
  replace H := Option.bind_eq_some_iff.mp H
  obtain ⟨t109, A30, H⟩ := H
  replace H : ((num_size.f a1).bind fun t110 => ((bits_Mul64.f t109 t110).bind fun bt111 => (if ((decide (a0 < 0)) != (decide (a1 < 0))) = true then (if bt111.1 > 0 then ((num_over.f (wrap64 (a0 * a1)) true).bind fun bt113 => (some (bt113.1, bt113.2))) else ((num_over.f (wrap64 (a0 * a1)) (decide (bt111.2 > (9223372036854775807 + 1)))).bind fun bt115 => (some (bt115.1, bt115.2)))) else (if bt111.1 > 0 then ((num_over.f (wrap64 (a0 * a1)) true).bind fun bt117 => (some (bt117.1, bt117.2))) else ((num_over.f (wrap64 (a0 * a1)) (decide (bt111.2 > 9223372036854775807))).bind fun bt119 => (some (bt119.1, bt119.2))))))) = some (r1, r2) := H
  have A3 := Aside0.mk A30
  clear A30
  replace H := Option.bind_eq_some_iff.mp H
  obtain ⟨t110, A40, H⟩ := H
  replace H : ((bits_Mul64.f t109 t110).bind fun bt111 => (if ((decide (a0 < 0)) != (decide (a1 < 0))) = true then (if bt111.1 > 0 then ((num_over.f (wrap64 (a0 * a1)) true).bind fun bt113 => (some (bt113.1, bt113.2))) else ((num_over.f (wrap64 (a0 * a1)) (decide (bt111.2 > (9223372036854775807 + 1)))).bind fun bt115 => (some (bt115.1, bt115.2)))) else (if bt111.1 > 0 then ((num_over.f (wrap64 (a0 * a1)) true).bind fun bt117 => (some (bt117.1, bt117.2))) else ((num_over.f (wrap64 (a0 * a1)) (decide (bt111.2 > 9223372036854775807))).bind fun bt119 => (some (bt119.1, bt119.2)))))) = some (r1, r2) := H
  have A4 := Aside0.mk A40
  clear A40
  replace H := Option.bind_eq_some_iff.mp H
  obtain ⟨⟨t111, t112⟩, A50, H⟩ := H
  replace H : (if ((decide (a0 < 0)) != (decide (a1 < 0))) = true then (if t111 > 0 then ((num_over.f (wrap64 (a0 * a1)) true).bind fun bt113 => (some (bt113.1, bt113.2))) else ((num_over.f (wrap64 (a0 * a1)) (decide (t112 > (9223372036854775807 + 1)))).bind fun bt115 => (some (bt115.1, bt115.2)))) else (if t111 > 0 then ((num_over.f (wrap64 (a0 * a1)) true).bind fun bt117 => (some (bt117.1, bt117.2))) else ((num_over.f (wrap64 (a0 * a1)) (decide (t112 > 9223372036854775807))).bind fun bt119 => (some (bt119.1, bt119.2))))) = some (r1, r2) := H
  have A5 := Aside0.mk A50
  clear A50
  by_cases c6 : ((decide (a0 < 0)) != (decide (a1 < 0))) = true
  · rw [if_pos c6] at H
    have c6b0 : ((decide (a0 < 0)) != (decide (a1 < 0))) = true := c6
    (try (have c6b1 : decide ((decide (a0 < 0)) = (decide (a1 < 0))) = false := by simpa using c6))
    (try (have c6b2 : ((decide (a0 < 0)) == (decide (a1 < 0))) = false := by simpa using c6))
    (try (have c6b3 : ¬ ((decide (a0 < 0)) = (decide (a1 < 0))) := by simpa using c6))
    clear c6
    by_cases c7 : t111 > 0
    · rw [if_pos c7] at H
      have c7b0 : decide (0 < t111) = true := decide_eq_true c7
      clear c7
      replace H := Option.bind_eq_some_iff.mp H
      obtain ⟨⟨t113, t114⟩, A80, H⟩ := H
      replace H : (some (t113, t114)) = some (r1, r2) := H
      have A8 := Aside0.mk A80
      clear A80
      simp only [Option.some.injEq, Prod.mk.injEq] at H
      obtain ⟨rfl, rfl⟩ := H
      go_enter Try.func28, Try.ntmps28
      go_wp2_with (first | ((with_reducible refine gate_callee (f := 65) rfl ?_); refine goesL_ (some 11) rfl rfl Try.func65 (by kernel_rfl) rfl #[.int .i64 a0] rfl (by (try simp only [List.map_toArray, List.map_cons, List.map_nil]); first | done | rfl | (simp only [List.length_drop, List.length_take]; rfl)) ?_; (with_reducible refine (num_size.calls a0 t109 _ A3.out).mono ?_); rintro e w' ⟨rfl, ⟨nd, rfl⟩⟩; refine ⟨_, rfl, ?_⟩) | ((with_reducible refine gate_callee (f := 65) rfl ?_); refine goesL_ (some 13) rfl rfl Try.func65 (by kernel_rfl) rfl #[.int .i64 a1] rfl (by (try simp only [List.map_toArray, List.map_cons, List.map_nil]); first | done | rfl | (simp only [List.length_drop, List.length_take]; rfl)) ?_; (with_reducible refine (num_size.calls a1 t110 _ A4.out).mono ?_); rintro e w' ⟨rfl, ⟨nd, rfl⟩⟩; refine ⟨_, rfl, ?_⟩) | ((with_reducible refine gate_callee (f := 67) rfl ?_); refine goesL_ (some 14) rfl rfl Try.func67 (by kernel_rfl) rfl #[.int .u64 t109, .int .u64 t110] rfl (by (try simp only [List.map_toArray, List.map_cons, List.map_nil]); first | done | rfl | (simp only [List.length_drop, List.length_take]; rfl)) ?_; (with_reducible refine (bits_Mul64.calls t109 t110 t111 t112 _ A5.out).mono ?_); rintro e w' ⟨rfl, ⟨nd, rfl⟩⟩; refine ⟨_, rfl, ?_⟩) | ((with_reducible refine gate_callee (f := 64) rfl ?_); refine goesL_ (some 34) rfl rfl Try.func64 (by kernel_rfl) rfl #[.int .i64 (wrap64 (a0 * a1)), .bool true] rfl (by (try simp only [List.map_toArray, List.map_cons, List.map_nil]); first | done | rfl | (simp only [List.length_drop, List.length_take]; rfl)) ?_; (with_reducible refine (num_over.calls (wrap64 (a0 * a1)) true t113 t114 _ A8.out).mono ?_); rintro e w' ⟨rfl, ⟨nd, rfl⟩⟩; refine ⟨_, rfl, ?_⟩))
      go_ret2
      exact ⟨by first | rfl | (simp; done) | (simp [*]; done), by repeat (first | exact Drawn0.refl _ | apply Drawn0.step)⟩
    · rw [if_neg c7] at H
      have c7b0 : decide (0 < t111) = false := decide_eq_false c7
      clear c7
      replace H := Option.bind_eq_some_iff.mp H
      obtain ⟨⟨t115, t116⟩, A90, H⟩ := H
      replace H : (some (t115, t116)) = some (r1, r2) := H
      have A9 := Aside0.mk A90
      clear A90
      simp only [Option.some.injEq, Prod.mk.injEq] at H
      obtain ⟨rfl, rfl⟩ := H
      go_enter Try.func28, Try.ntmps28
      go_wp2_with (first | ((with_reducible refine gate_callee (f := 65) rfl ?_); refine goesL_ (some 11) rfl rfl Try.func65 (by kernel_rfl) rfl #[.int .i64 a0] rfl (by (try simp only [List.map_toArray, List.map_cons, List.map_nil]); first | done | rfl | (simp only [List.length_drop, List.length_take]; rfl)) ?_; (with_reducible refine (num_size.calls a0 t109 _ A3.out).mono ?_); rintro e w' ⟨rfl, ⟨nd, rfl⟩⟩; refine ⟨_, rfl, ?_⟩) | ((with_reducible refine gate_callee (f := 65) rfl ?_); refine goesL_ (some 13) rfl rfl Try.func65 (by kernel_rfl) rfl #[.int .i64 a1] rfl (by (try simp only [List.map_toArray, List.map_cons, List.map_nil]); first | done | rfl | (simp only [List.length_drop, List.length_take]; rfl)) ?_; (with_reducible refine (num_size.calls a1 t110 _ A4.out).mono ?_); rintro e w' ⟨rfl, ⟨nd, rfl⟩⟩; refine ⟨_, rfl, ?_⟩) | ((with_reducible refine gate_callee (f := 67) rfl ?_); refine goesL_ (some 14) rfl rfl Try.func67 (by kernel_rfl) rfl #[.int .u64 t109, .int .u64 t110] rfl (by (try simp only [List.map_toArray, List.map_cons, List.map_nil]); first | done | rfl | (simp only [List.length_drop, List.length_take]; rfl)) ?_; (with_reducible refine (bits_Mul64.calls t109 t110 t111 t112 _ A5.out).mono ?_); rintro e w' ⟨rfl, ⟨nd, rfl⟩⟩; refine ⟨_, rfl, ?_⟩) | ((with_reducible refine gate_callee (f := 64) rfl ?_); refine goesL_ (some 34) rfl rfl Try.func64 (by kernel_rfl) rfl #[.int .i64 (wrap64 (a0 * a1)), .bool (decide (t112 > (9223372036854775807 + 1)))] rfl (by (try simp only [List.map_toArray, List.map_cons, List.map_nil]); first | done | rfl | (simp only [List.length_drop, List.length_take]; rfl)) ?_; (with_reducible refine (num_over.calls (wrap64 (a0 * a1)) (decide (t112 > (9223372036854775807 + 1))) t115 t116 _ A9.out).mono ?_); rintro e w' ⟨rfl, ⟨nd, rfl⟩⟩; refine ⟨_, rfl, ?_⟩))
      go_ret2
      exact ⟨by first | rfl | (simp; done) | (simp [*]; done), by repeat (first | exact Drawn0.refl _ | apply Drawn0.step)⟩
  · rw [if_neg c6] at H
    have c6b0 : ((decide (a0 < 0)) != (decide (a1 < 0))) = false := by simpa using c6
    (try (have c6b1 : decide ((decide (a0 < 0)) = (decide (a1 < 0))) = true := by simpa using c6))
    (try (have c6b2 : ((decide (a0 < 0)) == (decide (a1 < 0))) = true := by simpa using c6))
    clear c6
    by_cases c10 : t111 > 0
    · rw [if_pos c10] at H
      have c10b0 : decide (0 < t111) = true := decide_eq_true c10
      clear c10
      replace H := Option.bind_eq_some_iff.mp H
      obtain ⟨⟨t117, t118⟩, A110, H⟩ := H
      replace H : (some (t117, t118)) = some (r1, r2) := H
      have A11 := Aside0.mk A110
      clear A110
      simp only [Option.some.injEq, Prod.mk.injEq] at H
      obtain ⟨rfl, rfl⟩ := H
      go_enter Try.func28, Try.ntmps28
      go_wp2_with (first | ((with_reducible refine gate_callee (f := 65) rfl ?_); refine goesL_ (some 11) rfl rfl Try.func65 (by kernel_rfl) rfl #[.int .i64 a0] rfl (by (try simp only [List.map_toArray, List.map_cons, List.map_nil]); first | done | rfl | (simp only [List.length_drop, List.length_take]; rfl)) ?_; (with_reducible refine (num_size.calls a0 t109 _ A3.out).mono ?_); rintro e w' ⟨rfl, ⟨nd, rfl⟩⟩; refine ⟨_, rfl, ?_⟩) | ((with_reducible refine gate_callee (f := 65) rfl ?_); refine goesL_ (some 13) rfl rfl Try.func65 (by kernel_rfl) rfl #[.int .i64 a1] rfl (by (try simp only [List.map_toArray, List.map_cons, List.map_nil]); first | done | rfl | (simp only [List.length_drop, List.length_take]; rfl)) ?_; (with_reducible refine (num_size.calls a1 t110 _ A4.out).mono ?_); rintro e w' ⟨rfl, ⟨nd, rfl⟩⟩; refine ⟨_, rfl, ?_⟩) | ((with_reducible refine gate_callee (f := 67) rfl ?_); refine goesL_ (some 14) rfl rfl Try.func67 (by kernel_rfl) rfl #[.int .u64 t109, .int .u64 t110] rfl (by (try simp only [List.map_toArray, List.map_cons, List.map_nil]); first | done | rfl | (simp only [List.length_drop, List.length_take]; rfl)) ?_; (with_reducible refine (bits_Mul64.calls t109 t110 t111 t112 _ A5.out).mono ?_); rintro e w' ⟨rfl, ⟨nd, rfl⟩⟩; refine ⟨_, rfl, ?_⟩) | ((with_reducible refine gate_callee (f := 64) rfl ?_); refine goesL_ (some 34) rfl rfl Try.func64 (by kernel_rfl) rfl #[.int .i64 (wrap64 (a0 * a1)), .bool true] rfl (by (try simp only [List.map_toArray, List.map_cons, List.map_nil]); first | done | rfl | (simp only [List.length_drop, List.length_take]; rfl)) ?_; (with_reducible refine (num_over.calls (wrap64 (a0 * a1)) true t117 t118 _ A11.out).mono ?_); rintro e w' ⟨rfl, ⟨nd, rfl⟩⟩; refine ⟨_, rfl, ?_⟩))
      go_ret2
      exact ⟨by first | rfl | (simp; done) | (simp [*]; done), by repeat (first | exact Drawn0.refl _ | apply Drawn0.step)⟩
    · rw [if_neg c10] at H
      have c10b0 : decide (0 < t111) = false := decide_eq_false c10
      clear c10
      replace H := Option.bind_eq_some_iff.mp H
      obtain ⟨⟨t119, t120⟩, A120, H⟩ := H
      replace H : (some (t119, t120)) = some (r1, r2) := H
      have A12 := Aside0.mk A120
      clear A120
      simp only [Option.some.injEq, Prod.mk.injEq] at H
      obtain ⟨rfl, rfl⟩ := H
      go_enter Try.func28, Try.ntmps28
      go_wp2_with (first | ((with_reducible refine gate_callee (f := 65) rfl ?_); refine goesL_ (some 11) rfl rfl Try.func65 (by kernel_rfl) rfl #[.int .i64 a0] rfl (by (try simp only [List.map_toArray, List.map_cons, List.map_nil]); first | done | rfl | (simp only [List.length_drop, List.length_take]; rfl)) ?_; (with_reducible refine (num_size.calls a0 t109 _ A3.out).mono ?_); rintro e w' ⟨rfl, ⟨nd, rfl⟩⟩; refine ⟨_, rfl, ?_⟩) | ((with_reducible refine gate_callee (f := 65) rfl ?_); refine goesL_ (some 13) rfl rfl Try.func65 (by kernel_rfl) rfl #[.int .i64 a1] rfl (by (try simp only [List.map_toArray, List.map_cons, List.map_nil]); first | done | rfl | (simp only [List.length_drop, List.length_take]; rfl)) ?_; (with_reducible refine (num_size.calls a1 t110 _ A4.out).mono ?_); rintro e w' ⟨rfl, ⟨nd, rfl⟩⟩; refine ⟨_, rfl, ?_⟩) | ((with_reducible refine gate_callee (f := 67) rfl ?_); refine goesL_ (some 14) rfl rfl Try.func67 (by kernel_rfl) rfl #[.int .u64 t109, .int .u64 t110] rfl (by (try simp only [List.map_toArray, List.map_cons, List.map_nil]); first | done | rfl | (simp only [List.length_drop, List.length_take]; rfl)) ?_; (with_reducible refine (bits_Mul64.calls t109 t110 t111 t112 _ A5.out).mono ?_); rintro e w' ⟨rfl, ⟨nd, rfl⟩⟩; refine ⟨_, rfl, ?_⟩) | ((with_reducible refine gate_callee (f := 64) rfl ?_); refine goesL_ (some 34) rfl rfl Try.func64 (by kernel_rfl) rfl #[.int .i64 (wrap64 (a0 * a1)), .bool (decide (t112 > 9223372036854775807))] rfl (by (try simp only [List.map_toArray, List.map_cons, List.map_nil]); first | done | rfl | (simp only [List.length_drop, List.length_take]; rfl)) ?_; (with_reducible refine (num_over.calls (wrap64 (a0 * a1)) (decide (t112 > 9223372036854775807)) t119 t120 _ A12.out).mono ?_); rintro e w' ⟨rfl, ⟨nd, rfl⟩⟩; refine ⟨_, rfl, ?_⟩))
      go_ret2
      exact ⟨by first | rfl | (simp; done) | (simp [*]; done), by repeat (first | exact Drawn0.refl _ | apply Drawn0.step)⟩

/-! ### cmp_isNaN_int64: function 76 -/
def cmp_isNaN_int64.f (a0 : Int) : Option (Bool) := some (a0 != a0)
set_option maxHeartbeats 8000000 in
set_option maxRecDepth 100000 in
theorem cmp_isNaN_int64.calls (a0 : Int) (r : Bool) (w : World) (h : cmp_isNaN_int64.f a0 = some r) :
    Calls Try.prog 76 #[.int .i64 a0] w fun e w' => e = .returned (.bool r) ∧ Drawn0 w w' := by
  have H : (some (a0 != a0)) = some r := h
  clear h
  obtain rfl := Option.some.inj H
  go_enter Try.func76, Try.ntmps76
  go_wp2
  go_ret
  exact ⟨by first | rfl | (simp; done) | (simp [*]; done), by repeat (first | exact Drawn0.refl _ | apply Drawn0.step)⟩

/-! ### cmp_Compare_int64: function 68 -/
def cmp_Compare_int64.f (a0 : Int) (a1 : Int) : Option (Int) := (cmp_isNaN_int64.f a0).bind fun t121 => ((cmp_isNaN_int64.f a1).bind fun t122 => (if t121 = true then (if t122 = true then (some 0) else (some (-1))) else (if t122 = true then (some 1) else (if a0 < a1 then (some (-1)) else (if a0 > a1 then (some 1) else (some 0))))))
set_option maxHeartbeats 8000000 in
set_option maxRecDepth 100000 in
theorem cmp_Compare_int64.calls (a0 : Int) (a1 : Int) (r : Int) (w : World) (h : cmp_Compare_int64.f a0 a1 = some r) :
    Calls Try.prog 68 #[.int .i64 a0, .int .i64 a1] w fun e w' => e = .returned (.int .i64 r) ∧ Drawn0 w w' := by
  have H : ((cmp_isNaN_int64.f a0).bind fun t121 => ((cmp_isNaN_int64.f a1).bind fun t122 => (if t121 = true then (if t122 = true then (some 0) else (some (-1))) else (if t122 = true then (some 1) else (if a0 < a1 then (some (-1)) else (if a0 > a1 then (some 1) else (some 0))))))) = some r := h
  clear h
  replace H := Option.bind_eq_some_iff.mp H
  obtain ⟨t121, A30, H⟩ := H
  replace H : ((cmp_isNaN_int64.f a1).bind fun t122 => (if t121 = true then (if t122 = true then (some 0) else (some (-1))) else (if t122 = true then (some 1) else (if a0 < a1 then (some (-1)) else (if a0 > a1 then (some 1) else (some 0)))))) = some r := H
  have A3 := Aside0.mk A30
  clear A30
  replace H := Option.bind_eq_some_iff.mp H
  obtain ⟨t122, A40, H⟩ := H
  replace H : (if t121 = true then (if t122 = true then (some 0) else (some (-1))) else (if t122 = true then (some 1) else (if a0 < a1 then (some (-1)) else (if a0 > a1 then (some 1) else (some 0))))) = some r := H
  have A4 := Aside0.mk A40
  clear A40
  by_cases c5 : t121 = true
  · subst c5
    have H1 : (if t122 = true then (some 0) else (some (-1))) = some r := by rw [if_pos rfl] at H; exact H
    clear H
    have H := H1
    clear H1
    by_cases c6 : t122 = true
    · subst c6
      have H1 : (some 0) = some r := by rw [if_pos rfl] at H; exact H
      clear H
      have H := H1
      clear H1
      obtain rfl := Option.some.inj H
      go_enter Try.func68, Try.ntmps68
      go_wp2_with (first | ((with_reducible refine gate_callee (f := 76) rfl ?_); refine goesL_ (some 8) rfl rfl Try.func76 (by kernel_rfl) rfl #[.int .i64 a0] rfl (by (try simp only [List.map_toArray, List.map_cons, List.map_nil]); first | done | rfl | (simp only [List.length_drop, List.length_take]; rfl)) ?_; (with_reducible refine (cmp_isNaN_int64.calls a0 true _ A3.out).mono ?_); rintro e w' ⟨rfl, ⟨nd, rfl⟩⟩; refine ⟨_, rfl, ?_⟩) | ((with_reducible refine gate_callee (f := 76) rfl ?_); refine goesL_ (some 10) rfl rfl Try.func76 (by kernel_rfl) rfl #[.int .i64 a1] rfl (by (try simp only [List.map_toArray, List.map_cons, List.map_nil]); first | done | rfl | (simp only [List.length_drop, List.length_take]; rfl)) ?_; (with_reducible refine (cmp_isNaN_int64.calls a1 true _ A4.out).mono ?_); rintro e w' ⟨rfl, ⟨nd, rfl⟩⟩; refine ⟨_, rfl, ?_⟩))
      go_ret
      exact ⟨by first | rfl | (simp; done) | (simp [*]; done), by repeat (first | exact Drawn0.refl _ | apply Drawn0.step)⟩
    · replace c6 := Bool.eq_false_iff.mpr c6
      subst c6
      have H1 : (some (-1)) = some r := by rw [if_neg (show ¬ (false = true) by decide)] at H; exact H
      clear H
      have H := H1
      clear H1
      obtain rfl := Option.some.inj H
      go_enter Try.func68, Try.ntmps68
      go_wp2_with (first | ((with_reducible refine gate_callee (f := 76) rfl ?_); refine goesL_ (some 8) rfl rfl Try.func76 (by kernel_rfl) rfl #[.int .i64 a0] rfl (by (try simp only [List.map_toArray, List.map_cons, List.map_nil]); first | done | rfl | (simp only [List.length_drop, List.length_take]; rfl)) ?_; (with_reducible refine (cmp_isNaN_int64.calls a0 true _ A3.out).mono ?_); rintro e w' ⟨rfl, ⟨nd, rfl⟩⟩; refine ⟨_, rfl, ?_⟩) | ((with_reducible refine gate_callee (f := 76) rfl ?_); refine goesL_ (some 10) rfl rfl Try.func76 (by kernel_rfl) rfl #[.int .i64 a1] rfl (by (try simp only [List.map_toArray, List.map_cons, List.map_nil]); first | done | rfl | (simp only [List.length_drop, List.length_take]; rfl)) ?_; (with_reducible refine (cmp_isNaN_int64.calls a1 false _ A4.out).mono ?_); rintro e w' ⟨rfl, ⟨nd, rfl⟩⟩; refine ⟨_, rfl, ?_⟩))
      go_ret
      exact ⟨by first | rfl | (simp; done) | (simp [*]; done), by repeat (first | exact Drawn0.refl _ | apply Drawn0.step)⟩
  · replace c5 := Bool.eq_false_iff.mpr c5
    subst c5
    have H1 : (if t122 = true then (some 1) else (if a0 < a1 then (some (-1)) else (if a0 > a1 then (some 1) else (some 0)))) = some r := by rw [if_neg (show ¬ (false = true) by decide)] at H; exact H
    clear H
    have H := H1
    clear H1
    by_cases c7 : t122 = true
    · subst c7
      have H1 : (some 1) = some r := by rw [if_pos rfl] at H; exact H
      clear H
      have H := H1
      clear H1
      obtain rfl := Option.some.inj H
      go_enter Try.func68, Try.ntmps68
      go_wp2_with (first | ((with_reducible refine gate_callee (f := 76) rfl ?_); refine goesL_ (some 8) rfl rfl Try.func76 (by kernel_rfl) rfl #[.int .i64 a0] rfl (by (try simp only [List.map_toArray, List.map_cons, List.map_nil]); first | done | rfl | (simp only [List.length_drop, List.length_take]; rfl)) ?_; (with_reducible refine (cmp_isNaN_int64.calls a0 false _ A3.out).mono ?_); rintro e w' ⟨rfl, ⟨nd, rfl⟩⟩; refine ⟨_, rfl, ?_⟩) | ((with_reducible refine gate_callee (f := 76) rfl ?_); refine goesL_ (some 10) rfl rfl Try.func76 (by kernel_rfl) rfl #[.int .i64 a1] rfl (by (try simp only [List.map_toArray, List.map_cons, List.map_nil]); first | done | rfl | (simp only [List.length_drop, List.length_take]; rfl)) ?_; (with_reducible refine (cmp_isNaN_int64.calls a1 true _ A4.out).mono ?_); rintro e w' ⟨rfl, ⟨nd, rfl⟩⟩; refine ⟨_, rfl, ?_⟩))
      go_ret
      exact ⟨by first | rfl | (simp; done) | (simp [*]; done), by repeat (first | exact Drawn0.refl _ | apply Drawn0.step)⟩
    · replace c7 := Bool.eq_false_iff.mpr c7
      subst c7
      have H1 : (if a0 < a1 then (some (-1)) else (if a0 > a1 then (some 1) else (some 0))) = some r := by rw [if_neg (show ¬ (false = true) by decide)] at H; exact H
      clear H
      have H := H1
      clear H1
      by_cases c8 : a0 < a1
      · rw [if_pos c8] at H
        have c8b0 : decide (a0 < a1) = true := decide_eq_true c8
        clear c8
        obtain rfl := Option.some.inj H
        go_enter Try.func68, Try.ntmps68
        go_wp2_with (first | ((with_reducible refine gate_callee (f := 76) rfl ?_); refine goesL_ (some 8) rfl rfl Try.func76 (by kernel_rfl) rfl #[.int .i64 a0] rfl (by (try simp only [List.map_toArray, List.map_cons, List.map_nil]); first | done | rfl | (simp only [List.length_drop, List.length_take]; rfl)) ?_; (with_reducible refine (cmp_isNaN_int64.calls a0 false _ A3.out).mono ?_); rintro e w' ⟨rfl, ⟨nd, rfl⟩⟩; refine ⟨_, rfl, ?_⟩) | ((with_reducible refine gate_callee (f := 76) rfl ?_); refine goesL_ (some 10) rfl rfl Try.func76 (by kernel_rfl) rfl #[.int .i64 a1] rfl (by (try simp only [List.map_toArray, List.map_cons, List.map_nil]); first | done | rfl | (simp only [List.length_drop, List.length_take]; rfl)) ?_; (with_reducible refine (cmp_isNaN_int64.calls a1 false _ A4.out).mono ?_); rintro e w' ⟨rfl, ⟨nd, rfl⟩⟩; refine ⟨_, rfl, ?_⟩))
        go_ret
        exact ⟨by first | rfl | (simp; done) | (simp [*]; done), by repeat (first | exact Drawn0.refl _ | apply Drawn0.step)⟩
      · rw [if_neg c8] at H
        have c8b0 : decide (a0 < a1) = false := decide_eq_false c8
        clear c8
        by_cases c9 : a0 > a1
        · rw [if_pos c9] at H
          have c9b0 : decide (a1 < a0) = true := decide_eq_true c9
          clear c9
          obtain rfl := Option.some.inj H
          go_enter Try.func68, Try.ntmps68
          go_wp2_with (first | ((with_reducible refine gate_callee (f := 76) rfl ?_); refine goesL_ (some 8) rfl rfl Try.func76 (by kernel_rfl) rfl #[.int .i64 a0] rfl (by (try simp only [List.map_toArray, List.map_cons, List.map_nil]); first | done | rfl | (simp only [List.length_drop, List.length_take]; rfl)) ?_; (with_reducible refine (cmp_isNaN_int64.calls a0 false _ A3.out).mono ?_); rintro e w' ⟨rfl, ⟨nd, rfl⟩⟩; refine ⟨_, rfl, ?_⟩) | ((with_reducible refine gate_callee (f := 76) rfl ?_); refine goesL_ (some 10) rfl rfl Try.func76 (by kernel_rfl) rfl #[.int .i64 a1] rfl (by (try simp only [List.map_toArray, List.map_cons, List.map_nil]); first | done | rfl | (simp only [List.length_drop, List.length_take]; rfl)) ?_; (with_reducible refine (cmp_isNaN_int64.calls a1 false _ A4.out).mono ?_); rintro e w' ⟨rfl, ⟨nd, rfl⟩⟩; refine ⟨_, rfl, ?_⟩))
          go_ret
          exact ⟨by first | rfl | (simp; done) | (simp [*]; done), by repeat (first | exact Drawn0.refl _ | apply Drawn0.step)⟩
        · rw [if_neg c9] at H
          have c9b0 : decide (a1 < a0) = false := decide_eq_false c9
          clear c9
          obtain rfl := Option.some.inj H
          go_enter Try.func68, Try.ntmps68
          go_wp2_with (first | ((with_reducible refine gate_callee (f := 76) rfl ?_); refine goesL_ (some 8) rfl rfl Try.func76 (by kernel_rfl) rfl #[.int .i64 a0] rfl (by (try simp only [List.map_toArray, List.map_cons, List.map_nil]); first | done | rfl | (simp only [List.length_drop, List.length_take]; rfl)) ?_; (with_reducible refine (cmp_isNaN_int64.calls a0 false _ A3.out).mono ?_); rintro e w' ⟨rfl, ⟨nd, rfl⟩⟩; refine ⟨_, rfl, ?_⟩) | ((with_reducible refine gate_callee (f := 76) rfl ?_); refine goesL_ (some 10) rfl rfl Try.func76 (by kernel_rfl) rfl #[.int .i64 a1] rfl (by (try simp only [List.map_toArray, List.map_cons, List.map_nil]); first | done | rfl | (simp only [List.length_drop, List.length_take]; rfl)) ?_; (with_reducible refine (cmp_isNaN_int64.calls a1 false _ A4.out).mono ?_); rintro e w' ⟨rfl, ⟨nd, rfl⟩⟩; refine ⟨_, rfl, ?_⟩))
          go_ret
          exact ⟨by first | rfl | (simp; done) | (simp [*]; done), by repeat (first | exact Drawn0.refl _ | apply Drawn0.step)⟩

/-! ### num_Cmp: function 35 -/
def num_Cmp.f (a0 : Int) (a1 : Int) : Option (Int) := (cmp_Compare_int64.f a0 a1).bind fun t123 => (some t123)
set_option maxHeartbeats 8000000 in
set_option maxRecDepth 100000 in
theorem num_Cmp.calls (a0 : Int) (a1 : Int) (r : Int) (w : World) (h : num_Cmp.f a0 a1 = some r) :
    Calls Try.prog 35 #[.int .i64 a0, .int .i64 a1] w fun e w' => e = .returned (.int .i64 r) ∧ Drawn0 w w' := by
  have H : ((cmp_Compare_int64.f a0 a1).bind fun t123 => (some t123)) = some r := h
  clear h
  replace H := Option.bind_eq_some_iff.mp H
  obtain ⟨t123, A30, H⟩ := H
  replace H : (some t123) = some r := H
  have A3 := Aside0.mk A30
  clear A30
  obtain rfl := Option.some.inj H
  go_enter Try.func35, Try.ntmps35
  go_wp2_with (first | ((with_reducible refine gate_callee (f := 68) rfl ?_); refine goesL_ (some 7) rfl rfl Try.func68 (by kernel_rfl) rfl #[.int .i64 a0, .int .i64 a1] rfl (by (try simp only [List.map_toArray, List.map_cons, List.map_nil]); first | done | rfl | (simp only [List.length_drop, List.length_take]; rfl)) ?_; (with_reducible refine (cmp_Compare_int64.calls a0 a1 t123 _ A3.out).mono ?_); rintro e w' ⟨rfl, ⟨nd, rfl⟩⟩; refine ⟨_, rfl, ?_⟩))
  go_ret
  exact ⟨by first | rfl | (simp; done) | (simp [*]; done), by repeat (first | exact Drawn0.refl _ | apply Drawn0.step)⟩

/-! ### spinneylaw01_live: function 22 -/
def spinneylaw01_live.f  : Option (Bool) := (num_Quo.f (-7) 2).bind fun bt124 => ((num_Mod.f (-7) 2).bind fun bt126 => ((num_Read.f (⟨#[45, 48, 48, 55]⟩ : ByteArray)).bind fun bt128 => ((num_Mul.f 4294967296 2147483648).bind fun bt130 => (if bt124.1 = (-3) then (if bt124.2 = 0 then (if bt126.1 = 1 then (if bt126.2 = 0 then (if bt128.1 = (-7) then (if bt128.2 = 0 then (if bt130.2 = 10 then ((num_Text.f (-12)).bind fun t132 => (if t132.toList = ([45, 49, 50] : List UInt8) then ((num_Cmp.f 1 2).bind fun t133 => (some (t133 == (-1)))) else (some false))) else (some false)) else (some false)) else (some false)) else (some false)) else (some false)) else (some false)) else (some false)))))
set_option maxHeartbeats 8000000 in
set_option maxRecDepth 100000 in
theorem spinneylaw01_live.calls  (r : Bool) (w : World) (h : spinneylaw01_live.f  = some r) :
    Calls Try.prog 22 #[] w fun e w' => e = .returned (.bool r) ∧ Below w.heap.size w w' := by
  have HB := Aside0.mk (Below.refl w.heap.size w)
  have H : ((num_Quo.f (-7) 2).bind fun bt124 => ((num_Mod.f (-7) 2).bind fun bt126 => ((num_Read.f (⟨#[45, 48, 48, 55]⟩ : ByteArray)).bind fun bt128 => ((num_Mul.f 4294967296 2147483648).bind fun bt130 => (if bt124.1 = (-3) then (if bt124.2 = 0 then (if bt126.1 = 1 then (if bt126.2 = 0 then (if bt128.1 = (-7) then (if bt128.2 = 0 then (if bt130.2 = 10 then ((num_Text.f (-12)).bind fun t132 => (if t132.toList = ([45, 49, 50] : List UInt8) then ((num_Cmp.f 1 2).bind fun t133 => (some (t133 == (-1)))) else (some false))) else (some false)) else (some false)) else (some false)) else (some false)) else (some false)) else (some false)) else (some false)))))) = some r := h
  clear h
  replace H := Option.bind_eq_some_iff.mp H
  obtain ⟨⟨t124, t125⟩, A10, H⟩ := H
  replace H : ((num_Mod.f (-7) 2).bind fun bt126 => ((num_Read.f (⟨#[45, 48, 48, 55]⟩ : ByteArray)).bind fun bt128 => ((num_Mul.f 4294967296 2147483648).bind fun bt130 => (if t124 = (-3) then (if t125 = 0 then (if bt126.1 = 1 then (if bt126.2 = 0 then (if bt128.1 = (-7) then (if bt128.2 = 0 then (if bt130.2 = 10 then ((num_Text.f (-12)).bind fun t132 => (if t132.toList = ([45, 49, 50] : List UInt8) then ((num_Cmp.f 1 2).bind fun t133 => (some (t133 == (-1)))) else (some false))) else (some false)) else (some false)) else (some false)) else (some false)) else (some false)) else (some false)) else (some false))))) = some r := H
  have A1 := Aside0.mk A10
  clear A10
  replace H := Option.bind_eq_some_iff.mp H
  obtain ⟨⟨t126, t127⟩, A20, H⟩ := H
  replace H : ((num_Read.f (⟨#[45, 48, 48, 55]⟩ : ByteArray)).bind fun bt128 => ((num_Mul.f 4294967296 2147483648).bind fun bt130 => (if t124 = (-3) then (if t125 = 0 then (if t126 = 1 then (if t127 = 0 then (if bt128.1 = (-7) then (if bt128.2 = 0 then (if bt130.2 = 10 then ((num_Text.f (-12)).bind fun t132 => (if t132.toList = ([45, 49, 50] : List UInt8) then ((num_Cmp.f 1 2).bind fun t133 => (some (t133 == (-1)))) else (some false))) else (some false)) else (some false)) else (some false)) else (some false)) else (some false)) else (some false)) else (some false)))) = some r := H
  have A2 := Aside0.mk A20
  clear A20
  replace H := Option.bind_eq_some_iff.mp H
  obtain ⟨⟨t128, t129⟩, A30, H⟩ := H
  replace H : ((num_Mul.f 4294967296 2147483648).bind fun bt130 => (if t124 = (-3) then (if t125 = 0 then (if t126 = 1 then (if t127 = 0 then (if t128 = (-7) then (if t129 = 0 then (if bt130.2 = 10 then ((num_Text.f (-12)).bind fun t132 => (if t132.toList = ([45, 49, 50] : List UInt8) then ((num_Cmp.f 1 2).bind fun t133 => (some (t133 == (-1)))) else (some false))) else (some false)) else (some false)) else (some false)) else (some false)) else (some false)) else (some false)) else (some false))) = some r := H
  have A3 := Aside0.mk A30
  clear A30
  replace H := Option.bind_eq_some_iff.mp H
  obtain ⟨⟨t130, t131⟩, A40, H⟩ := H
  replace H : (if t124 = (-3) then (if t125 = 0 then (if t126 = 1 then (if t127 = 0 then (if t128 = (-7) then (if t129 = 0 then (if t131 = 10 then ((num_Text.f (-12)).bind fun t132 => (if t132.toList = ([45, 49, 50] : List UInt8) then ((num_Cmp.f 1 2).bind fun t133 => (some (t133 == (-1)))) else (some false))) else (some false)) else (some false)) else (some false)) else (some false)) else (some false)) else (some false)) else (some false)) = some r := H
  have A4 := Aside0.mk A40
  clear A40
  by_cases c5 : t124 = (-3)
  · rw [if_pos c5] at H
    have c5b0 : (t124 == (-3)) = true := beq_iff_eq.mpr c5
    have c5b1 : (t124 != (-3)) = false := bne_eq_false_iff_eq.mpr c5
    clear c5
    by_cases c6 : t125 = 0
    · rw [if_pos c6] at H
      have c6b0 : (t125 == 0) = true := beq_iff_eq.mpr c6
      have c6b1 : (t125 != 0) = false := bne_eq_false_iff_eq.mpr c6
      clear c6
      by_cases c7 : t126 = 1
      · rw [if_pos c7] at H
        have c7b0 : (t126 == 1) = true := beq_iff_eq.mpr c7
        have c7b1 : (t126 != 1) = false := bne_eq_false_iff_eq.mpr c7
        clear c7
        by_cases c8 : t127 = 0
        · rw [if_pos c8] at H
          have c8b0 : (t127 == 0) = true := beq_iff_eq.mpr c8
          have c8b1 : (t127 != 0) = false := bne_eq_false_iff_eq.mpr c8
          clear c8
          by_cases c9 : t128 = (-7)
          · rw [if_pos c9] at H
            have c9b0 : (t128 == (-7)) = true := beq_iff_eq.mpr c9
            have c9b1 : (t128 != (-7)) = false := bne_eq_false_iff_eq.mpr c9
            clear c9
            by_cases c10 : t129 = 0
            · rw [if_pos c10] at H
              have c10b0 : (t129 == 0) = true := beq_iff_eq.mpr c10
              have c10b1 : (t129 != 0) = false := bne_eq_false_iff_eq.mpr c10
              clear c10
              by_cases c11 : t131 = 10
              · rw [if_pos c11] at H
                have c11b0 : (t131 == 10) = true := beq_iff_eq.mpr c11
                have c11b1 : (t131 != 10) = false := bne_eq_false_iff_eq.mpr c11
                clear c11
                replace H := Option.bind_eq_some_iff.mp H
                obtain ⟨t132, A120, H⟩ := H
                replace H : (if t132.toList = ([45, 49, 50] : List UInt8) then ((num_Cmp.f 1 2).bind fun t133 => (some (t133 == (-1)))) else (some false)) = some r := H
                have A12 := Aside0.mk A120
                clear A120
                by_cases c13 : t132.toList = ([45, 49, 50] : List UInt8)
                · rw [if_pos c13] at H
                  have c13b0 : (t132.toList == ([45, 49, 50] : List UInt8)) = true := beq_iff_eq.mpr c13
                  have c13b1 : (t132.toList != ([45, 49, 50] : List UInt8)) = false := bne_eq_false_iff_eq.mpr c13
                  clear c13
                  replace H := Option.bind_eq_some_iff.mp H
                  obtain ⟨t133, A140, H⟩ := H
                  replace H : (some (t133 == (-1))) = some r := H
                  have A14 := Aside0.mk A140
                  clear A140
                  obtain rfl := Option.some.inj H
                  go_enter Try.func22, Try.ntmps22
                  go_wp2_with (first | ((with_reducible refine gate_callee (f := 15) rfl ?_); refine goesL_ (some 10) rfl rfl Try.func15 (by kernel_rfl) rfl #[.int .i64 (-7), .int .i64 2] rfl (by (try simp only [List.map_toArray, List.map_cons, List.map_nil]); first | done | rfl | (simp only [List.length_drop, List.length_take]; rfl)) ?_; (with_reducible refine (num_Quo.calls (-7) 2 t124 t125 _ A1.out).mono ?_); rintro e w' ⟨rfl, ⟨nd, rfl⟩⟩; refine ⟨_, rfl, ?_⟩) | ((with_reducible refine gate_callee (f := 20) rfl ?_); refine goesL_ (some 14) rfl rfl Try.func20 (by kernel_rfl) rfl #[.int .i64 (-7), .int .i64 2] rfl (by (try simp only [List.map_toArray, List.map_cons, List.map_nil]); first | done | rfl | (simp only [List.length_drop, List.length_take]; rfl)) ?_; (with_reducible refine (num_Mod.calls (-7) 2 t126 t127 _ A2.out).mono ?_); rintro e w' ⟨rfl, ⟨nd, rfl⟩⟩; refine ⟨_, rfl, ?_⟩) | ((with_reducible refine gate_callee (f := 23) rfl ?_); refine goesL_ (some 18) rfl rfl Try.func23 (by kernel_rfl) rfl #[.string (⟨#[45, 48, 48, 55]⟩ : ByteArray)] rfl (by (try simp only [List.map_toArray, List.map_cons, List.map_nil]); first | done | rfl | (simp only [List.length_drop, List.length_take]; rfl)) ?_; (with_reducible refine (num_Read.calls (⟨#[45, 48, 48, 55]⟩ : ByteArray) t128 t129 _ A3.out).mono ?_); rintro e w15 ⟨rfl, hb⟩; refine ⟨_, rfl, ?_⟩; have n0_ := Aside0.mk (below_step (by repeat (first | (with_reducible first | exact HB.out | apply below_alloc | apply pw_below_drewN | apply below_drew1) | exact HB.out)) hb); clear HB; have HB := n0_; clear n0_; (try clear hb); (try clear hb2); (try clear hk); (try clear hi)) | ((with_reducible refine gate_callee (f := 28) rfl ?_); refine goesL_ (some 22) rfl rfl Try.func28 (by kernel_rfl) rfl #[.int .i64 4294967296, .int .i64 2147483648] rfl (by (try simp only [List.map_toArray, List.map_cons, List.map_nil]); first | done | rfl | (simp only [List.length_drop, List.length_take]; rfl)) ?_; (with_reducible refine (num_Mul.calls 4294967296 2147483648 t130 t131 _ A4.out).mono ?_); rintro e w' ⟨rfl, ⟨nd, rfl⟩⟩; refine ⟨_, rfl, ?_⟩) | (go_at_call 25; (with_reducible refine (num_Text.calls (-12) t132 _ A12.out).mono ?_); rintro e w16 ⟨rfl, hb⟩; have n0_ := Aside0.mk (below_step (by repeat (first | (with_reducible first | exact HB.out | apply below_alloc | apply pw_below_drewN | apply below_drew1) | exact HB.out)) hb); clear HB; have HB := n0_; clear n0_; (try clear hb); (try clear hb2); (try clear hk); (try clear hi)) | (go_at_call 35; (with_reducible refine (num_Cmp.calls 1 2 t133 _ A14.out).mono ?_); rintro e w' ⟨rfl, ⟨nd, rfl⟩⟩))
                  go_ret
                  exact ⟨by first | rfl | (simp [errW_none, errW_some] <;> rfl) | (simp [*, errW_none, errW_some] <;> rfl), by repeat (first | (with_reducible first | exact HB.out | apply below_alloc | apply pw_below_drewN | apply below_drew1) | exact HB.out)⟩
                · rw [if_neg c13] at H
                  have c13b0 : (t132.toList == ([45, 49, 50] : List UInt8)) = false := beq_eq_false_iff_ne.mpr c13
                  have c13b1 : (t132.toList != ([45, 49, 50] : List UInt8)) = true := bne_iff_ne.mpr c13
                  obtain rfl := Option.some.inj H
                  go_enter Try.func22, Try.ntmps22
                  go_wp2_with (first | ((with_reducible refine gate_callee (f := 15) rfl ?_); refine goesL_ (some 10) rfl rfl Try.func15 (by kernel_rfl) rfl #[.int .i64 (-7), .int .i64 2] rfl (by (try simp only [List.map_toArray, List.map_cons, List.map_nil]); first | done | rfl | (simp only [List.length_drop, List.length_take]; rfl)) ?_; (with_reducible refine (num_Quo.calls (-7) 2 t124 t125 _ A1.out).mono ?_); rintro e w' ⟨rfl, ⟨nd, rfl⟩⟩; refine ⟨_, rfl, ?_⟩) | ((with_reducible refine gate_callee (f := 20) rfl ?_); refine goesL_ (some 14) rfl rfl Try.func20 (by kernel_rfl) rfl #[.int .i64 (-7), .int .i64 2] rfl (by (try simp only [List.map_toArray, List.map_cons, List.map_nil]); first | done | rfl | (simp only [List.length_drop, List.length_take]; rfl)) ?_; (with_reducible refine (num_Mod.calls (-7) 2 t126 t127 _ A2.out).mono ?_); rintro e w' ⟨rfl, ⟨nd, rfl⟩⟩; refine ⟨_, rfl, ?_⟩) | ((with_reducible refine gate_callee (f := 23) rfl ?_); refine goesL_ (some 18) rfl rfl Try.func23 (by kernel_rfl) rfl #[.string (⟨#[45, 48, 48, 55]⟩ : ByteArray)] rfl (by (try simp only [List.map_toArray, List.map_cons, List.map_nil]); first | done | rfl | (simp only [List.length_drop, List.length_take]; rfl)) ?_; (with_reducible refine (num_Read.calls (⟨#[45, 48, 48, 55]⟩ : ByteArray) t128 t129 _ A3.out).mono ?_); rintro e w17 ⟨rfl, hb⟩; refine ⟨_, rfl, ?_⟩; have n0_ := Aside0.mk (below_step (by repeat (first | (with_reducible first | exact HB.out | apply below_alloc | apply pw_below_drewN | apply below_drew1) | exact HB.out)) hb); clear HB; have HB := n0_; clear n0_; (try clear hb); (try clear hb2); (try clear hk); (try clear hi)) | ((with_reducible refine gate_callee (f := 28) rfl ?_); refine goesL_ (some 22) rfl rfl Try.func28 (by kernel_rfl) rfl #[.int .i64 4294967296, .int .i64 2147483648] rfl (by (try simp only [List.map_toArray, List.map_cons, List.map_nil]); first | done | rfl | (simp only [List.length_drop, List.length_take]; rfl)) ?_; (with_reducible refine (num_Mul.calls 4294967296 2147483648 t130 t131 _ A4.out).mono ?_); rintro e w' ⟨rfl, ⟨nd, rfl⟩⟩; refine ⟨_, rfl, ?_⟩) | (go_at_call 25; (with_reducible refine (num_Text.calls (-12) t132 _ A12.out).mono ?_); rintro e w18 ⟨rfl, hb⟩; have n0_ := Aside0.mk (below_step (by repeat (first | (with_reducible first | exact HB.out | apply below_alloc | apply pw_below_drewN | apply below_drew1) | exact HB.out)) hb); clear HB; have HB := n0_; clear n0_; (try clear hb); (try clear hb2); (try clear hk); (try clear hi)))
                  go_ret
                  exact ⟨by first | rfl | (simp [errW_none, errW_some] <;> rfl) | (simp [*, errW_none, errW_some] <;> rfl), by repeat (first | (with_reducible first | exact HB.out | apply below_alloc | apply pw_below_drewN | apply below_drew1) | exact HB.out)⟩
              · rw [if_neg c11] at H
                have c11b0 : (t131 == 10) = false := beq_eq_false_iff_ne.mpr c11
                have c11b1 : (t131 != 10) = true := bne_iff_ne.mpr c11
                obtain rfl := Option.some.inj H
                go_enter Try.func22, Try.ntmps22
                go_wp2_with (first | ((with_reducible refine gate_callee (f := 15) rfl ?_); refine goesL_ (some 10) rfl rfl Try.func15 (by kernel_rfl) rfl #[.int .i64 (-7), .int .i64 2] rfl (by (try simp only [List.map_toArray, List.map_cons, List.map_nil]); first | done | rfl | (simp only [List.length_drop, List.length_take]; rfl)) ?_; (with_reducible refine (num_Quo.calls (-7) 2 t124 t125 _ A1.out).mono ?_); rintro e w' ⟨rfl, ⟨nd, rfl⟩⟩; refine ⟨_, rfl, ?_⟩) | ((with_reducible refine gate_callee (f := 20) rfl ?_); refine goesL_ (some 14) rfl rfl Try.func20 (by kernel_rfl) rfl #[.int .i64 (-7), .int .i64 2] rfl (by (try simp only [List.map_toArray, List.map_cons, List.map_nil]); first | done | rfl | (simp only [List.length_drop, List.length_take]; rfl)) ?_; (with_reducible refine (num_Mod.calls (-7) 2 t126 t127 _ A2.out).mono ?_); rintro e w' ⟨rfl, ⟨nd, rfl⟩⟩; refine ⟨_, rfl, ?_⟩) | ((with_reducible refine gate_callee (f := 23) rfl ?_); refine goesL_ (some 18) rfl rfl Try.func23 (by kernel_rfl) rfl #[.string (⟨#[45, 48, 48, 55]⟩ : ByteArray)] rfl (by (try simp only [List.map_toArray, List.map_cons, List.map_nil]); first | done | rfl | (simp only [List.length_drop, List.length_take]; rfl)) ?_; (with_reducible refine (num_Read.calls (⟨#[45, 48, 48, 55]⟩ : ByteArray) t128 t129 _ A3.out).mono ?_); rintro e w19 ⟨rfl, hb⟩; refine ⟨_, rfl, ?_⟩; have n0_ := Aside0.mk (below_step (by repeat (first | (with_reducible first | exact HB.out | apply below_alloc | apply pw_below_drewN | apply below_drew1) | exact HB.out)) hb); clear HB; have HB := n0_; clear n0_; (try clear hb); (try clear hb2); (try clear hk); (try clear hi)) | ((with_reducible refine gate_callee (f := 28) rfl ?_); refine goesL_ (some 22) rfl rfl Try.func28 (by kernel_rfl) rfl #[.int .i64 4294967296, .int .i64 2147483648] rfl (by (try simp only [List.map_toArray, List.map_cons, List.map_nil]); first | done | rfl | (simp only [List.length_drop, List.length_take]; rfl)) ?_; (with_reducible refine (num_Mul.calls 4294967296 2147483648 t130 t131 _ A4.out).mono ?_); rintro e w' ⟨rfl, ⟨nd, rfl⟩⟩; refine ⟨_, rfl, ?_⟩))
                go_ret
                exact ⟨by first | rfl | (simp [errW_none, errW_some] <;> rfl) | (simp [*, errW_none, errW_some] <;> rfl), by repeat (first | (with_reducible first | exact HB.out | apply below_alloc | apply pw_below_drewN | apply below_drew1) | exact HB.out)⟩
            · rw [if_neg c10] at H
              have c10b0 : (t129 == 0) = false := beq_eq_false_iff_ne.mpr c10
              have c10b1 : (t129 != 0) = true := bne_iff_ne.mpr c10
              obtain rfl := Option.some.inj H
              go_enter Try.func22, Try.ntmps22
              go_wp2_with (first | ((with_reducible refine gate_callee (f := 15) rfl ?_); refine goesL_ (some 10) rfl rfl Try.func15 (by kernel_rfl) rfl #[.int .i64 (-7), .int .i64 2] rfl (by (try simp only [List.map_toArray, List.map_cons, List.map_nil]); first | done | rfl | (simp only [List.length_drop, List.length_take]; rfl)) ?_; (with_reducible refine (num_Quo.calls (-7) 2 t124 t125 _ A1.out).mono ?_); rintro e w' ⟨rfl, ⟨nd, rfl⟩⟩; refine ⟨_, rfl, ?_⟩) | ((with_reducible refine gate_callee (f := 20) rfl ?_); refine goesL_ (some 14) rfl rfl Try.func20 (by kernel_rfl) rfl #[.int .i64 (-7), .int .i64 2] rfl (by (try simp only [List.map_toArray, List.map_cons, List.map_nil]); first | done | rfl | (simp only [List.length_drop, List.length_take]; rfl)) ?_; (with_reducible refine (num_Mod.calls (-7) 2 t126 t127 _ A2.out).mono ?_); rintro e w' ⟨rfl, ⟨nd, rfl⟩⟩; refine ⟨_, rfl, ?_⟩) | ((with_reducible refine gate_callee (f := 23) rfl ?_); refine goesL_ (some 18) rfl rfl Try.func23 (by kernel_rfl) rfl #[.string (⟨#[45, 48, 48, 55]⟩ : ByteArray)] rfl (by (try simp only [List.map_toArray, List.map_cons, List.map_nil]); first | done | rfl | (simp only [List.length_drop, List.length_take]; rfl)) ?_; (with_reducible refine (num_Read.calls (⟨#[45, 48, 48, 55]⟩ : ByteArray) t128 t129 _ A3.out).mono ?_); rintro e w20 ⟨rfl, hb⟩; refine ⟨_, rfl, ?_⟩; have n0_ := Aside0.mk (below_step (by repeat (first | (with_reducible first | exact HB.out | apply below_alloc | apply pw_below_drewN | apply below_drew1) | exact HB.out)) hb); clear HB; have HB := n0_; clear n0_; (try clear hb); (try clear hb2); (try clear hk); (try clear hi)) | ((with_reducible refine gate_callee (f := 28) rfl ?_); refine goesL_ (some 22) rfl rfl Try.func28 (by kernel_rfl) rfl #[.int .i64 4294967296, .int .i64 2147483648] rfl (by (try simp only [List.map_toArray, List.map_cons, List.map_nil]); first | done | rfl | (simp only [List.length_drop, List.length_take]; rfl)) ?_; (with_reducible refine (num_Mul.calls 4294967296 2147483648 t130 t131 _ A4.out).mono ?_); rintro e w' ⟨rfl, ⟨nd, rfl⟩⟩; refine ⟨_, rfl, ?_⟩))
              go_ret
              exact ⟨by first | rfl | (simp [errW_none, errW_some] <;> rfl) | (simp [*, errW_none, errW_some] <;> rfl), by repeat (first | (with_reducible first | exact HB.out | apply below_alloc | apply pw_below_drewN | apply below_drew1) | exact HB.out)⟩
          · rw [if_neg c9] at H
            have c9b0 : (t128 == (-7)) = false := beq_eq_false_iff_ne.mpr c9
            have c9b1 : (t128 != (-7)) = true := bne_iff_ne.mpr c9
            obtain rfl := Option.some.inj H
            go_enter Try.func22, Try.ntmps22
            go_wp2_with (first | ((with_reducible refine gate_callee (f := 15) rfl ?_); refine goesL_ (some 10) rfl rfl Try.func15 (by kernel_rfl) rfl #[.int .i64 (-7), .int .i64 2] rfl (by (try simp only [List.map_toArray, List.map_cons, List.map_nil]); first | done | rfl | (simp only [List.length_drop, List.length_take]; rfl)) ?_; (with_reducible refine (num_Quo.calls (-7) 2 t124 t125 _ A1.out).mono ?_); rintro e w' ⟨rfl, ⟨nd, rfl⟩⟩; refine ⟨_, rfl, ?_⟩) | ((with_reducible refine gate_callee (f := 20) rfl ?_); refine goesL_ (some 14) rfl rfl Try.func20 (by kernel_rfl) rfl #[.int .i64 (-7), .int .i64 2] rfl (by (try simp only [List.map_toArray, List.map_cons, List.map_nil]); first | done | rfl | (simp only [List.length_drop, List.length_take]; rfl)) ?_; (with_reducible refine (num_Mod.calls (-7) 2 t126 t127 _ A2.out).mono ?_); rintro e w' ⟨rfl, ⟨nd, rfl⟩⟩; refine ⟨_, rfl, ?_⟩) | ((with_reducible refine gate_callee (f := 23) rfl ?_); refine goesL_ (some 18) rfl rfl Try.func23 (by kernel_rfl) rfl #[.string (⟨#[45, 48, 48, 55]⟩ : ByteArray)] rfl (by (try simp only [List.map_toArray, List.map_cons, List.map_nil]); first | done | rfl | (simp only [List.length_drop, List.length_take]; rfl)) ?_; (with_reducible refine (num_Read.calls (⟨#[45, 48, 48, 55]⟩ : ByteArray) t128 t129 _ A3.out).mono ?_); rintro e w21 ⟨rfl, hb⟩; refine ⟨_, rfl, ?_⟩; have n0_ := Aside0.mk (below_step (by repeat (first | (with_reducible first | exact HB.out | apply below_alloc | apply pw_below_drewN | apply below_drew1) | exact HB.out)) hb); clear HB; have HB := n0_; clear n0_; (try clear hb); (try clear hb2); (try clear hk); (try clear hi)) | ((with_reducible refine gate_callee (f := 28) rfl ?_); refine goesL_ (some 22) rfl rfl Try.func28 (by kernel_rfl) rfl #[.int .i64 4294967296, .int .i64 2147483648] rfl (by (try simp only [List.map_toArray, List.map_cons, List.map_nil]); first | done | rfl | (simp only [List.length_drop, List.length_take]; rfl)) ?_; (with_reducible refine (num_Mul.calls 4294967296 2147483648 t130 t131 _ A4.out).mono ?_); rintro e w' ⟨rfl, ⟨nd, rfl⟩⟩; refine ⟨_, rfl, ?_⟩))
            go_ret
            exact ⟨by first | rfl | (simp [errW_none, errW_some] <;> rfl) | (simp [*, errW_none, errW_some] <;> rfl), by repeat (first | (with_reducible first | exact HB.out | apply below_alloc | apply pw_below_drewN | apply below_drew1) | exact HB.out)⟩
        · rw [if_neg c8] at H
          have c8b0 : (t127 == 0) = false := beq_eq_false_iff_ne.mpr c8
          have c8b1 : (t127 != 0) = true := bne_iff_ne.mpr c8
          obtain rfl := Option.some.inj H
          go_enter Try.func22, Try.ntmps22
          go_wp2_with (first | ((with_reducible refine gate_callee (f := 15) rfl ?_); refine goesL_ (some 10) rfl rfl Try.func15 (by kernel_rfl) rfl #[.int .i64 (-7), .int .i64 2] rfl (by (try simp only [List.map_toArray, List.map_cons, List.map_nil]); first | done | rfl | (simp only [List.length_drop, List.length_take]; rfl)) ?_; (with_reducible refine (num_Quo.calls (-7) 2 t124 t125 _ A1.out).mono ?_); rintro e w' ⟨rfl, ⟨nd, rfl⟩⟩; refine ⟨_, rfl, ?_⟩) | ((with_reducible refine gate_callee (f := 20) rfl ?_); refine goesL_ (some 14) rfl rfl Try.func20 (by kernel_rfl) rfl #[.int .i64 (-7), .int .i64 2] rfl (by (try simp only [List.map_toArray, List.map_cons, List.map_nil]); first | done | rfl | (simp only [List.length_drop, List.length_take]; rfl)) ?_; (with_reducible refine (num_Mod.calls (-7) 2 t126 t127 _ A2.out).mono ?_); rintro e w' ⟨rfl, ⟨nd, rfl⟩⟩; refine ⟨_, rfl, ?_⟩) | ((with_reducible refine gate_callee (f := 23) rfl ?_); refine goesL_ (some 18) rfl rfl Try.func23 (by kernel_rfl) rfl #[.string (⟨#[45, 48, 48, 55]⟩ : ByteArray)] rfl (by (try simp only [List.map_toArray, List.map_cons, List.map_nil]); first | done | rfl | (simp only [List.length_drop, List.length_take]; rfl)) ?_; (with_reducible refine (num_Read.calls (⟨#[45, 48, 48, 55]⟩ : ByteArray) t128 t129 _ A3.out).mono ?_); rintro e w22 ⟨rfl, hb⟩; refine ⟨_, rfl, ?_⟩; have n0_ := Aside0.mk (below_step (by repeat (first | (with_reducible first | exact HB.out | apply below_alloc | apply pw_below_drewN | apply below_drew1) | exact HB.out)) hb); clear HB; have HB := n0_; clear n0_; (try clear hb); (try clear hb2); (try clear hk); (try clear hi)) | ((with_reducible refine gate_callee (f := 28) rfl ?_); refine goesL_ (some 22) rfl rfl Try.func28 (by kernel_rfl) rfl #[.int .i64 4294967296, .int .i64 2147483648] rfl (by (try simp only [List.map_toArray, List.map_cons, List.map_nil]); first | done | rfl | (simp only [List.length_drop, List.length_take]; rfl)) ?_; (with_reducible refine (num_Mul.calls 4294967296 2147483648 t130 t131 _ A4.out).mono ?_); rintro e w' ⟨rfl, ⟨nd, rfl⟩⟩; refine ⟨_, rfl, ?_⟩))
          go_ret
          exact ⟨by first | rfl | (simp [errW_none, errW_some] <;> rfl) | (simp [*, errW_none, errW_some] <;> rfl), by repeat (first | (with_reducible first | exact HB.out | apply below_alloc | apply pw_below_drewN | apply below_drew1) | exact HB.out)⟩
      · rw [if_neg c7] at H
        have c7b0 : (t126 == 1) = false := beq_eq_false_iff_ne.mpr c7
        have c7b1 : (t126 != 1) = true := bne_iff_ne.mpr c7
        obtain rfl := Option.some.inj H
        go_enter Try.func22, Try.ntmps22
        go_wp2_with (first | ((with_reducible refine gate_callee (f := 15) rfl ?_); refine goesL_ (some 10) rfl rfl Try.func15 (by kernel_rfl) rfl #[.int .i64 (-7), .int .i64 2] rfl (by (try simp only [List.map_toArray, List.map_cons, List.map_nil]); first | done | rfl | (simp only [List.length_drop, List.length_take]; rfl)) ?_; (with_reducible refine (num_Quo.calls (-7) 2 t124 t125 _ A1.out).mono ?_); rintro e w' ⟨rfl, ⟨nd, rfl⟩⟩; refine ⟨_, rfl, ?_⟩) | ((with_reducible refine gate_callee (f := 20) rfl ?_); refine goesL_ (some 14) rfl rfl Try.func20 (by kernel_rfl) rfl #[.int .i64 (-7), .int .i64 2] rfl (by (try simp only [List.map_toArray, List.map_cons, List.map_nil]); first | done | rfl | (simp only [List.length_drop, List.length_take]; rfl)) ?_; (with_reducible refine (num_Mod.calls (-7) 2 t126 t127 _ A2.out).mono ?_); rintro e w' ⟨rfl, ⟨nd, rfl⟩⟩; refine ⟨_, rfl, ?_⟩) | ((with_reducible refine gate_callee (f := 23) rfl ?_); refine goesL_ (some 18) rfl rfl Try.func23 (by kernel_rfl) rfl #[.string (⟨#[45, 48, 48, 55]⟩ : ByteArray)] rfl (by (try simp only [List.map_toArray, List.map_cons, List.map_nil]); first | done | rfl | (simp only [List.length_drop, List.length_take]; rfl)) ?_; (with_reducible refine (num_Read.calls (⟨#[45, 48, 48, 55]⟩ : ByteArray) t128 t129 _ A3.out).mono ?_); rintro e w23 ⟨rfl, hb⟩; refine ⟨_, rfl, ?_⟩; have n0_ := Aside0.mk (below_step (by repeat (first | (with_reducible first | exact HB.out | apply below_alloc | apply pw_below_drewN | apply below_drew1) | exact HB.out)) hb); clear HB; have HB := n0_; clear n0_; (try clear hb); (try clear hb2); (try clear hk); (try clear hi)) | ((with_reducible refine gate_callee (f := 28) rfl ?_); refine goesL_ (some 22) rfl rfl Try.func28 (by kernel_rfl) rfl #[.int .i64 4294967296, .int .i64 2147483648] rfl (by (try simp only [List.map_toArray, List.map_cons, List.map_nil]); first | done | rfl | (simp only [List.length_drop, List.length_take]; rfl)) ?_; (with_reducible refine (num_Mul.calls 4294967296 2147483648 t130 t131 _ A4.out).mono ?_); rintro e w' ⟨rfl, ⟨nd, rfl⟩⟩; refine ⟨_, rfl, ?_⟩))
        go_ret
        exact ⟨by first | rfl | (simp [errW_none, errW_some] <;> rfl) | (simp [*, errW_none, errW_some] <;> rfl), by repeat (first | (with_reducible first | exact HB.out | apply below_alloc | apply pw_below_drewN | apply below_drew1) | exact HB.out)⟩
    · rw [if_neg c6] at H
      have c6b0 : (t125 == 0) = false := beq_eq_false_iff_ne.mpr c6
      have c6b1 : (t125 != 0) = true := bne_iff_ne.mpr c6
      obtain rfl := Option.some.inj H
      go_enter Try.func22, Try.ntmps22
      go_wp2_with (first | ((with_reducible refine gate_callee (f := 15) rfl ?_); refine goesL_ (some 10) rfl rfl Try.func15 (by kernel_rfl) rfl #[.int .i64 (-7), .int .i64 2] rfl (by (try simp only [List.map_toArray, List.map_cons, List.map_nil]); first | done | rfl | (simp only [List.length_drop, List.length_take]; rfl)) ?_; (with_reducible refine (num_Quo.calls (-7) 2 t124 t125 _ A1.out).mono ?_); rintro e w' ⟨rfl, ⟨nd, rfl⟩⟩; refine ⟨_, rfl, ?_⟩) | ((with_reducible refine gate_callee (f := 20) rfl ?_); refine goesL_ (some 14) rfl rfl Try.func20 (by kernel_rfl) rfl #[.int .i64 (-7), .int .i64 2] rfl (by (try simp only [List.map_toArray, List.map_cons, List.map_nil]); first | done | rfl | (simp only [List.length_drop, List.length_take]; rfl)) ?_; (with_reducible refine (num_Mod.calls (-7) 2 t126 t127 _ A2.out).mono ?_); rintro e w' ⟨rfl, ⟨nd, rfl⟩⟩; refine ⟨_, rfl, ?_⟩) | ((with_reducible refine gate_callee (f := 23) rfl ?_); refine goesL_ (some 18) rfl rfl Try.func23 (by kernel_rfl) rfl #[.string (⟨#[45, 48, 48, 55]⟩ : ByteArray)] rfl (by (try simp only [List.map_toArray, List.map_cons, List.map_nil]); first | done | rfl | (simp only [List.length_drop, List.length_take]; rfl)) ?_; (with_reducible refine (num_Read.calls (⟨#[45, 48, 48, 55]⟩ : ByteArray) t128 t129 _ A3.out).mono ?_); rintro e w24 ⟨rfl, hb⟩; refine ⟨_, rfl, ?_⟩; have n0_ := Aside0.mk (below_step (by repeat (first | (with_reducible first | exact HB.out | apply below_alloc | apply pw_below_drewN | apply below_drew1) | exact HB.out)) hb); clear HB; have HB := n0_; clear n0_; (try clear hb); (try clear hb2); (try clear hk); (try clear hi)) | ((with_reducible refine gate_callee (f := 28) rfl ?_); refine goesL_ (some 22) rfl rfl Try.func28 (by kernel_rfl) rfl #[.int .i64 4294967296, .int .i64 2147483648] rfl (by (try simp only [List.map_toArray, List.map_cons, List.map_nil]); first | done | rfl | (simp only [List.length_drop, List.length_take]; rfl)) ?_; (with_reducible refine (num_Mul.calls 4294967296 2147483648 t130 t131 _ A4.out).mono ?_); rintro e w' ⟨rfl, ⟨nd, rfl⟩⟩; refine ⟨_, rfl, ?_⟩))
      go_ret
      exact ⟨by first | rfl | (simp [errW_none, errW_some] <;> rfl) | (simp [*, errW_none, errW_some] <;> rfl), by repeat (first | (with_reducible first | exact HB.out | apply below_alloc | apply pw_below_drewN | apply below_drew1) | exact HB.out)⟩
  · rw [if_neg c5] at H
    have c5b0 : (t124 == (-3)) = false := beq_eq_false_iff_ne.mpr c5
    have c5b1 : (t124 != (-3)) = true := bne_iff_ne.mpr c5
    obtain rfl := Option.some.inj H
    go_enter Try.func22, Try.ntmps22
    go_wp2_with (first | ((with_reducible refine gate_callee (f := 15) rfl ?_); refine goesL_ (some 10) rfl rfl Try.func15 (by kernel_rfl) rfl #[.int .i64 (-7), .int .i64 2] rfl (by (try simp only [List.map_toArray, List.map_cons, List.map_nil]); first | done | rfl | (simp only [List.length_drop, List.length_take]; rfl)) ?_; (with_reducible refine (num_Quo.calls (-7) 2 t124 t125 _ A1.out).mono ?_); rintro e w' ⟨rfl, ⟨nd, rfl⟩⟩; refine ⟨_, rfl, ?_⟩) | ((with_reducible refine gate_callee (f := 20) rfl ?_); refine goesL_ (some 14) rfl rfl Try.func20 (by kernel_rfl) rfl #[.int .i64 (-7), .int .i64 2] rfl (by (try simp only [List.map_toArray, List.map_cons, List.map_nil]); first | done | rfl | (simp only [List.length_drop, List.length_take]; rfl)) ?_; (with_reducible refine (num_Mod.calls (-7) 2 t126 t127 _ A2.out).mono ?_); rintro e w' ⟨rfl, ⟨nd, rfl⟩⟩; refine ⟨_, rfl, ?_⟩) | ((with_reducible refine gate_callee (f := 23) rfl ?_); refine goesL_ (some 18) rfl rfl Try.func23 (by kernel_rfl) rfl #[.string (⟨#[45, 48, 48, 55]⟩ : ByteArray)] rfl (by (try simp only [List.map_toArray, List.map_cons, List.map_nil]); first | done | rfl | (simp only [List.length_drop, List.length_take]; rfl)) ?_; (with_reducible refine (num_Read.calls (⟨#[45, 48, 48, 55]⟩ : ByteArray) t128 t129 _ A3.out).mono ?_); rintro e w25 ⟨rfl, hb⟩; refine ⟨_, rfl, ?_⟩; have n0_ := Aside0.mk (below_step (by repeat (first | (with_reducible first | exact HB.out | apply below_alloc | apply pw_below_drewN | apply below_drew1) | exact HB.out)) hb); clear HB; have HB := n0_; clear n0_; (try clear hb); (try clear hb2); (try clear hk); (try clear hi)) | ((with_reducible refine gate_callee (f := 28) rfl ?_); refine goesL_ (some 22) rfl rfl Try.func28 (by kernel_rfl) rfl #[.int .i64 4294967296, .int .i64 2147483648] rfl (by (try simp only [List.map_toArray, List.map_cons, List.map_nil]); first | done | rfl | (simp only [List.length_drop, List.length_take]; rfl)) ?_; (with_reducible refine (num_Mul.calls 4294967296 2147483648 t130 t131 _ A4.out).mono ?_); rintro e w' ⟨rfl, ⟨nd, rfl⟩⟩; refine ⟨_, rfl, ?_⟩))
    go_ret
    exact ⟨by first | rfl | (simp [errW_none, errW_some] <;> rfl) | (simp [*, errW_none, errW_some] <;> rfl), by repeat (first | (with_reducible first | exact HB.out | apply below_alloc | apply pw_below_drewN | apply below_drew1) | exact HB.out)⟩

end Go.Proofs.Ytjlfclhlfgjgcaa.P
