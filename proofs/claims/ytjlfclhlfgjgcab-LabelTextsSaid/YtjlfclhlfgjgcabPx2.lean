-- PRINTED by a program of this session over the kit's print.py.
import Derived.Test.YtjlfclhlfgjgcabPx0
import Derived.Test.YtjlfclhlfgjgcabPx1
namespace Go.Proofs.Ytjlfclhlfgjgcab.P
open Go.Own Go.RowKit Go.Proofs.YtjlfclhlfgjgcabW.PrintWords Go.Proofs.YtjlfclhlfgjgcabW.PrintLast Go.Proofs.YtjlfclhlfgjgcabW.PrintMore
attribute [local go_sem] max2_int min2_int max_two min_two max_three min_three max_four min_four   -- for this text's walks alone
set_option linter.unusedVariables false
set_option linter.unusedSimpArgs false

/-! ### label_Under: function 13 -/
def label_Under.f (l0 : List Int) (l1 : List Int) : Option (Bool) := (label_parts.f l0 l1).bind fun t111 => (some (t111 == (l1.length : Int)))
set_option maxHeartbeats 8000000 in
set_option maxRecDepth 100000 in
theorem label_Under.calls (A0 : Option Addr) (c0 : Nat) (l0 : List Int) (A1 : Option Addr) (c1 : Nat) (l1 : List Int) (r : Bool) (w : World) (hr0 : Kd.C (Kd.int .i64) w A0 l0.length l0) (hc0 : l0.length ≤ c0) (hr1 : Kd.C (Kd.int .i64) w A1 l1.length l1) (hc1 : l1.length ≤ c1) (h : label_Under.f l0 l1 = some r) :
    Calls Try.prog 13 #[.slice A0 l0.length c0, .slice A1 l1.length c1] w fun e w' => e = .returned (.bool r) ∧ Below w.heap.size w w' := by
  have HR0 := Aside0.mk hr0
  have HC0 := Aside0.mk hc0
  clear hr0 hc0
  have HR1 := Aside0.mk hr1
  have HC1 := Aside0.mk hc1
  clear hr1 hc1
  have HB := Aside0.mk (Below.refl w.heap.size w)
  have H : ((label_parts.f l0 l1).bind fun t111 => (some (t111 == (l1.length : Int)))) = some r := h
  clear h
  replace H := Option.bind_eq_some_iff.mp H
  obtain ⟨t111, A30, H⟩ := H
  replace H : (some (t111 == (l1.length : Int))) = some r := H
  have A3 := Aside0.mk A30
  clear A30
  obtain rfl := Option.some.inj H
  go_enter Try.func13, Try.ntmps13
  go_wp2_with (first | ((with_reducible refine gate_callee (f := 20) rfl ?_); refine goesL_ (some 7) rfl rfl Try.func20 (by kernel_rfl) rfl #[.slice A0 l0.length c0, .slice A1 l1.length c1] rfl (by (try simp only [List.map_toArray, List.map_cons, List.map_nil]); first | done | rfl | (simp only [List.length_drop, List.length_take]; rfl)) ?_; (with_reducible refine (label_parts.calls _ _ l0 _ _ l1 t111 _ ?side1 ?side2 ?side3 ?side4 A3.out).mono ?_); (case side1 => repeat (first | exact HR0.out | (with_reducible refine Kd.C_alloc ?_ _) | (with_reducible refine Kd.C_drewN ?_ _) | (with_reducible refine Kd.C_drew ?_))); (case side2 => exact HC0.out); (case side3 => repeat (first | exact HR1.out | (with_reducible refine Kd.C_alloc ?_ _) | (with_reducible refine Kd.C_drewN ?_ _) | (with_reducible refine Kd.C_drew ?_))); (case side4 => exact HC1.out); rintro e w4 ⟨rfl, hb⟩; refine ⟨_, rfl, ?_⟩; have n0_ := Aside0.mk (below_step (by repeat (first | (with_reducible first | exact HB.out | apply below_alloc | apply pw_below_drewN | apply below_drew1) | exact HB.out)) hb); clear HB; have HB := n0_; clear n0_; (try clear hb); (try clear hb2); (try clear hk); (try clear hi)))
  go_ret
  exact ⟨by first | rfl | (simp [errW_none, errW_some] <;> rfl) | (simp [*, errW_none, errW_some] <;> rfl), by repeat (first | (with_reducible first | exact HB.out | apply below_alloc | apply pw_below_drewN | apply below_drew1) | exact HB.out)⟩

/-! ### num_size: function 26 -/
def num_size.f (a0 : Int) : Option (Int) := if a0 < 0 then (some (IntKind.u64.wrap (-(IntKind.u64.wrap (a0))))) else (some (IntKind.u64.wrap (a0)))
set_option maxHeartbeats 8000000 in
set_option maxRecDepth 100000 in
theorem num_size.calls (a0 : Int) (r : Int) (w : World) (h : num_size.f a0 = some r) :
    Calls Try.prog 26 #[.int .i64 a0] w fun e w' => e = .returned (.int .u64 r) ∧ Drawn0 w w' := by
  have H : (if a0 < 0 then (some (IntKind.u64.wrap (-(IntKind.u64.wrap (a0))))) else (some (IntKind.u64.wrap (a0)))) = some r := h
  clear h
  by_cases c2 : a0 < 0
  · rw [if_pos c2] at H
    have c2b0 : decide (a0 < 0) = true := decide_eq_true c2
    clear c2
    obtain rfl := Option.some.inj H
    go_enter Try.func26, Try.ntmps26
    go_wp2
    go_ret
    exact ⟨by first | rfl | (simp; done) | (simp [*]; done), by repeat (first | exact Drawn0.refl _ | apply Drawn0.step)⟩
  · rw [if_neg c2] at H
    have c2b0 : decide (a0 < 0) = false := decide_eq_false c2
    clear c2
    obtain rfl := Option.some.inj H
    go_enter Try.func26, Try.ntmps26
    go_wp2
    go_ret
    exact ⟨by first | rfl | (simp; done) | (simp [*]; done), by repeat (first | exact Drawn0.refl _ | apply Drawn0.step)⟩

/-! ### num_Text: function 22 (given) -/
def num_Text.f (a0 : Int) : Option ByteArray := if -9223372036854775808 ≤ a0 ∧ a0 ≤ 9223372036854775807 then some ⟨(textB a0).toArray⟩ else none

def num_Text.Rel (B : Nat) (w : World) (u : Nat) (q m : Nat) (wr : World) : Prop :=
  ∃ cs : Array Value, ArrAt wr B cs ∧ Below B w wr ∧ cs.size = 20 ∧ m ≤ 9223372036854775808 ∧ (digs m).length ≤ q ∧ q < 20 ∧ ∃ done : List UInt8, cs.toList.drop (q + 1) = done.map (fun (b : UInt8) => Value.int .u8 b.toNat) ∧ digs u = digs m ++ done

theorem num_Text.size_nat {a u : Int} (h1 : -9223372036854775808 ≤ a) (h2 : a ≤ 9223372036854775807) (h : num_size.f a = some u) : u = a.natAbs := by
  unfold num_size.f at h
  have e : ∀ x : Int, IntKind.u64.wrap x = x % 18446744073709551616 := fun x => by first | rfl | (simp [IntKind.wrap]; done)
  split at h <;> (injection h with h; subst h; rw [e]; (try rw [e]); omega)

theorem num_Text.start (w : World) (u : Nat) (hu : u ≤ 9223372036854775808) (nd : Nat) : num_Text.Rel w.heap.size w u 19 u ((w.alloc (.cells #[.int .u8 0, .int .u8 0, .int .u8 0, .int .u8 0, .int .u8 0, .int .u8 0, .int .u8 0, .int .u8 0, .int .u8 0, .int .u8 0, .int .u8 0, .int .u8 0, .int .u8 0, .int .u8 0, .int .u8 0, .int .u8 0, .int .u8 0, .int .u8 0, .int .u8 0, .int .u8 0] 40)).drewN nd) := by
  exact ⟨_, (ArrAt.alloc w _ 40).drewN nd, pw_below_drewN ((Below.refl _ _).alloc (Nat.le_refl _) _) nd, rfl, hu, digs_len 18 u (by omega), by omega, [], rfl, by simp⟩

theorem num_Text.step {B : Nat} {w wr : World} {u q m : Nat} (h : num_Text.Rel B w u q m wr) (hm : ¬ m < 10) : ∃ q', q = q' + 1 ∧ num_Text.Rel B w u q' (m / 10) (wr.setCell ⟨B, q, none⟩ (.int .u8 (48 + (m : Int) % 10))) := by
  obtain ⟨cs, ha, hb, hs, hm64, hl, hq, done, hd, hu⟩ := h
  have hp := digs_pos (m / 10)
  have e : digs m = digs (m / 10) ++ [UInt8.ofNat (48 + m % 10)] := by rw [digs]; simp [hm]
  have hl' := hl
  rw [e] at hl'
  simp at hl'
  obtain ⟨q', rfl⟩ : ∃ q', q = q' + 1 := ⟨q - 1, by omega⟩
  refine ⟨q', rfl, _, ha.set _ _ (by omega), hb.setCell (Nat.le_refl _) _, by simp [hs], by omega, by omega, by omega, UInt8.ofNat (48 + m % 10) :: done, ?_, by rw [hu, e]; simp⟩
  rw [List.drop_eq_getElem_cons (by simp [hs]; omega)]
  simp [Array.setIfInBounds, hs, hq, ← hd, List.drop_set_of_lt]
  omega

theorem num_Text.last {B : Nat} {w wr : World} {u q m : Nat} (h : num_Text.Rel B w u q m wr) (hm : m < 10) : ∃ cs : Array Value, ArrAt (wr.setCell ⟨B, q, none⟩ (.int .u8 (48 + (m : Int) % 10))) B cs ∧ Below B w (wr.setCell ⟨B, q, none⟩ (.int .u8 (48 + (m : Int) % 10))) ∧ cs.size = 20 ∧
    cs.toList.drop q = (digs u).map (fun (b : UInt8) => Value.int .u8 b.toNat) := by
  obtain ⟨cs, ha, hb, hs, hm64, hl, hq, done, hd, hu⟩ := h
  have e : digs m = [UInt8.ofNat (48 + m)] := by rw [digs]; simp [hm]
  refine ⟨_, ha.set _ _ (by omega), hb.setCell (Nat.le_refl _) _, by simp [hs], ?_⟩
  rw [List.drop_eq_getElem_cons (by simp [hs]; omega)]
  rw [hu, e]
  simp [Array.setIfInBounds, hs, hq, ← hd, List.drop_set_of_lt]
  omega

theorem num_Text.slice20 (W : World) (b : Nat) (i : Nat) (hi : i < 20) : (Instr.sliceAt 40 (.pointer (some ⟨b, 0, none⟩)) (some (.int .i64 i)) none none).run Try.prog W = .ok (.slice (some ⟨b, i, none⟩) (20 - i) (20 - i)) W := by
  have ha : Try.prog.arrayLen 40 = 20 := by kernel_rfl
  have he : Try.prog.elem 40 = 5 := by kernel_rfl
  have hz : (sizeOf 5).run Try.prog W = .ok 1 W := by kernel_rfl
  have hi2 : ((i : Int)).toNat = i := by omega
  rw [run_sliceAt_array_l (P := Try.prog) W 40 ⟨b, 0, none⟩ (by kernel_rfl) .i64 i (by omega) (by rw [ha]; omega), ha, he, hz, hi2]
  have hne : ¬ (20 = i) := by omega
  simp [Result.andThen, slicedAt, Addr.add, hne]
  intro h
  exact h.symm

theorem num_Text.conv {W : World} {b q : Nat} {cs : Array Value} (h : ArrAt W b cs) (l : List UInt8) (hl : cs.toList.drop q = l.map (fun (b : UInt8) => Value.int .u8 b.toNat)) (n c : Nat) (hn : n = l.length) :
    (convert 43 9 (.slice (some ⟨b, q, none⟩) n c)).run Try.prog W = .ok (.string ⟨l.toArray⟩) W :=
  conv_arr h 43 5 9 (by kernel_rfl) (by kernel_rfl) (by kernel_rfl) l n c (fun i hi => by
    have : cs[q + i]? = (cs.toList.drop q)[i]? := by simp
    rw [this, hl]
    simp) hn

set_option maxRecDepth 100000 in
theorem num_Text.walk (a : Int) (h1 : -9223372036854775808 ≤ a) (h2 : a ≤ 9223372036854775807) (w : World) :
    Calls Try.prog 22 #[.int .i64 a] w fun e w' => e = .returned (.string ⟨(textB a).toArray⟩) ∧ Below w.heap.size w w' := by
  obtain ⟨u, hu⟩ : ∃ u, num_size.f a = some u := by unfold num_size.f; split <;> exact ⟨_, rfl⟩
  obtain rfl := num_Text.size_nat h1 h2 hu
  go_enter Try.func22, Try.ntmps22
  go_wp2_with (go_at_call 26; (with_reducible refine (num_size.calls a _ _ hu).mono ?_); rintro e w' ⟨rfl, ⟨nd, rfl⟩⟩)
  go_loopw [4, 5] (fun pv mv wr => ∃ (q m : Nat), pv = .int .i64 (q + 1) ∧ mv = .int .u64 m ∧ Aside0 (num_Text.Rel w.heap.size w a.natAbs q m wr)) (fun _ mv _ => (intOf mv).toNat)
  case atStart => exact ⟨19, a.natAbs, rfl, rfl, ⟨num_Text.start w _ (by omega) nd⟩⟩
  case round =>
    obtain ⟨q, m, rfl, rfl, hr⟩ := hrel
    have hq : q < 20 := hr.out.choose_spec.2.2.2.2.2.1
    have hm2 : m ≤ 9223372036854775808 := hr.out.choose_spec.2.2.2.1
    obtain ⟨v0, hv0⟩ : ∃ v, wr.cell? ⟨w.heap.size, q, none⟩ = some v := by
      obtain ⟨cs, ha, -, hs, -⟩ := hr.out
      exact ⟨cs[q], by rw [ha.cell]; simp [hs, hq]⟩
    have hf0 : wr.frozen? ⟨w.heap.size, q, none⟩ = false := hr.out.choose_spec.1.free q
    by_cases hm : (m : Int) < 10
    · obtain ⟨cs, ha2, hb2, hs2, hd2⟩ := num_Text.last hr.out (by omega)
      have hq1 : 1 ≤ q := by
        obtain ⟨_, _, _, _, _, hl, _⟩ := hr.out
        have := digs_pos m
        omega
      have hlen : (digs a.natAbs).length = 20 - q := by
        have := congrArg List.length hd2
        simp [hs2] at this
        omega
      by_cases ha : a < 0
      · obtain ⟨q', rfl⟩ : ∃ q', q = q' + 1 := ⟨q - 1, by omega⟩
        obtain ⟨v1, hv1⟩ : ∃ v, wr.cell? ⟨w.heap.size, q', none⟩ = some v := by
          obtain ⟨cs, ha, -, hs, -⟩ := hr.out
          exact ⟨cs[q'], by rw [ha.cell]; simp⟩
        have hf1 : wr.frozen? ⟨w.heap.size, q', none⟩ = false := hr.out.choose_spec.1.free q'
        have hsl := fun W => num_Text.slice20 W w.heap.size q' (by omega)
        have hcv := num_Text.conv (ha2.set q' (.int .u8 45) (by omega)) (q := q') (textB a) (by
          have hq3 : q' < cs.size := by omega
          rw [List.drop_eq_getElem_cons (by simp; omega)]
          simp [Array.setIfInBounds, hq3, textB, ha, ← hd2]
          exact List.drop_set_of_lt (by omega)) (20 - q') (20 - q') (by simp [textB, ha, hlen]; omega)
        have HB := Aside0.mk (hb2.setCell (p := ⟨w.heap.size, q', none⟩) (Nat.le_refl _) (.int .u8 45))
        clear ha2 hb2 hs2 hd2 hlen
        go_wp2
        go_ret
        exact ⟨rfl, HB.out⟩
      · have hsl := fun W => num_Text.slice20 W w.heap.size q hq
        have hcv := num_Text.conv ha2 (q := q) (textB a) (by rw [hd2]; simp [textB, ha]) (20 - q) (20 - q) (by simp [textB, ha, hlen])
        have HB := Aside0.mk hb2
        clear ha2 hb2 hs2 hd2 hlen
        go_wp2
        go_ret
        exact ⟨rfl, HB.out⟩
    · obtain ⟨q', rfl, hr'⟩ := num_Text.step hr.out (by omega)
      have HR := Aside0.mk hr'
      clear hr'
      go_wp2
      go_roundw
      · exact ⟨q', m / 10, by go_num, rfl, HR⟩
      · simp [intOf]; omega

theorem num_Text.calls (a0 : Int) (r : ByteArray) (w : World) (h : num_Text.f a0 = some r) :
    Calls Try.prog 22 #[.int .i64 a0] w fun e w' => e = .returned (.string r) ∧ Below w.heap.size w w' := by
  unfold num_Text.f at h
  split at h
  case isTrue hh => injection h with h; subst h; exact num_Text.walk a0 hh.1 hh.2 w
  case isFalse => exact absurd h (by simp)

-- NOT PRINTED: function 33 (abi_NoEscape)

-- NOT PRINTED: function 31 (strings_Builder_copyCheck)

-- NOT PRINTED: function 34 (bytealg_MakeNoZero)

-- NOT PRINTED: function 32 (strings_Builder_grow)

-- NOT PRINTED: function 27 (strings_Builder_Grow)

-- NOT PRINTED: function 28 (strings_Builder_WriteString)

-- NOT PRINTED: function 29 (strings_Builder_String)

/-! ### strings_Join: function 23 (given) -/
def strings_Join.f (l0 : List ByteArray) (a1 : ByteArray) : Option ByteArray :=
  if l0.length ≤ 140737488355328 ∧ (Lib.join (l0.map (·.data.toList)) a1.data.toList).length ≤ 140737488355328 then some ⟨(Lib.join (l0.map (·.data.toList)) a1.data.toList).toArray⟩ else none
theorem strings_Join.calls (A0 : Option Addr) (c0 : Nat) (l0 : List ByteArray) (a1 : ByteArray) (r : ByteArray) (w : World) (hr0 : Kd.C Kd.string w A0 l0.length l0) (hc0 : l0.length ≤ c0) (h : strings_Join.f l0 a1 = some r) :
    Calls Try.prog 23 #[.slice A0 l0.length c0, .string a1] w fun e w' => e = .returned (.string r) ∧ Below w.heap.size w w' := by
  unfold strings_Join.f at h
  split at h
  case isFalse => exact absurd h (by simp)
  case isTrue hl =>
  injection h with h
  subst h
  by_cases h0 : l0.length = 0
  · obtain rfl : l0 = [] := List.eq_nil_of_length_eq_zero h0
    refine (Try.strings_Join_none A0 c0 a1 w).mono fun e w' ⟨he, hw⟩ => ⟨he, hw ▸ Below.refl _ _⟩
  · have hR := Kd.reads_of_C (d := ByteArray.empty) hr0
    obtain ⟨ad, rfl, hc⟩ := hR.2.2 (by omega)
    have hz := hc 0 (by omega)
    obtain ⟨bk, o, sp⟩ := ad
    have hsp : sp = none := by
      simp only [Addr.add, World.cell?, if_true] at hz
      split at hz
      · split at hz
        · cases hz
        · rename_i hs; simpa using hs
      · cases hz
    subst hsp
    have hadd : ∀ j, (⟨bk, o, none⟩ : Addr).add j = ⟨bk, o + j, none⟩ := fun j => by unfold Addr.add; split <;> simp_all
    refine Try.strings_Join bk o c0 l0 a1 w (fun j x hj => ?_) ?_ hl.1 hc0 hl.2
    · have hjl : j < l0.length := by
        rcases Nat.lt_or_ge j l0.length with h | h
        · exact h
        · rw [List.getElem?_eq_none h] at hj; cases hj
      have := hc j hjl
      rw [hadd] at this
      rw [this]
      simp [List.getD, hj]
    · rw [hadd] at hz
      rcases Nat.lt_or_ge bk w.heap.size with h | h
      · exact h
      · simp [World.cell?, Array.getElem?_eq_none h] at hz

/-! ### label_Text: function 14 -/
def label_Text.l0 : Nat → List ByteArray → List Int → Int → Int → Option (ByteArray)
  | 0, _, _, _, _ => none
  | k + 1, x3, x12, x13, x14 => if x14 < x13 then (if 0 ≤ x14 then (if x14 < (x12.length : Int) then ((num_Text.f (rd x12 x14)).bind fun t116 => (if x14 < (x3.length : Int) then (label_Text.l0 k (x3.set (x14 : Int).toNat t116) x12 x13 (wrap64 (x14 + 1))) else (none))) else (none)) else (none)) else ((strings_Join.f x3 (⟨#[46]⟩ : ByteArray)).bind fun t118 => (some t118))
def label_Text.f (k : Nat) (l0 : List Int) : Option (ByteArray) := if (l0.length : Int) = 0 then (some (⟨#[45]⟩ : ByteArray)) else (if 0 ≤ (l0.length : Int) then (if ((l0.length : Int) : Int).toNat ≤ 17592186044416 then (label_Text.l0 k (List.replicate ((l0.length : Int) : Int).toNat (⟨#[]⟩ : ByteArray)) l0 (l0.length : Int) 0) else (none)) else (none))
theorem label_Text.mono_l : ∀ k, (∀ y0 y1 y2 y3, LeO (label_Text.l0 k y0 y1 y2 y3) (label_Text.l0 (k + 1) y0 y1 y2 y3))
  | 0 => fun _ _ _ _ r h => by simp [label_Text.l0] at h
  | k + 1 => by
    have ih0 := label_Text.mono_l k
    · intro y0 y1 y2 y3
      unfold label_Text.l0
      repeat' first
      | (with_reducible exact ih0 _ _ _ _)
      | (with_reducible exact LeO.refl _)
      | (with_reducible exact LeO.none _)
      | (with_reducible refine LeO.ite ?_ ?_)
      | (with_reducible refine LeO.bind ?_ (fun _ => ?_))
      | exact ih0 _ _ _ _
      | exact LeO.none _
      | refine LeO.ite ?_ ?_
      | refine LeO.bind ?_ (fun _ => ?_)
theorem label_Text.mono : ∀ a0 k, LeO (label_Text.f k a0) (label_Text.f (k + 1) a0) := by
  intro a0 k
  have ih0 := label_Text.mono_l k
  unfold label_Text.f
  repeat' first
      | (with_reducible exact ih0 _ _ _ _)
      | (with_reducible exact LeO.refl _)
      | (with_reducible exact LeO.none _)
      | (with_reducible refine LeO.ite ?_ ?_)
      | (with_reducible refine LeO.bind ?_ (fun _ => ?_))
      | exact ih0 _ _ _ _
      | exact LeO.none _
      | refine LeO.ite ?_ ?_
      | refine LeO.bind ?_ (fun _ => ?_)
set_option maxHeartbeats 8000000 in
set_option maxRecDepth 100000 in
theorem label_Text.calls (k : Nat) (A0 : Option Addr) (c0 : Nat) (l0 : List Int) (r : ByteArray) (w : World) (hr0 : Kd.C (Kd.int .i64) w A0 l0.length l0) (hc0 : l0.length ≤ c0) (h : label_Text.f k l0 = some r) :
    Calls Try.prog 14 #[.slice A0 l0.length c0] w fun e w' => e = .returned (.string r) ∧ Below w.heap.size w w' := by
  have HR0 := Aside0.mk hr0
  have HC0 := Aside0.mk hc0
  clear hr0 hc0
  have HB := Aside0.mk (Below.refl w.heap.size w)
  have H : (if (l0.length : Int) = 0 then (some (⟨#[45]⟩ : ByteArray)) else (if 0 ≤ (l0.length : Int) then (if ((l0.length : Int) : Int).toNat ≤ 17592186044416 then (label_Text.l0 k (List.replicate ((l0.length : Int) : Int).toNat (⟨#[]⟩ : ByteArray)) l0 (l0.length : Int) 0) else (none)) else (none))) = some r := h
  clear h
  by_cases c2 : (l0.length : Int) = 0
  · rw [if_pos c2] at H
    have c2b0 : ((l0.length : Int) == 0) = true := beq_iff_eq.mpr c2
    have c2b1 : ((l0.length : Int) != 0) = false := bne_eq_false_iff_eq.mpr c2
    clear c2
    obtain rfl := Option.some.inj H
    go_enter Try.func14, Try.ntmps14
    go_wp2
    go_ret
    exact ⟨by first | rfl | (simp [errW_none, errW_some] <;> rfl) | (simp [*, errW_none, errW_some] <;> rfl), by repeat (first | (with_reducible first | exact HB.out | apply below_alloc | apply pw_below_drewN | apply below_drew1) | exact HB.out)⟩
  · rw [if_neg c2] at H
    have c2b0 : ((l0.length : Int) == 0) = false := beq_eq_false_iff_ne.mpr c2
    have c2b1 : ((l0.length : Int) != 0) = true := bne_iff_ne.mpr c2
    have c2b2 : ¬ (l0 = []) := fun h_ => c2 (by rw [h_]; rfl)
    by_cases c3 : 0 ≤ (l0.length : Int)
    · rw [if_pos c3] at H
      have c3b0 := eq_true c3
      have c3b1 : decide (0 ≤ (l0.length : Int)) = true := decide_eq_true c3
      clear c3
      by_cases c4 : ((l0.length : Int) : Int).toNat ≤ 17592186044416
      · rw [if_pos c4] at H
        have c4b0 := eq_true c4
        have c4b1 : decide (((l0.length : Int) : Int).toNat ≤ 17592186044416) = true := decide_eq_true c4
        clear c4
        obtain ⟨y112, hy112⟩ : ∃ y_ : List ByteArray, y_ = (List.replicate ((l0.length : Int) : Int).toNat (⟨#[]⟩ : ByteArray)) := ⟨_, rfl⟩
        replace H : (label_Text.l0 k y112 l0 (l0.length : Int) 0) = some r := by first | (rw [hy112]; with_reducible exact H) | (have H2_ := (Option.bind_some _ _).symm.trans H; rw [hy112]; with_reducible exact H2_) | (have H2_ := (Option.bind_some _ _).symm.trans H; with_reducible exact H2_) | with_reducible exact H | (rw [hy112]; exact H) | exact H
        have Ny112 := Aside0.mk hy112
        clear hy112
        have H' := Aside0.mk H
        clear H
        go_enter Try.func14, Try.ntmps14
        go_wp2_with (first | ((with_reducible refine gate_dst (N := 11) rfl ?_); refine Kd.R_make Kd.string _ 9 rfl (N := 11) rfl 36 _ _ rfl (l0.length : Int) rfl rfl Try.underlying36 (.string ⟨#[]⟩) 16 info9 rfl (by decide) (by omega) (⟨#[]⟩ : ByteArray) (ok := fun _ => True) (okp := fun _ => True) rfl (fun _ hk => hk) trivial (of_decide_eq_true (by first | (with_reducible assumption) | assumption)) (Nat.le_trans (Nat.mul_le_mul_right _ (of_decide_eq_true (by first | (with_reducible assumption) | assumption) : (l0.length : Int).toNat ≤ 17592186044416)) (by omega)) (Below.refl _ _) (Nat.le_refl _) ?_; intro v113 w5 ho6 hb hg_ hnew_; clear hg_ hnew_; (first | rw [← Ny112.out] at ho6 | (simp only [Int.reduceToNat] at ho6; rw [← Ny112.out] at ho6)); have n0_ := Aside0.mk (Kd.R_lower ho6 (below_size (by repeat (first | (with_reducible first | exact HB.out | apply below_alloc | apply pw_below_drewN | apply below_drew1) | exact HB.out)))); have n1_ := Aside0.mk (below_step (by repeat (first | (with_reducible first | exact HB.out | apply below_alloc | apply pw_below_drewN | apply below_drew1) | exact HB.out)) hb); clear HB; have HO114 := n0_; have HB := n1_; clear n0_ n1_; clear hb ho6))
        go_loopg [14] k (fun kq v14 w' => ∃ (x3_1 : List ByteArray) (x14_1 : Int), v14 = .int .i64 x14_1 ∧ Aside0 (label_Text.l0 kq x3_1 l0 (l0.length : Int) x14_1 = some r) ∧ Aside0 (kq ≤ k) ∧ Aside0 (Kd.R Kd.string 9 w' w.heap.size (fun _ => True) v113 x3_1) ∧ Aside0 (Below w.heap.size w w'))
        case atStart => exact ⟨(y112), (0), (by first | rfl | (simp; done) | (simp [*]; done)), H', ⟨Nat.le_refl _⟩, ⟨by (with_reducible repeat (first | apply Kd.R_alloc | apply Kd.R_drewN | apply Kd.R_drew)); exact HO114.out⟩, ⟨by repeat (first | (with_reducible first | exact HB.out | apply below_alloc | apply pw_below_drewN | apply below_drew1) | exact HB.out)⟩⟩
        case round =>
          clear H'
          try clear c1
          try clear c2
          try clear c2b0
          try clear c2b1
          try clear c2b2
          try clear p2
          try clear c3
          try clear c3b0
          try clear c3b1
          try clear c4
          try clear c4b0
          try clear c4b1
          obtain ⟨x3_1, x14_1, rfl, HA, HK1, HO_3, HB⟩ := hrel
          cases gk with
          | zero => exact absurd HA.out (by simp [label_Text.l0])
          | succ k1 =>
            have H := HA.out
            clear HA
            simp only [label_Text.l0] at H
            by_cases c7 : x14_1 < (l0.length : Int)
            · rw [if_pos c7] at H
              have c7b0 : decide (x14_1 < (l0.length : Int)) = true := decide_eq_true c7
              clear c7
              by_cases c8 : 0 ≤ x14_1
              · rw [if_pos c8] at H
                have c8b0 : decide (0 ≤ x14_1) = true := decide_eq_true c8
                clear c8
                by_cases c9 : x14_1 < (l0.length : Int)
                · rw [if_pos c9] at H
                  have c9b0 : decide (x14_1 < (l0.length : Int)) = true := decide_eq_true c9
                  clear c9
                  replace H := Option.bind_eq_some_iff.mp H
                  obtain ⟨t116, A100, H⟩ := H
                  replace H : (if x14_1 < (x3_1.length : Int) then (label_Text.l0 k1 (x3_1.set (x14_1 : Int).toNat t116) l0 (l0.length : Int) (wrap64 (x14_1 + 1))) else (none)) = some r := H
                  have A10 := Aside0.mk A100
                  clear A100
                  by_cases c11 : x14_1 < (x3_1.length : Int)
                  · rw [if_pos c11] at H
                    have c11b0 : decide (x14_1 < (x3_1.length : Int)) = true := decide_eq_true c11
                    clear c11
                    obtain ⟨y117, hy117⟩ : ∃ y_ : List ByteArray, y_ = (x3_1.set (x14_1 : Int).toNat t116) := ⟨_, rfl⟩
                    replace H : (label_Text.l0 k1 y117 l0 (l0.length : Int) (wrap64 (x14_1 + 1))) = some r := by first | (rw [hy117]; with_reducible exact H) | (have H2_ := (Option.bind_some _ _).symm.trans H; rw [hy117]; with_reducible exact H2_) | (have H2_ := (Option.bind_some _ _).symm.trans H; with_reducible exact H2_) | with_reducible exact H | (rw [hy117]; exact H) | exact H
                    have Ny117 := Aside0.mk hy117
                    clear hy117
                    have H' := Aside0.mk H
                    clear H
                    have p115 : 0 ≤ (x14_1 : Int) := of_decide_eq_true (by first | (with_reducible assumption) | assumption)
                    have q115 : x14_1 < (l0.length : Int) := of_decide_eq_true (by first | (with_reducible assumption) | assumption)
                    obtain ⟨ad115, e115, hx115_0⟩ := Kd.at_int HR0.out x14_1 p115 q115
                    cases e115
                    replace hx115_0 := (HB.out.cell (World.block_lt_of_cell? w _ hx115_0)).trans hx115_0
                    replace p115 := eq_true p115
                    replace q115 := eq_true q115
                    go_wp2_with (first | ((with_reducible refine gate_callee (f := 22) rfl ?_); refine goesL_ (some 22) rfl rfl Try.func22 (by kernel_rfl) rfl #[.int .i64 (rd l0 x14_1)] rfl (by (try simp only [List.map_toArray, List.map_cons, List.map_nil]); first | done | rfl | (simp only [List.length_drop, List.length_take]; rfl)) ?_; (with_reducible refine (num_Text.calls (rd l0 x14_1) t116 _ A10.out).mono ?_); rintro e w13 ⟨rfl, hb⟩; refine ⟨_, rfl, ?_⟩; have n0_ := Aside0.mk (Kd.R_below (by (with_reducible repeat (first | apply Kd.R_alloc | apply Kd.R_drewN | apply Kd.R_drew)); exact HO_3.out) hb); have n1_ := Aside0.mk (below_step (by repeat (first | (with_reducible first | exact HB.out | apply below_alloc | apply pw_below_drewN | apply below_drew1) | exact HB.out)) hb); clear HO_3; clear HB; have HO_3 := n0_; have HB := n1_; clear n0_ n1_; (try clear hb); (try clear hb2); (try clear hk); (try clear hi); have p12 : 0 ≤ (x14_1 : Int) := of_decide_eq_true (by first | (with_reducible assumption) | assumption); have q12 : (x14_1 : Int) < ((x3_1.length : Int) : Int) := of_decide_eq_true (by first | (with_reducible assumption) | assumption); obtain ⟨go12, co12, eo12, gb12, gl12, cl12, HG12⟩ := Kd.R_form HO_3.out (by omega); (first | cases eo12 | (injection eo12 with ea_ en_ ec_; (first | subst ea_ | (injection ea_ with ea_; subst ea_)); subst ec_; clear en_)); have GB12 := Aside0.mk gb12; have GG12 := Aside0.mk HG12; clear gb12 gl12 HG12; obtain ⟨hx12_0, hf12_0⟩ := Kd.R_celln (⟨#[]⟩ : ByteArray) HO_3.out (x14_1 : Int) p12 q12; replace p12 := eq_true p12; replace q12 := eq_true q12; obtain ⟨hy14_, hz14_⟩ := Kd.R_celln (⟨#[]⟩ : ByteArray) HO_3.out (x14_1 : Int) (of_decide_eq_true (by first | (with_reducible assumption) | assumption)) (of_decide_eq_true (by first | (with_reducible assumption) | assumption)); have HP14 := Kd.R_putg HO_3.out (x14_1 : Int) t116) | ((with_reducible refine gate_store (t := 9) (p := 23) rfl ?_); refine store_event (t := 9) (p := 23) (v := ?vo_w15) (w1 := (w13.setCell ⟨go12, (x14_1 : Int).toNat, none⟩ (.string t116))) ?hg ?ho ?hn ?hr ?_; (case ho => rfl); (case hg => rfl); (case hn => rfl); (case hr => first | (go_simp; done) | (go_simp; rfl)); intro w15 hw; have hg : w13.grownBy w15 (some go12) := (by rw [hw]; exact HP14.2); have hp_ : Kd.R Kd.string 9 w15 w.heap.size (fun _ => True) (.slice (some ⟨go12, 0, none⟩) x3_1.length co12) y117 := (by rw [hw, Ny117.out]; exact HP14.1); clear HP14; have n0_ := Aside0.mk (hp_); have n1_ := Aside0.mk ((by rw [hw]; exact below_set (HB.out) GB12.out : Below w.heap.size w w15)); clear HO_3; clear HB; have HO_3 := n0_; have HB := n1_; clear n0_ n1_; clear hg hw hp_))
                    go_roundg k1
                    case measure => have := HK1.out; omega
                    case rel => exact ⟨(y117), (wrap64 (x14_1 + 1)), (by first | rfl | (simp; done) | (simp [*]; done)), H', ⟨by have := HK1.out; omega⟩, ⟨by (with_reducible repeat (first | apply Kd.R_alloc | apply Kd.R_drewN | apply Kd.R_drew)); exact HO_3.out⟩, ⟨by repeat (first | (with_reducible first | exact HB.out | apply below_alloc | apply pw_below_drewN | apply below_drew1) | exact HB.out)⟩⟩
                  · rw [if_neg c11] at H
                    exact absurd H (by simp)
                · rw [if_neg c9] at H
                  exact absurd H (by simp)
              · rw [if_neg c8] at H
                exact absurd H (by simp)
            · rw [if_neg c7] at H
              have c7b0 : decide (x14_1 < (l0.length : Int)) = false := decide_eq_false c7
              clear c7
              replace H := Option.bind_eq_some_iff.mp H
              obtain ⟨t118, A160, H⟩ := H
              replace H : (some t118) = some r := H
              have A16 := Aside0.mk A160
              clear A160
              obtain rfl := Option.some.inj H
              obtain ⟨Ao17, co17, eo17⟩ := Kd.R_slice HO_3.out
              subst eo17
              go_wp2_with (first | ((with_reducible refine gate_callee (f := 23) rfl ?_); refine goesL_ (some 26) rfl rfl Try.func23 (by kernel_rfl) rfl #[.slice Ao17 x3_1.length co17, .string (⟨#[46]⟩ : ByteArray)] rfl (by (try simp only [List.map_toArray, List.map_cons, List.map_nil]); first | done | rfl | (simp only [List.length_drop, List.length_take]; rfl)) ?_; (with_reducible refine (strings_Join.calls _ _ x3_1 (⟨#[46]⟩ : ByteArray) t118 _ ?side1 ?side2 A16.out).mono ?_); (case side1 => repeat (first | exact (Kd.R_reads' HO_3.out).2.2 | (with_reducible refine Kd.C_alloc ?_ _) | (with_reducible refine Kd.C_drewN ?_ _) | (with_reducible refine Kd.C_drew ?_))); (case side2 => exact (Kd.R_reads' HO_3.out).2.1); rintro e w18 ⟨rfl, hb⟩; refine ⟨_, rfl, ?_⟩; have n0_ := Aside0.mk (Kd.R_below (by (with_reducible repeat (first | apply Kd.R_alloc | apply Kd.R_drewN | apply Kd.R_drew)); exact HO_3.out) hb); have n1_ := Aside0.mk (below_step (by repeat (first | (with_reducible first | exact HB.out | apply below_alloc | apply pw_below_drewN | apply below_drew1) | exact HB.out)) hb); clear HO_3; clear HB; have HO_3 := n0_; have HB := n1_; clear n0_ n1_; (try clear hb); (try clear hb2); (try clear hk); (try clear hi)))
              go_ret
              exact ⟨by first | rfl | (simp [errW_none, errW_some] <;> rfl) | (simp [*, errW_none, errW_some] <;> rfl), by repeat (first | (with_reducible first | exact HB.out | apply below_alloc | apply pw_below_drewN | apply below_drew1) | exact HB.out)⟩
      · rw [if_neg c4] at H
        exact absurd H (by simp)
    · rw [if_neg c3] at H
      exact absurd H (by simp)

end Go.Proofs.Ytjlfclhlfgjgcab.P
