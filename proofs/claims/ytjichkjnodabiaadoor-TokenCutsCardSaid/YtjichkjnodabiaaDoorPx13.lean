-- PRINTED by a program of this session over the kit's print.py.
import Derived.Test.YtjichkjnodabiaaDoorPx0
import Derived.Test.YtjichkjnodabiaaDoorPx6
import Derived.Test.YtjichkjnodabiaaDoorPx7
import Derived.Test.YtjichkjnodabiaaDoorPx8
import Derived.Test.YtjichkjnodabiaaDoorPx10
import Derived.Test.YtjichkjnodabiaaDoorPx12
namespace Go.Proofs.YtjichkjnodabiaaDoor.P
open Go.Own Go.RowKit Go.Proofs.YtjichkjnodabiaaDoorW.PrintWords Go.Proofs.YtjichkjnodabiaaDoorW.PrintLast Go.Proofs.YtjichkjnodabiaaDoorW.PrintMore
attribute [local go_sem] max2_int min2_int max_two min_two max_three min_three max_four min_four   -- for this text's walks alone
set_option linter.unusedVariables false
set_option linter.unusedSimpArgs false

/-! ### spinneyref05_token: function 19 -/
mutual
def spinneyref05_token.j0 : Nat → ByteArray → Int → Int → Bool → Option (Int × ByteArray × Int × Int × Int × Bool)
  | 0, _, _, _, _ => none
  | k + 1, x0, x1, x9, x76 => if x76 = true then ((spinneyref05_own.f x0 x1 8 x9).bind fun bt200 => (some (bt200.1, bt200.2.1, bt200.2.2.1, bt200.2.2.2.1, bt200.2.2.2.2.1, bt200.2.2.2.2.2))) else ((spinneyref05_own.f x0 x1 3 x9).bind fun bt206 => (some (bt206.1, bt206.2.1, bt206.2.2.1, bt206.2.2.2.1, bt206.2.2.2.2.1, bt206.2.2.2.2.2)))
def spinneyref05_token.j1 : Nat → ByteArray → Int → Bool → Option (Int × ByteArray × Int × Int × Int × Bool)
  | 0, _, _, _ => none
  | k + 1, x0, x1, x102 => if x102 = true then ((spinneyref05_own.f x0 x1 1 (wrap64 (x1 + 1))).bind fun bt212 => (some (bt212.1, bt212.2.1, bt212.2.2.1, bt212.2.2.2.1, bt212.2.2.2.2.1, bt212.2.2.2.2.2))) else ((spinneyref05_own.f x0 x1 6 (wrap64 (x1 + 1))).bind fun bt218 => (some (bt218.1, bt218.2.1, bt218.2.2.1, bt218.2.2.2.1, bt218.2.2.2.2.1, bt218.2.2.2.2.2)))
def spinneyref05_token.j2 : Nat → ByteArray → Int → Bool → Option (Int × ByteArray × Int × Int × Int × Bool)
  | 0, _, _, _ => none
  | k + 1, x0, x1, x127 => if x127 = true then ((spinneyref05_own.f x0 x1 7 (wrap64 (x1 + 1))).bind fun bt224 => (some (bt224.1, bt224.2.1, bt224.2.2.1, bt224.2.2.2.1, bt224.2.2.2.2.1, bt224.2.2.2.2.2))) else ((spinneyref05_own.f x0 x1 6 (wrap64 (x1 + 1))).bind fun bt230 => (some (bt230.1, bt230.2.1, bt230.2.2.1, bt230.2.2.2.1, bt230.2.2.2.2.1, bt230.2.2.2.2.2)))
end
def spinneyref05_token.f (k : Nat) (a0 : ByteArray) (a1 : Int) (a2 : Bool) : Option (Int × ByteArray × Int × Int × Int × Bool) := (spinneyref05_class.f k a0 a1).bind fun t168 => (if t168 = 1 then ((spinneyref05_run.f k a0 a1 (([1, 2, 3] : List Int))).bind fun t172 => ((spinneyref05_own.f a0 a1 1 t172).bind fun bt173 => (some (bt173.1, bt173.2.1, bt173.2.2.1, bt173.2.2.2.1, bt173.2.2.2.2.1, bt173.2.2.2.2.2)))) else (if t168 = 2 then ((spinneyref05_run.f k a0 a1 (([1, 2, 3] : List Int))).bind fun t182 => ((spinneyref05_own.f a0 a1 4 t182).bind fun bt183 => (some (bt183.1, bt183.2.1, bt183.2.2.1, bt183.2.2.2.1, bt183.2.2.2.2.1, bt183.2.2.2.2.2)))) else (if t168 = 3 then ((spinneyref05_number.f k a0 a1).bind fun bt189 => (some (bt189.1, bt189.2.1, bt189.2.2.1, bt189.2.2.2.1, bt189.2.2.2.2.1, bt189.2.2.2.2.2))) else (if t168 = 4 then ((spinneyref05_run.f k a0 a1 (([4] : List Int))).bind fun t198 => (if 0 ≤ a1 then (if a1 ≤ t198 then (if t198 ≤ (a0.size : Int) then (if (a0.extract (a1 : Int).toNat (t198 : Int).toNat).toList = ([46] : List UInt8) then (if t198 = (a0.size : Int) then (spinneyref05_token.j0 k a0 a1 t198 true) else ((spinneyref05_class.f k a0 t198).bind fun t199 => (if t199 = 5 then (spinneyref05_token.j0 k a0 a1 t198 true) else (if 0 ≤ t198 then (if t198 < (a0.size : Int) then (spinneyref05_token.j0 k a0 a1 t198 ((bt a0 t198) == 37)) else (none)) else (none))))) else (spinneyref05_token.j0 k a0 a1 t198 false)) else (none)) else (none)) else (none))) else (if t168 = 6 then (if 0 ≤ a1 then (if a1 < (a0.size : Int) then (if (bt a0 a1) = 33 then (spinneyref05_token.j1 k a0 a1 true) else (spinneyref05_token.j1 k a0 a1 ((bt a0 a1) == 59))) else (none)) else (none)) else (if t168 = 7 then (if 0 ≤ a1 then (if a1 < (a0.size : Int) then (if (bt a0 a1) = 40 then (spinneyref05_token.j2 k a0 a1 a2) else (spinneyref05_token.j2 k a0 a1 false)) else (none)) else (none)) else (if t168 = 8 then (if 0 ≤ a1 then (if a1 ≤ (a0.size : Int) then ((spinneyref02_Read.f k (a0.extract (a1 : Int).toNat a0.size)).bind fun bt236 => (if bt236.2.2 = 0 then (if (bt236.1.size : Int) > 255 then (some (0, (⟨#[]⟩ : ByteArray), 0, 0, 0, false)) else (some (2, bt236.1, 0, a1, wrap64 (a1 + bt236.2.1), true))) else (some (0, (⟨#[]⟩ : ByteArray), 0, 0, 0, false)))) else (none)) else (none)) else (some (0, (⟨#[]⟩ : ByteArray), 0, 0, 0, false)))))))))
theorem spinneyref05_token.mono_l : ∀ k, (∀ y0 y1 y2 y3, LeO (spinneyref05_token.j0 k y0 y1 y2 y3) (spinneyref05_token.j0 (k + 1) y0 y1 y2 y3)) ∧ (∀ y0 y1 y2, LeO (spinneyref05_token.j1 k y0 y1 y2) (spinneyref05_token.j1 (k + 1) y0 y1 y2)) ∧ (∀ y0 y1 y2, LeO (spinneyref05_token.j2 k y0 y1 y2) (spinneyref05_token.j2 (k + 1) y0 y1 y2))
  | 0 => ⟨fun _ _ _ _ r h => by simp [spinneyref05_token.j0] at h, fun _ _ _ r h => by simp [spinneyref05_token.j1] at h, fun _ _ _ r h => by simp [spinneyref05_token.j2] at h⟩
  | k + 1 => by
    obtain ⟨ih0, ih1, ih2⟩ := spinneyref05_token.mono_l k
    refine ⟨?_, ?_, ?_⟩
    · intro y0 y1 y2 y3
      unfold spinneyref05_token.j0
      repeat' first
      | (with_reducible exact ih0 _ _ _ _)
      | (with_reducible exact ih1 _ _ _)
      | (with_reducible exact ih2 _ _ _)
      | (with_reducible exact spinneyref02_Read.mono _ _)
      | (with_reducible exact spinneyref05_class.mono _ _ _)
      | (with_reducible exact spinneyref05_number.mono _ _ _)
      | (with_reducible exact spinneyref05_run.mono _ _ _ _)
      | (with_reducible exact LeO.refl _)
      | (with_reducible exact LeO.none _)
      | (with_reducible refine LeO.ite ?_ ?_)
      | (with_reducible refine LeO.bind ?_ (fun _ => ?_))
      | exact ih0 _ _ _ _
      | exact ih1 _ _ _
      | exact ih2 _ _ _
      | exact spinneyref02_Read.mono _ _
      | exact spinneyref05_class.mono _ _ _
      | exact spinneyref05_number.mono _ _ _
      | exact spinneyref05_run.mono _ _ _ _
      | exact LeO.none _
      | refine LeO.ite ?_ ?_
      | refine LeO.bind ?_ (fun _ => ?_)
    · intro y0 y1 y2
      unfold spinneyref05_token.j1
      repeat' first
      | (with_reducible exact ih0 _ _ _ _)
      | (with_reducible exact ih1 _ _ _)
      | (with_reducible exact ih2 _ _ _)
      | (with_reducible exact spinneyref02_Read.mono _ _)
      | (with_reducible exact spinneyref05_class.mono _ _ _)
      | (with_reducible exact spinneyref05_number.mono _ _ _)
      | (with_reducible exact spinneyref05_run.mono _ _ _ _)
      | (with_reducible exact LeO.refl _)
      | (with_reducible exact LeO.none _)
      | (with_reducible refine LeO.ite ?_ ?_)
      | (with_reducible refine LeO.bind ?_ (fun _ => ?_))
      | exact ih0 _ _ _ _
      | exact ih1 _ _ _
      | exact ih2 _ _ _
      | exact spinneyref02_Read.mono _ _
      | exact spinneyref05_class.mono _ _ _
      | exact spinneyref05_number.mono _ _ _
      | exact spinneyref05_run.mono _ _ _ _
      | exact LeO.none _
      | refine LeO.ite ?_ ?_
      | refine LeO.bind ?_ (fun _ => ?_)
    · intro y0 y1 y2
      unfold spinneyref05_token.j2
      repeat' first
      | (with_reducible exact ih0 _ _ _ _)
      | (with_reducible exact ih1 _ _ _)
      | (with_reducible exact ih2 _ _ _)
      | (with_reducible exact spinneyref02_Read.mono _ _)
      | (with_reducible exact spinneyref05_class.mono _ _ _)
      | (with_reducible exact spinneyref05_number.mono _ _ _)
      | (with_reducible exact spinneyref05_run.mono _ _ _ _)
      | (with_reducible exact LeO.refl _)
      | (with_reducible exact LeO.none _)
      | (with_reducible refine LeO.ite ?_ ?_)
      | (with_reducible refine LeO.bind ?_ (fun _ => ?_))
      | exact ih0 _ _ _ _
      | exact ih1 _ _ _
      | exact ih2 _ _ _
      | exact spinneyref02_Read.mono _ _
      | exact spinneyref05_class.mono _ _ _
      | exact spinneyref05_number.mono _ _ _
      | exact spinneyref05_run.mono _ _ _ _
      | exact LeO.none _
      | refine LeO.ite ?_ ?_
      | refine LeO.bind ?_ (fun _ => ?_)
theorem spinneyref05_token.mono : ∀ a0 a1 a2 k, LeO (spinneyref05_token.f k a0 a1 a2) (spinneyref05_token.f (k + 1) a0 a1 a2) := by
  intro a0 a1 a2 k
  obtain ⟨ih0, ih1, ih2⟩ := spinneyref05_token.mono_l k
  unfold spinneyref05_token.f
  repeat' first
      | (with_reducible exact ih0 _ _ _ _)
      | (with_reducible exact ih1 _ _ _)
      | (with_reducible exact ih2 _ _ _)
      | (with_reducible exact spinneyref02_Read.mono _ _)
      | (with_reducible exact spinneyref05_class.mono _ _ _)
      | (with_reducible exact spinneyref05_number.mono _ _ _)
      | (with_reducible exact spinneyref05_run.mono _ _ _ _)
      | (with_reducible exact LeO.refl _)
      | (with_reducible exact LeO.none _)
      | (with_reducible refine LeO.ite ?_ ?_)
      | (with_reducible refine LeO.bind ?_ (fun _ => ?_))
      | exact ih0 _ _ _ _
      | exact ih1 _ _ _
      | exact ih2 _ _ _
      | exact spinneyref02_Read.mono _ _
      | exact spinneyref05_class.mono _ _ _
      | exact spinneyref05_number.mono _ _ _
      | exact spinneyref05_run.mono _ _ _ _
      | exact LeO.none _
      | refine LeO.ite ?_ ?_
      | refine LeO.bind ?_ (fun _ => ?_)
set_option maxHeartbeats 8000000 in
set_option maxRecDepth 100000 in
theorem spinneyref05_token.calls (k : Nat) (a0 : ByteArray) (a1 : Int) (a2 : Bool) (r1 : Int) (r2 : ByteArray) (r3 : Int) (r4 : Int) (r5 : Int) (r6 : Bool) (w : World) (h : spinneyref05_token.f k a0 a1 a2 = some (r1, r2, r3, r4, r5, r6)) (hT : Tabs w) :
    Calls Tryd.prog 19 #[.string a0, .int .i64 a1, .bool a2] w fun e w' => e = .returned (.tuple #[.agg #[.int .i64 r1, .string r2, .int .i64 r3, .int .i64 r4], .int .i64 r5, .bool r6]) ∧ Below w.heap.size w w' := by
  have HT := Aside0.mk hT
  clear hT
  have hu30 := Tryd.underlying30
  have HB := Aside0.mk (Below.refl w.heap.size w)
  have H : ((spinneyref05_class.f k a0 a1).bind fun t168 => (if t168 = 1 then ((spinneyref05_run.f k a0 a1 (([1, 2, 3] : List Int))).bind fun t172 => ((spinneyref05_own.f a0 a1 1 t172).bind fun bt173 => (some (bt173.1, bt173.2.1, bt173.2.2.1, bt173.2.2.2.1, bt173.2.2.2.2.1, bt173.2.2.2.2.2)))) else (if t168 = 2 then ((spinneyref05_run.f k a0 a1 (([1, 2, 3] : List Int))).bind fun t182 => ((spinneyref05_own.f a0 a1 4 t182).bind fun bt183 => (some (bt183.1, bt183.2.1, bt183.2.2.1, bt183.2.2.2.1, bt183.2.2.2.2.1, bt183.2.2.2.2.2)))) else (if t168 = 3 then ((spinneyref05_number.f k a0 a1).bind fun bt189 => (some (bt189.1, bt189.2.1, bt189.2.2.1, bt189.2.2.2.1, bt189.2.2.2.2.1, bt189.2.2.2.2.2))) else (if t168 = 4 then ((spinneyref05_run.f k a0 a1 (([4] : List Int))).bind fun t198 => (if 0 ≤ a1 then (if a1 ≤ t198 then (if t198 ≤ (a0.size : Int) then (if (a0.extract (a1 : Int).toNat (t198 : Int).toNat).toList = ([46] : List UInt8) then (if t198 = (a0.size : Int) then (spinneyref05_token.j0 k a0 a1 t198 true) else ((spinneyref05_class.f k a0 t198).bind fun t199 => (if t199 = 5 then (spinneyref05_token.j0 k a0 a1 t198 true) else (if 0 ≤ t198 then (if t198 < (a0.size : Int) then (spinneyref05_token.j0 k a0 a1 t198 ((bt a0 t198) == 37)) else (none)) else (none))))) else (spinneyref05_token.j0 k a0 a1 t198 false)) else (none)) else (none)) else (none))) else (if t168 = 6 then (if 0 ≤ a1 then (if a1 < (a0.size : Int) then (if (bt a0 a1) = 33 then (spinneyref05_token.j1 k a0 a1 true) else (spinneyref05_token.j1 k a0 a1 ((bt a0 a1) == 59))) else (none)) else (none)) else (if t168 = 7 then (if 0 ≤ a1 then (if a1 < (a0.size : Int) then (if (bt a0 a1) = 40 then (spinneyref05_token.j2 k a0 a1 a2) else (spinneyref05_token.j2 k a0 a1 false)) else (none)) else (none)) else (if t168 = 8 then (if 0 ≤ a1 then (if a1 ≤ (a0.size : Int) then ((spinneyref02_Read.f k (a0.extract (a1 : Int).toNat a0.size)).bind fun bt236 => (if bt236.2.2 = 0 then (if (bt236.1.size : Int) > 255 then (some (0, (⟨#[]⟩ : ByteArray), 0, 0, 0, false)) else (some (2, bt236.1, 0, a1, wrap64 (a1 + bt236.2.1), true))) else (some (0, (⟨#[]⟩ : ByteArray), 0, 0, 0, false)))) else (none)) else (none)) else (some (0, (⟨#[]⟩ : ByteArray), 0, 0, 0, false)))))))))) = some (r1, r2, r3, r4, r5, r6) := h
  clear h
  replace H := Option.bind_eq_some_iff.mp H
  obtain ⟨t168, A40, H⟩ := H
  replace H : (if t168 = 1 then ((spinneyref05_run.f k a0 a1 (([1, 2, 3] : List Int))).bind fun t172 => ((spinneyref05_own.f a0 a1 1 t172).bind fun bt173 => (some (bt173.1, bt173.2.1, bt173.2.2.1, bt173.2.2.2.1, bt173.2.2.2.2.1, bt173.2.2.2.2.2)))) else (if t168 = 2 then ((spinneyref05_run.f k a0 a1 (([1, 2, 3] : List Int))).bind fun t182 => ((spinneyref05_own.f a0 a1 4 t182).bind fun bt183 => (some (bt183.1, bt183.2.1, bt183.2.2.1, bt183.2.2.2.1, bt183.2.2.2.2.1, bt183.2.2.2.2.2)))) else (if t168 = 3 then ((spinneyref05_number.f k a0 a1).bind fun bt189 => (some (bt189.1, bt189.2.1, bt189.2.2.1, bt189.2.2.2.1, bt189.2.2.2.2.1, bt189.2.2.2.2.2))) else (if t168 = 4 then ((spinneyref05_run.f k a0 a1 (([4] : List Int))).bind fun t198 => (if 0 ≤ a1 then (if a1 ≤ t198 then (if t198 ≤ (a0.size : Int) then (if (a0.extract (a1 : Int).toNat (t198 : Int).toNat).toList = ([46] : List UInt8) then (if t198 = (a0.size : Int) then (spinneyref05_token.j0 k a0 a1 t198 true) else ((spinneyref05_class.f k a0 t198).bind fun t199 => (if t199 = 5 then (spinneyref05_token.j0 k a0 a1 t198 true) else (if 0 ≤ t198 then (if t198 < (a0.size : Int) then (spinneyref05_token.j0 k a0 a1 t198 ((bt a0 t198) == 37)) else (none)) else (none))))) else (spinneyref05_token.j0 k a0 a1 t198 false)) else (none)) else (none)) else (none))) else (if t168 = 6 then (if 0 ≤ a1 then (if a1 < (a0.size : Int) then (if (bt a0 a1) = 33 then (spinneyref05_token.j1 k a0 a1 true) else (spinneyref05_token.j1 k a0 a1 ((bt a0 a1) == 59))) else (none)) else (none)) else (if t168 = 7 then (if 0 ≤ a1 then (if a1 < (a0.size : Int) then (if (bt a0 a1) = 40 then (spinneyref05_token.j2 k a0 a1 a2) else (spinneyref05_token.j2 k a0 a1 false)) else (none)) else (none)) else (if t168 = 8 then (if 0 ≤ a1 then (if a1 ≤ (a0.size : Int) then ((spinneyref02_Read.f k (a0.extract (a1 : Int).toNat a0.size)).bind fun bt236 => (if bt236.2.2 = 0 then (if (bt236.1.size : Int) > 255 then (some (0, (⟨#[]⟩ : ByteArray), 0, 0, 0, false)) else (some (2, bt236.1, 0, a1, wrap64 (a1 + bt236.2.1), true))) else (some (0, (⟨#[]⟩ : ByteArray), 0, 0, 0, false)))) else (none)) else (none)) else (some (0, (⟨#[]⟩ : ByteArray), 0, 0, 0, false))))))))) = some (r1, r2, r3, r4, r5, r6) := H
  have A4 := Aside0.mk A40
  clear A40
  by_cases c5 : t168 = 1
  · rw [if_pos c5] at H
    have c5b0 : (t168 == 1) = true := beq_iff_eq.mpr c5
    have c5b1 : (t168 != 1) = false := bne_eq_false_iff_eq.mpr c5
    clear c5
    obtain ⟨y169, hy169⟩ : ∃ y_ : List Int, y_ = (([1, 2, 3] : List Int)) := ⟨_, rfl⟩
    replace H : ((spinneyref05_run.f k a0 a1 y169).bind fun t172 => ((spinneyref05_own.f a0 a1 1 t172).bind fun bt173 => (some (bt173.1, bt173.2.1, bt173.2.2.1, bt173.2.2.2.1, bt173.2.2.2.2.1, bt173.2.2.2.2.2)))) = some (r1, r2, r3, r4, r5, r6) := by first | (rw [hy169]; with_reducible exact H) | (have H2_ := (Option.bind_some _ _).symm.trans H; rw [hy169]; with_reducible exact H2_) | (have H2_ := (Option.bind_some _ _).symm.trans H; with_reducible exact H2_) | with_reducible exact H | (rw [hy169]; exact H) | exact H
    have Ny169 := Aside0.mk hy169
    clear hy169
    replace H := Option.bind_eq_some_iff.mp H
    obtain ⟨t172, A60, H⟩ := H
    replace H : ((spinneyref05_own.f a0 a1 1 t172).bind fun bt173 => (some (bt173.1, bt173.2.1, bt173.2.2.1, bt173.2.2.2.1, bt173.2.2.2.2.1, bt173.2.2.2.2.2))) = some (r1, r2, r3, r4, r5, r6) := H
    have A6 := Aside0.mk A60
    clear A60
    replace H := Option.bind_eq_some_iff.mp H
    obtain ⟨⟨t173, t174, t175, t176, t177, t178⟩, A70, H⟩ := H
    replace H : (some (t173, t174, t175, t176, t177, t178)) = some (r1, r2, r3, r4, r5, r6) := H
    have A7 := Aside0.mk A70
    clear A70
    simp only [Option.some.injEq, Prod.mk.injEq] at H
    obtain ⟨rfl, rfl, rfl, rfl, rfl, rfl⟩ := H
    go_enter Tryd.func19, Tryd.ntmps19
    go_wp2_with (first | ((with_reducible refine gate_dst (N := 6) rfl ?_); (try (refine gate_guard (by rfl) ?_; dsimp only)); refine box_event ?hg (N := 6) ?hd (cs := #[.int .i64 0, .string (⟨#[]⟩ : ByteArray), .int .i64 0, .int .i64 0]) (t := 30) ?hr ?_; (case hd => rfl); (case hg => rfl); (case hr => first | (go_simp; done) | (go_simp; rfl)); intro gb167 hg w8 hbox hb; have n0_ := Aside0.mk (below_step (by repeat (first | (with_reducible first | exact HB.out | apply below_alloc | apply pw_below_drewN | apply below_drew1) | exact HB.out)) hb); have n1_ := Aside0.mk (hbox); have n2_ := Aside0.mk ((by rw [hg]; exact (below_size (by repeat (first | (with_reducible first | exact HB.out | apply below_alloc | apply pw_below_drewN | apply below_drew1) | exact HB.out))) : w.heap.size ≤ gb167)); have n3_ := Aside0.mk ((by rw [hg]; exact (below_size (by repeat (first | (with_reducible first | exact HB.out | apply below_alloc | apply pw_below_drewN | apply below_drew1) | exact HB.out))) : w.heap.size ≤ gb167)); clear HB; have HB := n0_; have BK167 := n1_; have GW167 := n2_; have GE167 := n3_; clear n0_ n1_ n2_ n3_; clear hb hbox hg) | ((with_reducible refine gate_callee (f := 37) rfl ?_); refine goesL_ (some 15) rfl rfl Tryd.func37 (by kernel_rfl) rfl #[.string a0, .int .i64 a1] rfl (by (try simp only [List.map_toArray, List.map_cons, List.map_nil]); first | done | rfl | (simp only [List.length_drop, List.length_take]; rfl)) ?_; (with_reducible refine (spinneyref05_class.calls k a0 a1 t168 _ A4.out).mono ?_); rintro e w' ⟨rfl, ⟨nd, rfl⟩⟩; refine ⟨_, rfl, ?_⟩; (try (rw [drewN_self w8]; generalize hq_ : World.drewN w8 _ = w8; have n0_ : Aside0 (w8.heap[gb167]? = some (.cells #[.int .i64 0, .string (⟨#[]⟩ : ByteArray), .int .i64 0, .int .i64 0] 30 (0, 0))) := ⟨by rw [← hq_]; exact (by (with_reducible repeat (first | refine blk_drewN ?_ _ | refine blk_drew ?_ | refine blk_alloc ?_ _)); exact BK167.out)⟩; have n1_ : Aside0 (Below w.heap.size w w8) := ⟨by rw [← hq_]; exact (by repeat (first | (with_reducible first | exact HB.out | apply below_alloc | apply pw_below_drewN | apply below_drew1 | refine below_set ?_ GE167.out) | exact HB.out))⟩; clear BK167 HB hq_; have BK167 := n0_; have HB := n1_; clear n0_ n1_))) | ((with_reducible refine gate_dst (N := 22) rfl ?_); (try (refine gate_guard (by rfl) ?_; dsimp only)); refine Kd.R_lit (Kd.int .i64) _ 3 ?hg (N := 22) ?hd (xs := ([1, 2, 3] : List Int)) (inner := [.int .i64 1, .int .i64 2, .int .i64 3]) (ok := fun _ => True) (okp := fun _ => True) ?hr ?hp (fun _ hk => hk) trivial (Below.refl _ _) (Nat.le_refl _) (by simp) ?_; (case hd => rfl); (case hg => rfl); (case hr => first | (go_simp; done) | (go_simp; rfl)); (case hp => exact (Reps.one (show Kd.M (Kd.int .i64) _ _ _ 1 [.int .i64 1] from rfl) (Reps.one (show Kd.M (Kd.int .i64) _ _ _ 2 [.int .i64 2] from rfl) (Reps.one (show Kd.M (Kd.int .i64) _ _ _ 3 [.int .i64 3] from rfl) (Reps.none _ _))))); intro v170 w9 ho10 hb hg_ hnew_; clear hg_ hnew_; (first | rw [← Ny169.out] at ho10 | (simp only [Int.reduceToNat] at ho10; rw [← Ny169.out] at ho10)); have n0_ := Aside0.mk (Kd.R_lower ho10 (below_size (by repeat (first | (with_reducible first | exact HB.out | apply below_alloc | apply pw_below_drewN | apply below_drew1 | refine below_set ?_ GE167.out) | exact HB.out)))); have n1_ := Aside0.mk (blk_below (g := gb167) (o := .cells #[.int .i64 0, .string (⟨#[]⟩ : ByteArray), .int .i64 0, .int .i64 0] 30 (0, 0)) (by (with_reducible repeat (first | refine blk_drewN ?_ _ | refine blk_drew ?_ | refine blk_alloc ?_ _)); exact BK167.out) hb); have n2_ := Aside0.mk (below_step (by repeat (first | (with_reducible first | exact HB.out | apply below_alloc | apply pw_below_drewN | apply below_drew1 | refine below_set ?_ GE167.out) | exact HB.out)) hb); clear BK167; clear HB; have HO171 := n0_; have BK167 := n1_; have HB := n2_; clear n0_ n1_ n2_; clear hb ho10; obtain ⟨Ao11, co11, eo11⟩ := Kd.R_slice HO171.out; subst eo11) | ((with_reducible refine gate_callee (f := 39) rfl ?_); refine goesL_ (some 23) rfl rfl Tryd.func39 (by kernel_rfl) rfl #[.string a0, .int .i64 a1, .slice Ao11 y169.length co11] rfl (by (try simp only [List.map_toArray, List.map_cons, List.map_nil]); first | done | rfl | (simp only [List.length_drop, List.length_take]; rfl)) ?_; (with_reducible refine (spinneyref05_run.calls k a0 a1 _ _ y169 t172 _ ?side1 ?side2 A6.out).mono ?_); (case side1 => repeat (first | exact (Kd.R_reads' HO171.out).2.2 | (with_reducible refine Kd.C_alloc ?_ _) | (with_reducible refine Kd.C_drewN ?_ _) | (with_reducible refine Kd.C_drew ?_))); (case side2 => exact (Kd.R_reads' HO171.out).2.1); rintro e w' ⟨rfl, ⟨nd, rfl⟩⟩; refine ⟨_, rfl, ?_⟩; (try (rw [drewN_self w9]; generalize hq_ : World.drewN w9 _ = w9; have n0_ : Aside0 (Kd.R (Kd.int .i64) 3 w9 w.heap.size (fun _ => True) (.slice Ao11 y169.length co11) y169) := ⟨by rw [← hq_]; exact (by (with_reducible repeat (first | apply Kd.R_alloc | apply Kd.R_drewN | apply Kd.R_drew)); exact HO171.out)⟩; have n1_ : Aside0 (w9.heap[gb167]? = some (.cells #[.int .i64 0, .string (⟨#[]⟩ : ByteArray), .int .i64 0, .int .i64 0] 30 (0, 0))) := ⟨by rw [← hq_]; exact (by (with_reducible repeat (first | refine blk_drewN ?_ _ | refine blk_drew ?_ | refine blk_alloc ?_ _)); exact BK167.out)⟩; have n2_ : Aside0 (Below w.heap.size w w9) := ⟨by rw [← hq_]; exact (by repeat (first | (with_reducible first | exact HB.out | apply below_alloc | apply pw_below_drewN | apply below_drew1 | refine below_set ?_ GE167.out) | exact HB.out))⟩; clear HO171 BK167 HB hq_; have HO171 := n0_; have BK167 := n1_; have HB := n2_; clear n0_ n1_ n2_))) | ((with_reducible refine gate_callee (f := 38) rfl ?_); refine goesL_ (some 24) rfl rfl Tryd.func38 (by kernel_rfl) rfl #[.string a0, .int .i64 a1, .int .i64 1, .int .i64 t172] rfl (by (try simp only [List.map_toArray, List.map_cons, List.map_nil]); first | done | rfl | (simp only [List.length_drop, List.length_take]; rfl)) ?_; (with_reducible refine (spinneyref05_own.calls a0 a1 1 t172 t173 t174 t175 t176 t177 t178 _ A7.out).mono ?_); rintro e w12 ⟨rfl, hb⟩; refine ⟨_, rfl, ?_⟩; have n0_ := Aside0.mk (Kd.R_below (by (with_reducible repeat (first | apply Kd.R_alloc | apply Kd.R_drewN | apply Kd.R_drew)); exact HO171.out) hb); have n1_ := Aside0.mk (blk_below (g := gb167) (o := .cells #[.int .i64 0, .string (⟨#[]⟩ : ByteArray), .int .i64 0, .int .i64 0] 30 (0, 0)) (by (with_reducible repeat (first | refine blk_drewN ?_ _ | refine blk_drew ?_ | refine blk_alloc ?_ _)); exact BK167.out) hb); have n2_ := Aside0.mk (below_step (by repeat (first | (with_reducible first | exact HB.out | apply below_alloc | apply pw_below_drewN | apply below_drew1 | refine below_set ?_ GE167.out) | exact HB.out)) hb); clear HO171; clear BK167; clear HB; have HO171 := n0_; have BK167 := n1_; have HB := n2_; clear n0_ n1_ n2_; (try clear hb); (try clear hb2); (try clear hk); (try clear hi); have hcz13_0 : w12.cell? ⟨gb167, 0, none⟩ = some (.int .i64 0) := (blk_cell BK167.out 0).trans rfl; have hcz13_1 : w12.cell? ⟨gb167, 1, none⟩ = some (.string (⟨#[]⟩ : ByteArray)) := (blk_cell BK167.out 1).trans rfl; have hcz13_2 : w12.cell? ⟨gb167, 2, none⟩ = some (.int .i64 0) := (blk_cell BK167.out 2).trans rfl; have hcz13_3 : w12.cell? ⟨gb167, 3, none⟩ = some (.int .i64 0) := (blk_cell BK167.out 3).trans rfl; have hfz13_0 := blk_frozen BK167.out 0; have hfz13_1 := blk_frozen BK167.out 1; have hfz13_2 := blk_frozen BK167.out 2; have hfz13_3 := blk_frozen BK167.out 3))
    refine bodyPost_ret (results_ctt rfl _ _ gb167 30 #[.int .i64 t173, .string t174, .int .i64 t175, .int .i64 t176] (0, 0) _ rfl (by (with_reducible repeat (first | refine blk_drewN ?_ _ | refine blk_drew ?_ | refine blk_alloc ?_ _)); refine blk_put (cs := #[.int .i64 t173, .string t174, .int .i64 t175, .int .i64 0]) ?_ 3 _ rfl; (with_reducible repeat (first | refine blk_drewN ?_ _ | refine blk_drew ?_ | refine blk_alloc ?_ _)); refine blk_put (cs := #[.int .i64 t173, .string t174, .int .i64 0, .int .i64 0]) ?_ 2 _ rfl; (with_reducible repeat (first | refine blk_drewN ?_ _ | refine blk_drew ?_ | refine blk_alloc ?_ _)); refine blk_put (cs := #[.int .i64 t173, .string (⟨#[]⟩ : ByteArray), .int .i64 0, .int .i64 0]) ?_ 1 _ rfl; (with_reducible repeat (first | refine blk_drewN ?_ _ | refine blk_drew ?_ | refine blk_alloc ?_ _)); refine blk_put (cs := #[.int .i64 0, .string (⟨#[]⟩ : ByteArray), .int .i64 0, .int .i64 0]) ?_ 0 _ rfl; (with_reducible repeat (first | refine blk_drewN ?_ _ | refine blk_drew ?_ | refine blk_alloc ?_ _)); exact BK167.out) Tryd.underlying30 rfl (by kernel_rfl)) rfl ?_
    exact ⟨by first | rfl | (simp [errW_none, errW_some] <;> rfl) | (simp [*, errW_none, errW_some] <;> rfl), by repeat (first | (with_reducible first | exact HB.out | apply below_alloc | apply pw_below_drewN | apply below_drew1 | refine below_set ?_ GE167.out) | exact HB.out)⟩
  · rw [if_neg c5] at H
    have c5b0 : (t168 == 1) = false := beq_eq_false_iff_ne.mpr c5
    have c5b1 : (t168 != 1) = true := bne_iff_ne.mpr c5
    by_cases c14 : t168 = 2
    · rw [if_pos c14] at H
      have c14b0 : (t168 == 2) = true := beq_iff_eq.mpr c14
      have c14b1 : (t168 != 2) = false := bne_eq_false_iff_eq.mpr c14
      clear c14
      obtain ⟨y179, hy179⟩ : ∃ y_ : List Int, y_ = (([1, 2, 3] : List Int)) := ⟨_, rfl⟩
      replace H : ((spinneyref05_run.f k a0 a1 y179).bind fun t182 => ((spinneyref05_own.f a0 a1 4 t182).bind fun bt183 => (some (bt183.1, bt183.2.1, bt183.2.2.1, bt183.2.2.2.1, bt183.2.2.2.2.1, bt183.2.2.2.2.2)))) = some (r1, r2, r3, r4, r5, r6) := by first | (rw [hy179]; with_reducible exact H) | (have H2_ := (Option.bind_some _ _).symm.trans H; rw [hy179]; with_reducible exact H2_) | (have H2_ := (Option.bind_some _ _).symm.trans H; with_reducible exact H2_) | with_reducible exact H | (rw [hy179]; exact H) | exact H
      have Ny179 := Aside0.mk hy179
      clear hy179
      replace H := Option.bind_eq_some_iff.mp H
      obtain ⟨t182, A150, H⟩ := H
      replace H : ((spinneyref05_own.f a0 a1 4 t182).bind fun bt183 => (some (bt183.1, bt183.2.1, bt183.2.2.1, bt183.2.2.2.1, bt183.2.2.2.2.1, bt183.2.2.2.2.2))) = some (r1, r2, r3, r4, r5, r6) := H
      have A15 := Aside0.mk A150
      clear A150
      replace H := Option.bind_eq_some_iff.mp H
      obtain ⟨⟨t183, t184, t185, t186, t187, t188⟩, A160, H⟩ := H
      replace H : (some (t183, t184, t185, t186, t187, t188)) = some (r1, r2, r3, r4, r5, r6) := H
      have A16 := Aside0.mk A160
      clear A160
      simp only [Option.some.injEq, Prod.mk.injEq] at H
      obtain ⟨rfl, rfl, rfl, rfl, rfl, rfl⟩ := H
      go_enter Tryd.func19, Tryd.ntmps19
      go_wp2_with (first | ((with_reducible refine gate_dst (N := 6) rfl ?_); (try (refine gate_guard (by rfl) ?_; dsimp only)); refine box_event ?hg (N := 6) ?hd (cs := #[.int .i64 0, .string (⟨#[]⟩ : ByteArray), .int .i64 0, .int .i64 0]) (t := 30) ?hr ?_; (case hd => rfl); (case hg => rfl); (case hr => first | (go_simp; done) | (go_simp; rfl)); intro gb167 hg w17 hbox hb; have n0_ := Aside0.mk (below_step (by repeat (first | (with_reducible first | exact HB.out | apply below_alloc | apply pw_below_drewN | apply below_drew1) | exact HB.out)) hb); have n1_ := Aside0.mk (hbox); have n2_ := Aside0.mk ((by rw [hg]; exact (below_size (by repeat (first | (with_reducible first | exact HB.out | apply below_alloc | apply pw_below_drewN | apply below_drew1) | exact HB.out))) : w.heap.size ≤ gb167)); have n3_ := Aside0.mk ((by rw [hg]; exact (below_size (by repeat (first | (with_reducible first | exact HB.out | apply below_alloc | apply pw_below_drewN | apply below_drew1) | exact HB.out))) : w.heap.size ≤ gb167)); clear HB; have HB := n0_; have BK167 := n1_; have GW167 := n2_; have GE167 := n3_; clear n0_ n1_ n2_ n3_; clear hb hbox hg) | ((with_reducible refine gate_callee (f := 37) rfl ?_); refine goesL_ (some 15) rfl rfl Tryd.func37 (by kernel_rfl) rfl #[.string a0, .int .i64 a1] rfl (by (try simp only [List.map_toArray, List.map_cons, List.map_nil]); first | done | rfl | (simp only [List.length_drop, List.length_take]; rfl)) ?_; (with_reducible refine (spinneyref05_class.calls k a0 a1 t168 _ A4.out).mono ?_); rintro e w' ⟨rfl, ⟨nd, rfl⟩⟩; refine ⟨_, rfl, ?_⟩; (try (rw [drewN_self w17]; generalize hq_ : World.drewN w17 _ = w17; have n0_ : Aside0 (w17.heap[gb167]? = some (.cells #[.int .i64 0, .string (⟨#[]⟩ : ByteArray), .int .i64 0, .int .i64 0] 30 (0, 0))) := ⟨by rw [← hq_]; exact (by (with_reducible repeat (first | refine blk_drewN ?_ _ | refine blk_drew ?_ | refine blk_alloc ?_ _)); exact BK167.out)⟩; have n1_ : Aside0 (Below w.heap.size w w17) := ⟨by rw [← hq_]; exact (by repeat (first | (with_reducible first | exact HB.out | apply below_alloc | apply pw_below_drewN | apply below_drew1 | refine below_set ?_ GE167.out) | exact HB.out))⟩; clear BK167 HB hq_; have BK167 := n0_; have HB := n1_; clear n0_ n1_))) | ((with_reducible refine gate_dst (N := 34) rfl ?_); (try (refine gate_guard (by rfl) ?_; dsimp only)); refine Kd.R_lit (Kd.int .i64) _ 3 ?hg (N := 34) ?hd (xs := ([1, 2, 3] : List Int)) (inner := [.int .i64 1, .int .i64 2, .int .i64 3]) (ok := fun _ => True) (okp := fun _ => True) ?hr ?hp (fun _ hk => hk) trivial (Below.refl _ _) (Nat.le_refl _) (by simp) ?_; (case hd => rfl); (case hg => rfl); (case hr => first | (go_simp; done) | (go_simp; rfl)); (case hp => exact (Reps.one (show Kd.M (Kd.int .i64) _ _ _ 1 [.int .i64 1] from rfl) (Reps.one (show Kd.M (Kd.int .i64) _ _ _ 2 [.int .i64 2] from rfl) (Reps.one (show Kd.M (Kd.int .i64) _ _ _ 3 [.int .i64 3] from rfl) (Reps.none _ _))))); intro v180 w18 ho19 hb hg_ hnew_; clear hg_ hnew_; (first | rw [← Ny179.out] at ho19 | (simp only [Int.reduceToNat] at ho19; rw [← Ny179.out] at ho19)); have n0_ := Aside0.mk (Kd.R_lower ho19 (below_size (by repeat (first | (with_reducible first | exact HB.out | apply below_alloc | apply pw_below_drewN | apply below_drew1 | refine below_set ?_ GE167.out) | exact HB.out)))); have n1_ := Aside0.mk (blk_below (g := gb167) (o := .cells #[.int .i64 0, .string (⟨#[]⟩ : ByteArray), .int .i64 0, .int .i64 0] 30 (0, 0)) (by (with_reducible repeat (first | refine blk_drewN ?_ _ | refine blk_drew ?_ | refine blk_alloc ?_ _)); exact BK167.out) hb); have n2_ := Aside0.mk (below_step (by repeat (first | (with_reducible first | exact HB.out | apply below_alloc | apply pw_below_drewN | apply below_drew1 | refine below_set ?_ GE167.out) | exact HB.out)) hb); clear BK167; clear HB; have HO181 := n0_; have BK167 := n1_; have HB := n2_; clear n0_ n1_ n2_; clear hb ho19; obtain ⟨Ao20, co20, eo20⟩ := Kd.R_slice HO181.out; subst eo20) | ((with_reducible refine gate_callee (f := 39) rfl ?_); refine goesL_ (some 35) rfl rfl Tryd.func39 (by kernel_rfl) rfl #[.string a0, .int .i64 a1, .slice Ao20 y179.length co20] rfl (by (try simp only [List.map_toArray, List.map_cons, List.map_nil]); first | done | rfl | (simp only [List.length_drop, List.length_take]; rfl)) ?_; (with_reducible refine (spinneyref05_run.calls k a0 a1 _ _ y179 t182 _ ?side1 ?side2 A15.out).mono ?_); (case side1 => repeat (first | exact (Kd.R_reads' HO181.out).2.2 | (with_reducible refine Kd.C_alloc ?_ _) | (with_reducible refine Kd.C_drewN ?_ _) | (with_reducible refine Kd.C_drew ?_))); (case side2 => exact (Kd.R_reads' HO181.out).2.1); rintro e w' ⟨rfl, ⟨nd, rfl⟩⟩; refine ⟨_, rfl, ?_⟩; (try (rw [drewN_self w18]; generalize hq_ : World.drewN w18 _ = w18; have n0_ : Aside0 (Kd.R (Kd.int .i64) 3 w18 w.heap.size (fun _ => True) (.slice Ao20 y179.length co20) y179) := ⟨by rw [← hq_]; exact (by (with_reducible repeat (first | apply Kd.R_alloc | apply Kd.R_drewN | apply Kd.R_drew)); exact HO181.out)⟩; have n1_ : Aside0 (w18.heap[gb167]? = some (.cells #[.int .i64 0, .string (⟨#[]⟩ : ByteArray), .int .i64 0, .int .i64 0] 30 (0, 0))) := ⟨by rw [← hq_]; exact (by (with_reducible repeat (first | refine blk_drewN ?_ _ | refine blk_drew ?_ | refine blk_alloc ?_ _)); exact BK167.out)⟩; have n2_ : Aside0 (Below w.heap.size w w18) := ⟨by rw [← hq_]; exact (by repeat (first | (with_reducible first | exact HB.out | apply below_alloc | apply pw_below_drewN | apply below_drew1 | refine below_set ?_ GE167.out) | exact HB.out))⟩; clear HO181 BK167 HB hq_; have HO181 := n0_; have BK167 := n1_; have HB := n2_; clear n0_ n1_ n2_))) | ((with_reducible refine gate_callee (f := 38) rfl ?_); refine goesL_ (some 36) rfl rfl Tryd.func38 (by kernel_rfl) rfl #[.string a0, .int .i64 a1, .int .i64 4, .int .i64 t182] rfl (by (try simp only [List.map_toArray, List.map_cons, List.map_nil]); first | done | rfl | (simp only [List.length_drop, List.length_take]; rfl)) ?_; (with_reducible refine (spinneyref05_own.calls a0 a1 4 t182 t183 t184 t185 t186 t187 t188 _ A16.out).mono ?_); rintro e w21 ⟨rfl, hb⟩; refine ⟨_, rfl, ?_⟩; have n0_ := Aside0.mk (Kd.R_below (by (with_reducible repeat (first | apply Kd.R_alloc | apply Kd.R_drewN | apply Kd.R_drew)); exact HO181.out) hb); have n1_ := Aside0.mk (blk_below (g := gb167) (o := .cells #[.int .i64 0, .string (⟨#[]⟩ : ByteArray), .int .i64 0, .int .i64 0] 30 (0, 0)) (by (with_reducible repeat (first | refine blk_drewN ?_ _ | refine blk_drew ?_ | refine blk_alloc ?_ _)); exact BK167.out) hb); have n2_ := Aside0.mk (below_step (by repeat (first | (with_reducible first | exact HB.out | apply below_alloc | apply pw_below_drewN | apply below_drew1 | refine below_set ?_ GE167.out) | exact HB.out)) hb); clear HO181; clear BK167; clear HB; have HO181 := n0_; have BK167 := n1_; have HB := n2_; clear n0_ n1_ n2_; (try clear hb); (try clear hb2); (try clear hk); (try clear hi); have hcz22_0 : w21.cell? ⟨gb167, 0, none⟩ = some (.int .i64 0) := (blk_cell BK167.out 0).trans rfl; have hcz22_1 : w21.cell? ⟨gb167, 1, none⟩ = some (.string (⟨#[]⟩ : ByteArray)) := (blk_cell BK167.out 1).trans rfl; have hcz22_2 : w21.cell? ⟨gb167, 2, none⟩ = some (.int .i64 0) := (blk_cell BK167.out 2).trans rfl; have hcz22_3 : w21.cell? ⟨gb167, 3, none⟩ = some (.int .i64 0) := (blk_cell BK167.out 3).trans rfl; have hfz22_0 := blk_frozen BK167.out 0; have hfz22_1 := blk_frozen BK167.out 1; have hfz22_2 := blk_frozen BK167.out 2; have hfz22_3 := blk_frozen BK167.out 3))
      refine bodyPost_ret (results_ctt rfl _ _ gb167 30 #[.int .i64 t183, .string t184, .int .i64 t185, .int .i64 t186] (0, 0) _ rfl (by (with_reducible repeat (first | refine blk_drewN ?_ _ | refine blk_drew ?_ | refine blk_alloc ?_ _)); refine blk_put (cs := #[.int .i64 t183, .string t184, .int .i64 t185, .int .i64 0]) ?_ 3 _ rfl; (with_reducible repeat (first | refine blk_drewN ?_ _ | refine blk_drew ?_ | refine blk_alloc ?_ _)); refine blk_put (cs := #[.int .i64 t183, .string t184, .int .i64 0, .int .i64 0]) ?_ 2 _ rfl; (with_reducible repeat (first | refine blk_drewN ?_ _ | refine blk_drew ?_ | refine blk_alloc ?_ _)); refine blk_put (cs := #[.int .i64 t183, .string (⟨#[]⟩ : ByteArray), .int .i64 0, .int .i64 0]) ?_ 1 _ rfl; (with_reducible repeat (first | refine blk_drewN ?_ _ | refine blk_drew ?_ | refine blk_alloc ?_ _)); refine blk_put (cs := #[.int .i64 0, .string (⟨#[]⟩ : ByteArray), .int .i64 0, .int .i64 0]) ?_ 0 _ rfl; (with_reducible repeat (first | refine blk_drewN ?_ _ | refine blk_drew ?_ | refine blk_alloc ?_ _)); exact BK167.out) Tryd.underlying30 rfl (by kernel_rfl)) rfl ?_
      exact ⟨by first | rfl | (simp [errW_none, errW_some] <;> rfl) | (simp [*, errW_none, errW_some] <;> rfl), by repeat (first | (with_reducible first | exact HB.out | apply below_alloc | apply pw_below_drewN | apply below_drew1 | refine below_set ?_ GE167.out) | exact HB.out)⟩
    · rw [if_neg c14] at H
      have c14b0 : (t168 == 2) = false := beq_eq_false_iff_ne.mpr c14
      have c14b1 : (t168 != 2) = true := bne_iff_ne.mpr c14
      by_cases c23 : t168 = 3
      · rw [if_pos c23] at H
        have c23b0 : (t168 == 3) = true := beq_iff_eq.mpr c23
        have c23b1 : (t168 != 3) = false := bne_eq_false_iff_eq.mpr c23
        clear c23
        replace H := Option.bind_eq_some_iff.mp H
        obtain ⟨⟨t189, t190, t191, t192, t193, t194⟩, A240, H⟩ := H
        replace H : (some (t189, t190, t191, t192, t193, t194)) = some (r1, r2, r3, r4, r5, r6) := H
        have A24 := Aside0.mk A240
        clear A240
        simp only [Option.some.injEq, Prod.mk.injEq] at H
        obtain ⟨rfl, rfl, rfl, rfl, rfl, rfl⟩ := H
        go_enter Tryd.func19, Tryd.ntmps19
        go_wp2_with (first | ((with_reducible refine gate_dst (N := 6) rfl ?_); (try (refine gate_guard (by rfl) ?_; dsimp only)); refine box_event ?hg (N := 6) ?hd (cs := #[.int .i64 0, .string (⟨#[]⟩ : ByteArray), .int .i64 0, .int .i64 0]) (t := 30) ?hr ?_; (case hd => rfl); (case hg => rfl); (case hr => first | (go_simp; done) | (go_simp; rfl)); intro gb167 hg w25 hbox hb; have n0_ := Aside0.mk (below_step (by repeat (first | (with_reducible first | exact HB.out | apply below_alloc | apply pw_below_drewN | apply below_drew1) | exact HB.out)) hb); have n1_ := Aside0.mk (hbox); have n2_ := Aside0.mk ((by rw [hg]; exact (below_size (by repeat (first | (with_reducible first | exact HB.out | apply below_alloc | apply pw_below_drewN | apply below_drew1) | exact HB.out))) : w.heap.size ≤ gb167)); have n3_ := Aside0.mk ((by rw [hg]; exact (below_size (by repeat (first | (with_reducible first | exact HB.out | apply below_alloc | apply pw_below_drewN | apply below_drew1) | exact HB.out))) : w.heap.size ≤ gb167)); clear HB; have HB := n0_; have BK167 := n1_; have GW167 := n2_; have GE167 := n3_; clear n0_ n1_ n2_ n3_; clear hb hbox hg) | ((with_reducible refine gate_callee (f := 37) rfl ?_); refine goesL_ (some 15) rfl rfl Tryd.func37 (by kernel_rfl) rfl #[.string a0, .int .i64 a1] rfl (by (try simp only [List.map_toArray, List.map_cons, List.map_nil]); first | done | rfl | (simp only [List.length_drop, List.length_take]; rfl)) ?_; (with_reducible refine (spinneyref05_class.calls k a0 a1 t168 _ A4.out).mono ?_); rintro e w' ⟨rfl, ⟨nd, rfl⟩⟩; refine ⟨_, rfl, ?_⟩; (try (rw [drewN_self w25]; generalize hq_ : World.drewN w25 _ = w25; have n0_ : Aside0 (w25.heap[gb167]? = some (.cells #[.int .i64 0, .string (⟨#[]⟩ : ByteArray), .int .i64 0, .int .i64 0] 30 (0, 0))) := ⟨by rw [← hq_]; exact (by (with_reducible repeat (first | refine blk_drewN ?_ _ | refine blk_drew ?_ | refine blk_alloc ?_ _)); exact BK167.out)⟩; have n1_ : Aside0 (Below w.heap.size w w25) := ⟨by rw [← hq_]; exact (by repeat (first | (with_reducible first | exact HB.out | apply below_alloc | apply pw_below_drewN | apply below_drew1 | refine below_set ?_ GE167.out) | exact HB.out))⟩; clear BK167 HB hq_; have BK167 := n0_; have HB := n1_; clear n0_ n1_))) | ((with_reducible refine gate_callee (f := 40) rfl ?_); refine goesL_ (some 44) rfl rfl Tryd.func40 (by kernel_rfl) rfl #[.string a0, .int .i64 a1] rfl (by (try simp only [List.map_toArray, List.map_cons, List.map_nil]); first | done | rfl | (simp only [List.length_drop, List.length_take]; rfl)) ?_; (with_reducible refine (spinneyref05_number.calls k a0 a1 t189 t190 t191 t192 t193 t194 _ A24.out (HT.out.below (by first | exact Below.refl _ _ | (repeat (first | (with_reducible first | exact HB.out | apply below_alloc | apply pw_below_drewN | apply below_drew1 | refine below_set ?_ GE167.out) | exact HB.out))))).mono ?_); rintro e w26 ⟨rfl, hb⟩; refine ⟨_, rfl, ?_⟩; have n0_ := Aside0.mk (blk_below (g := gb167) (o := .cells #[.int .i64 0, .string (⟨#[]⟩ : ByteArray), .int .i64 0, .int .i64 0] 30 (0, 0)) (by (with_reducible repeat (first | refine blk_drewN ?_ _ | refine blk_drew ?_ | refine blk_alloc ?_ _)); exact BK167.out) hb); have n1_ := Aside0.mk (below_step (by repeat (first | (with_reducible first | exact HB.out | apply below_alloc | apply pw_below_drewN | apply below_drew1 | refine below_set ?_ GE167.out) | exact HB.out)) hb); clear BK167; clear HB; have BK167 := n0_; have HB := n1_; clear n0_ n1_; (try clear hb); (try clear hb2); (try clear hk); (try clear hi); have hcz27_0 : w26.cell? ⟨gb167, 0, none⟩ = some (.int .i64 0) := (blk_cell BK167.out 0).trans rfl; have hcz27_1 : w26.cell? ⟨gb167, 1, none⟩ = some (.string (⟨#[]⟩ : ByteArray)) := (blk_cell BK167.out 1).trans rfl; have hcz27_2 : w26.cell? ⟨gb167, 2, none⟩ = some (.int .i64 0) := (blk_cell BK167.out 2).trans rfl; have hcz27_3 : w26.cell? ⟨gb167, 3, none⟩ = some (.int .i64 0) := (blk_cell BK167.out 3).trans rfl; have hfz27_0 := blk_frozen BK167.out 0; have hfz27_1 := blk_frozen BK167.out 1; have hfz27_2 := blk_frozen BK167.out 2; have hfz27_3 := blk_frozen BK167.out 3))
        refine bodyPost_ret (results_ctt rfl _ _ gb167 30 #[.int .i64 t189, .string t190, .int .i64 t191, .int .i64 t192] (0, 0) _ rfl (by (with_reducible repeat (first | refine blk_drewN ?_ _ | refine blk_drew ?_ | refine blk_alloc ?_ _)); refine blk_put (cs := #[.int .i64 t189, .string t190, .int .i64 t191, .int .i64 0]) ?_ 3 _ rfl; (with_reducible repeat (first | refine blk_drewN ?_ _ | refine blk_drew ?_ | refine blk_alloc ?_ _)); refine blk_put (cs := #[.int .i64 t189, .string t190, .int .i64 0, .int .i64 0]) ?_ 2 _ rfl; (with_reducible repeat (first | refine blk_drewN ?_ _ | refine blk_drew ?_ | refine blk_alloc ?_ _)); refine blk_put (cs := #[.int .i64 t189, .string (⟨#[]⟩ : ByteArray), .int .i64 0, .int .i64 0]) ?_ 1 _ rfl; (with_reducible repeat (first | refine blk_drewN ?_ _ | refine blk_drew ?_ | refine blk_alloc ?_ _)); refine blk_put (cs := #[.int .i64 0, .string (⟨#[]⟩ : ByteArray), .int .i64 0, .int .i64 0]) ?_ 0 _ rfl; (with_reducible repeat (first | refine blk_drewN ?_ _ | refine blk_drew ?_ | refine blk_alloc ?_ _)); exact BK167.out) Tryd.underlying30 rfl (by kernel_rfl)) rfl ?_
        exact ⟨by first | rfl | (simp [errW_none, errW_some] <;> rfl) | (simp [*, errW_none, errW_some] <;> rfl), by repeat (first | (with_reducible first | exact HB.out | apply below_alloc | apply pw_below_drewN | apply below_drew1 | refine below_set ?_ GE167.out) | exact HB.out)⟩
      · rw [if_neg c23] at H
        have c23b0 : (t168 == 3) = false := beq_eq_false_iff_ne.mpr c23
        have c23b1 : (t168 != 3) = true := bne_iff_ne.mpr c23
        by_cases c28 : t168 = 4
        · rw [if_pos c28] at H
          have c28b0 : (t168 == 4) = true := beq_iff_eq.mpr c28
          have c28b1 : (t168 != 4) = false := bne_eq_false_iff_eq.mpr c28
          clear c28
          obtain ⟨y195, hy195⟩ : ∃ y_ : List Int, y_ = (([4] : List Int)) := ⟨_, rfl⟩
          replace H : ((spinneyref05_run.f k a0 a1 y195).bind fun t198 => (if 0 ≤ a1 then (if a1 ≤ t198 then (if t198 ≤ (a0.size : Int) then (if (a0.extract (a1 : Int).toNat (t198 : Int).toNat).toList = ([46] : List UInt8) then (if t198 = (a0.size : Int) then (spinneyref05_token.j0 k a0 a1 t198 true) else ((spinneyref05_class.f k a0 t198).bind fun t199 => (if t199 = 5 then (spinneyref05_token.j0 k a0 a1 t198 true) else (if 0 ≤ t198 then (if t198 < (a0.size : Int) then (spinneyref05_token.j0 k a0 a1 t198 ((bt a0 t198) == 37)) else (none)) else (none))))) else (spinneyref05_token.j0 k a0 a1 t198 false)) else (none)) else (none)) else (none))) = some (r1, r2, r3, r4, r5, r6) := by first | (rw [hy195]; with_reducible exact H) | (have H2_ := (Option.bind_some _ _).symm.trans H; rw [hy195]; with_reducible exact H2_) | (have H2_ := (Option.bind_some _ _).symm.trans H; with_reducible exact H2_) | with_reducible exact H | (rw [hy195]; exact H) | exact H
          have Ny195 := Aside0.mk hy195
          clear hy195
          replace H := Option.bind_eq_some_iff.mp H
          obtain ⟨t198, A290, H⟩ := H
          replace H : (if 0 ≤ a1 then (if a1 ≤ t198 then (if t198 ≤ (a0.size : Int) then (if (a0.extract (a1 : Int).toNat (t198 : Int).toNat).toList = ([46] : List UInt8) then (if t198 = (a0.size : Int) then (spinneyref05_token.j0 k a0 a1 t198 true) else ((spinneyref05_class.f k a0 t198).bind fun t199 => (if t199 = 5 then (spinneyref05_token.j0 k a0 a1 t198 true) else (if 0 ≤ t198 then (if t198 < (a0.size : Int) then (spinneyref05_token.j0 k a0 a1 t198 ((bt a0 t198) == 37)) else (none)) else (none))))) else (spinneyref05_token.j0 k a0 a1 t198 false)) else (none)) else (none)) else (none)) = some (r1, r2, r3, r4, r5, r6) := H
          have A29 := Aside0.mk A290
          clear A290
          have HC30 := Aside0.mk H
          clear H
          go_enter Tryd.func19, Tryd.ntmps19
          go_upto_region 10 with (first | ((with_reducible refine gate_dst (N := 6) rfl ?_); (try (refine gate_guard (by rfl) ?_; dsimp only)); refine box_event ?hg (N := 6) ?hd (cs := #[.int .i64 0, .string (⟨#[]⟩ : ByteArray), .int .i64 0, .int .i64 0]) (t := 30) ?hr ?_; (case hd => rfl); (case hg => rfl); (case hr => first | (go_simp; done) | (go_simp; rfl)); intro gb167 hg w31 hbox hb; have n0_ := Aside0.mk (below_step (by repeat (first | (with_reducible first | exact HB.out | apply below_alloc | apply pw_below_drewN | apply below_drew1) | exact HB.out)) hb); have n1_ := Aside0.mk (hbox); have n2_ := Aside0.mk ((by rw [hg]; exact (below_size (by repeat (first | (with_reducible first | exact HB.out | apply below_alloc | apply pw_below_drewN | apply below_drew1) | exact HB.out))) : w.heap.size ≤ gb167)); have n3_ := Aside0.mk ((by rw [hg]; exact (below_size (by repeat (first | (with_reducible first | exact HB.out | apply below_alloc | apply pw_below_drewN | apply below_drew1) | exact HB.out))) : w.heap.size ≤ gb167)); clear HB; have HB := n0_; have BK167 := n1_; have GW167 := n2_; have GE167 := n3_; clear n0_ n1_ n2_ n3_; clear hb hbox hg) | ((with_reducible refine gate_callee (f := 37) rfl ?_); refine goesL_ (some 15) rfl rfl Tryd.func37 (by kernel_rfl) rfl #[.string a0, .int .i64 a1] rfl (by (try simp only [List.map_toArray, List.map_cons, List.map_nil]); first | done | rfl | (simp only [List.length_drop, List.length_take]; rfl)) ?_; (with_reducible refine (spinneyref05_class.calls k a0 a1 t168 _ A4.out).mono ?_); rintro e w' ⟨rfl, ⟨nd, rfl⟩⟩; refine ⟨_, rfl, ?_⟩) | ((with_reducible refine gate_dst (N := 52) rfl ?_); (try (refine gate_guard (by rfl) ?_; dsimp only)); refine Kd.R_lit (Kd.int .i64) _ 3 ?hg (N := 52) ?hd (xs := ([4] : List Int)) (inner := [.int .i64 4]) (ok := fun _ => True) (okp := fun _ => True) ?hr ?hp (fun _ hk => hk) trivial (Below.refl _ _) (Nat.le_refl _) (by simp) ?_; (case hd => rfl); (case hg => rfl); (case hr => first | (go_simp; done) | (go_simp; rfl)); (case hp => exact (Reps.one (show Kd.M (Kd.int .i64) _ _ _ 4 [.int .i64 4] from rfl) (Reps.none _ _))); intro v196 w32 ho33 hb hg_ hnew_; clear hg_ hnew_; (first | rw [← Ny195.out] at ho33 | (simp only [Int.reduceToNat] at ho33; rw [← Ny195.out] at ho33)); have n0_ := Aside0.mk (Kd.R_lower ho33 (below_size (by repeat (first | (with_reducible first | exact HB.out | apply below_alloc | apply pw_below_drewN | apply below_drew1 | refine below_set ?_ GE167.out) | exact HB.out)))); have n1_ := Aside0.mk (blk_below (g := gb167) (o := .cells #[.int .i64 0, .string (⟨#[]⟩ : ByteArray), .int .i64 0, .int .i64 0] 30 (0, 0)) (by (with_reducible repeat (first | refine blk_drewN ?_ _ | refine blk_drew ?_ | refine blk_alloc ?_ _)); exact BK167.out) hb); have n2_ := Aside0.mk (below_step (by repeat (first | (with_reducible first | exact HB.out | apply below_alloc | apply pw_below_drewN | apply below_drew1 | refine below_set ?_ GE167.out) | exact HB.out)) hb); clear BK167; clear HB; have HO197 := n0_; have BK167 := n1_; have HB := n2_; clear n0_ n1_ n2_; clear hb ho33; obtain ⟨Ao34, co34, eo34⟩ := Kd.R_slice HO197.out; subst eo34) | ((with_reducible refine gate_callee (f := 39) rfl ?_); refine goesL_ (some 53) rfl rfl Tryd.func39 (by kernel_rfl) rfl #[.string a0, .int .i64 a1, .slice Ao34 y195.length co34] rfl (by (try simp only [List.map_toArray, List.map_cons, List.map_nil]); first | done | rfl | (simp only [List.length_drop, List.length_take]; rfl)) ?_; (with_reducible refine (spinneyref05_run.calls k a0 a1 _ _ y195 t198 _ ?side1 ?side2 A29.out).mono ?_); (case side1 => repeat (first | exact (Kd.R_reads' HO197.out).2.2 | (with_reducible refine Kd.C_alloc ?_ _) | (with_reducible refine Kd.C_drewN ?_ _) | (with_reducible refine Kd.C_drew ?_))); (case side2 => exact (Kd.R_reads' HO197.out).2.1); rintro e w' ⟨rfl, ⟨nd, rfl⟩⟩; refine ⟨_, rfl, ?_⟩))
          (try simp only [Act.put, List.setIfInBounds_toArray, List.set_cons_zero, List.set_cons_succ])
          go_cut [76] (fun v76 wc => ∃ (kq : Nat) (x76_29 : Bool), v76 = .bool x76_29 ∧ Aside0 (spinneyref05_token.j0 kq a0 a1 t198 x76_29 = some (r1, r2, r3, r4, r5, r6)) ∧ Aside0 (kq ≤ k) ∧ Aside0 (wc.heap[gb167]? = some (.cells #[.int .i64 0, .string (⟨#[]⟩ : ByteArray), .int .i64 0, .int .i64 0] 30 (0, 0))) ∧ Aside0 (Below w.heap.size w wc))
          case first =>
            have H := HC30.out
            clear HC30
            by_cases c35 : 0 ≤ a1
            · rw [if_pos c35] at H
              have c35b0 := eq_true c35
              have c35b1 : decide (0 ≤ a1) = true := decide_eq_true c35
              clear c35
              by_cases c36 : a1 ≤ t198
              · rw [if_pos c36] at H
                have c36b0 := eq_true c36
                have c36b1 : decide (a1 ≤ t198) = true := decide_eq_true c36
                clear c36
                by_cases c37 : t198 ≤ (a0.size : Int)
                · rw [if_pos c37] at H
                  have c37b0 := eq_true c37
                  have c37b1 : decide (t198 ≤ (a0.size : Int)) = true := decide_eq_true c37
                  clear c37
                  by_cases c38 : (a0.extract (a1 : Int).toNat (t198 : Int).toNat).toList = ([46] : List UInt8)
                  · rw [if_pos c38] at H
                    have c38b0 : ((a0.extract (a1 : Int).toNat (t198 : Int).toNat).toList == ([46] : List UInt8)) = true := beq_iff_eq.mpr c38
                    have c38b1 : ((a0.extract (a1 : Int).toNat (t198 : Int).toNat).toList != ([46] : List UInt8)) = false := bne_eq_false_iff_eq.mpr c38
                    clear c38
                    (first | rw [c38b0] | (simp only [i64_w, i32_w]; rw [c38b0]) | skip)
                    by_cases c39 : t198 = (a0.size : Int)
                    · rw [if_pos c39] at H
                      have c39b0 : (t198 == (a0.size : Int)) = true := beq_iff_eq.mpr c39
                      have c39b1 : (t198 != (a0.size : Int)) = false := bne_eq_false_iff_eq.mpr c39
                      clear c39
                      have H' := Aside0.mk H
                      clear H
                      go_wp2
                      go_meet
                      case rel => exact ⟨_, (true), (by first | rfl | (simp; done) | (simp [*]; done)), H', ⟨by first | omega | exact Nat.le_refl _⟩, ⟨by (with_reducible repeat (first | refine blk_drewN ?_ _ | refine blk_drew ?_ | refine blk_alloc ?_ _)); exact BK167.out⟩, ⟨by repeat (first | (with_reducible first | exact HB.out | apply below_alloc | apply pw_below_drewN | apply below_drew1 | refine below_set ?_ GE167.out) | exact HB.out)⟩⟩
                    · rw [if_neg c39] at H
                      have c39b0 : (t198 == (a0.size : Int)) = false := beq_eq_false_iff_ne.mpr c39
                      have c39b1 : (t198 != (a0.size : Int)) = true := bne_iff_ne.mpr c39
                      replace H := Option.bind_eq_some_iff.mp H
                      obtain ⟨t199, A400, H⟩ := H
                      replace H : (if t199 = 5 then (spinneyref05_token.j0 k a0 a1 t198 true) else (if 0 ≤ t198 then (if t198 < (a0.size : Int) then (spinneyref05_token.j0 k a0 a1 t198 ((bt a0 t198) == 37)) else (none)) else (none))) = some (r1, r2, r3, r4, r5, r6) := H
                      have A40 := Aside0.mk A400
                      clear A400
                      by_cases c41 : t199 = 5
                      · rw [if_pos c41] at H
                        have c41b0 : (t199 == 5) = true := beq_iff_eq.mpr c41
                        have c41b1 : (t199 != 5) = false := bne_eq_false_iff_eq.mpr c41
                        clear c41
                        have H' := Aside0.mk H
                        clear H
                        go_wp2_with (first | (go_at_call 37; (with_reducible refine (spinneyref05_class.calls k a0 t198 t199 _ A40.out).mono ?_); rintro e w' ⟨rfl, ⟨nd, rfl⟩⟩))
                        go_meet
                        case rel => exact ⟨_, (true), (by first | rfl | (simp; done) | (simp [*]; done)), H', ⟨by first | omega | exact Nat.le_refl _⟩, ⟨by (with_reducible repeat (first | refine blk_drewN ?_ _ | refine blk_drew ?_ | refine blk_alloc ?_ _)); exact BK167.out⟩, ⟨by repeat (first | (with_reducible first | exact HB.out | apply below_alloc | apply pw_below_drewN | apply below_drew1 | refine below_set ?_ GE167.out) | exact HB.out)⟩⟩
                      · rw [if_neg c41] at H
                        have c41b0 : (t199 == 5) = false := beq_eq_false_iff_ne.mpr c41
                        have c41b1 : (t199 != 5) = true := bne_iff_ne.mpr c41
                        by_cases c42 : 0 ≤ t198
                        · rw [if_pos c42] at H
                          have c42b0 : decide (0 ≤ t198) = true := decide_eq_true c42
                          clear c42
                          by_cases c43 : t198 < (a0.size : Int)
                          · rw [if_pos c43] at H
                            have c43b0 : decide (t198 < (a0.size : Int)) = true := decide_eq_true c43
                            clear c43
                            have H' := Aside0.mk H
                            clear H
                            go_wp2_with (first | (go_at_call 37; (with_reducible refine (spinneyref05_class.calls k a0 t198 t199 _ A40.out).mono ?_); rintro e w' ⟨rfl, ⟨nd, rfl⟩⟩; have p44 : 0 ≤ (t198 : Int) := of_decide_eq_true (by first | (with_reducible assumption) | assumption); have q44 : t198 < (a0.size : Int) := of_decide_eq_true (by first | (with_reducible assumption) | assumption); have hx44 := bt_at a0 t198; replace p44 := eq_true p44; replace q44 := eq_true q44))
                            go_meet
                            case rel => exact ⟨_, (((bt a0 t198) == 37)), (by first | rfl | (simp; done) | (simp [*]; done)), H', ⟨by first | omega | exact Nat.le_refl _⟩, ⟨by (with_reducible repeat (first | refine blk_drewN ?_ _ | refine blk_drew ?_ | refine blk_alloc ?_ _)); exact BK167.out⟩, ⟨by repeat (first | (with_reducible first | exact HB.out | apply below_alloc | apply pw_below_drewN | apply below_drew1 | refine below_set ?_ GE167.out) | exact HB.out)⟩⟩
                          · rw [if_neg c43] at H
                            exact absurd H (by simp)
                        · rw [if_neg c42] at H
                          exact absurd H (by simp)
                  · rw [if_neg c38] at H
                    have c38b0 : ((a0.extract (a1 : Int).toNat (t198 : Int).toNat).toList == ([46] : List UInt8)) = false := beq_eq_false_iff_ne.mpr c38
                    have c38b1 : ((a0.extract (a1 : Int).toNat (t198 : Int).toNat).toList != ([46] : List UInt8)) = true := bne_iff_ne.mpr c38
                    (first | rw [c38b0] | (simp only [i64_w, i32_w]; rw [c38b0]) | skip)
                    have H' := Aside0.mk H
                    clear H
                    go_wp2
                    go_meet
                    case rel => exact ⟨_, (false), (by first | rfl | (simp; done) | (simp [*]; done)), H', ⟨by first | omega | exact Nat.le_refl _⟩, ⟨by (with_reducible repeat (first | refine blk_drewN ?_ _ | refine blk_drew ?_ | refine blk_alloc ?_ _)); exact BK167.out⟩, ⟨by repeat (first | (with_reducible first | exact HB.out | apply below_alloc | apply pw_below_drewN | apply below_drew1 | refine below_set ?_ GE167.out) | exact HB.out)⟩⟩
                · rw [if_neg c37] at H
                  exact absurd H (by simp)
              · rw [if_neg c36] at H
                exact absurd H (by simp)
            · rw [if_neg c35] at H
              exact absurd H (by simp)
          case rest =>
            clear HC30
            try clear c1
            try clear c2
            try clear p2
            try clear c3
            try clear c4
            try clear p4
            try clear q4
            try clear hx4
            try clear c5
            try clear c5b0
            try clear c5b1
            try clear p6
            try clear c14
            try clear c14b0
            try clear c14b1
            try clear c19
            try clear c23
            try clear c23b0
            try clear c23b1
            try clear c28
            try clear c28b0
            try clear c28b1
            try clear c35
            try clear c35b0
            try clear c35b1
            try clear c36
            try clear c36b0
            try clear c36b1
            try clear c37
            try clear c37b0
            try clear c37b1
            try clear c38
            try clear c38b0
            try clear c38b1
            try clear c39
            try clear c39b0
            try clear c39b1
            try clear c40
            try clear c41
            try clear c41b0
            try clear c41b1
            try clear c42
            try clear c42b0
            try clear c43
            try clear c43b0
            try clear p44
            try clear q44
            try clear hx44
            try clear hcz13_0
            try clear hcz13_1
            try clear hcz13_2
            try clear hcz13_3
            try clear hcz22_0
            try clear hcz22_1
            try clear hcz22_2
            try clear hcz22_3
            try clear hcz27_0
            try clear hcz27_1
            try clear hcz27_2
            try clear hcz27_3
            try clear hfz13_0
            try clear hfz13_1
            try clear hfz13_2
            try clear hfz13_3
            try clear hfz22_0
            try clear hfz22_1
            try clear hfz22_2
            try clear hfz22_3
            try clear hfz27_0
            try clear hfz27_1
            try clear hfz27_2
            try clear hfz27_3
            try clear p44
            try clear q44
            obtain ⟨kq, x76_29, rfl, HA, HJ29, BK167, HB⟩ := hcut
            cases kq with
            | zero => exact absurd HA.out (by simp [spinneyref05_token.j0])
            | succ kj29 =>
              have H := HA.out
              clear HA
              simp only [spinneyref05_token.j0] at H
              by_cases c45 : x76_29 = true
              · subst c45
                have H1 : ((spinneyref05_own.f a0 a1 8 t198).bind fun bt200 => (some (bt200.1, bt200.2.1, bt200.2.2.1, bt200.2.2.2.1, bt200.2.2.2.2.1, bt200.2.2.2.2.2))) = some (r1, r2, r3, r4, r5, r6) := by rw [if_pos rfl] at H; exact H
                clear H
                have H := H1
                clear H1
                replace H := Option.bind_eq_some_iff.mp H
                obtain ⟨⟨t200, t201, t202, t203, t204, t205⟩, A460, H⟩ := H
                replace H : (some (t200, t201, t202, t203, t204, t205)) = some (r1, r2, r3, r4, r5, r6) := H
                have A46 := Aside0.mk A460
                clear A460
                simp only [Option.some.injEq, Prod.mk.injEq] at H
                obtain ⟨rfl, rfl, rfl, rfl, rfl, rfl⟩ := H
                go_wp2_with (first | ((with_reducible refine gate_callee (f := 38) rfl ?_); refine goesL_ (some 80) rfl rfl Tryd.func38 (by kernel_rfl) rfl #[.string a0, .int .i64 a1, .int .i64 8, .int .i64 t198] rfl (by (try simp only [List.map_toArray, List.map_cons, List.map_nil]); first | done | rfl | (simp only [List.length_drop, List.length_take]; rfl)) ?_; (with_reducible refine (spinneyref05_own.calls a0 a1 8 t198 t200 t201 t202 t203 t204 t205 _ A46.out).mono ?_); rintro e w47 ⟨rfl, hb⟩; refine ⟨_, rfl, ?_⟩; have n0_ := Aside0.mk (blk_below (g := gb167) (o := .cells #[.int .i64 0, .string (⟨#[]⟩ : ByteArray), .int .i64 0, .int .i64 0] 30 (0, 0)) (by (with_reducible repeat (first | refine blk_drewN ?_ _ | refine blk_drew ?_ | refine blk_alloc ?_ _)); exact BK167.out) hb); have n1_ := Aside0.mk (below_step (by repeat (first | (with_reducible first | exact HB.out | apply below_alloc | apply pw_below_drewN | apply below_drew1 | refine below_set ?_ GE167.out) | exact HB.out)) hb); clear BK167; clear HB; have BK167 := n0_; have HB := n1_; clear n0_ n1_; (try clear hb); (try clear hb2); (try clear hk); (try clear hi); have hcz48_0 : w47.cell? ⟨gb167, 0, none⟩ = some (.int .i64 0) := (blk_cell BK167.out 0).trans rfl; have hcz48_1 : w47.cell? ⟨gb167, 1, none⟩ = some (.string (⟨#[]⟩ : ByteArray)) := (blk_cell BK167.out 1).trans rfl; have hcz48_2 : w47.cell? ⟨gb167, 2, none⟩ = some (.int .i64 0) := (blk_cell BK167.out 2).trans rfl; have hcz48_3 : w47.cell? ⟨gb167, 3, none⟩ = some (.int .i64 0) := (blk_cell BK167.out 3).trans rfl; have hfz48_0 := blk_frozen BK167.out 0; have hfz48_1 := blk_frozen BK167.out 1; have hfz48_2 := blk_frozen BK167.out 2; have hfz48_3 := blk_frozen BK167.out 3))
                refine bodyPost_ret (results_ctt rfl _ _ gb167 30 #[.int .i64 t200, .string t201, .int .i64 t202, .int .i64 t203] (0, 0) _ rfl (by (with_reducible repeat (first | refine blk_drewN ?_ _ | refine blk_drew ?_ | refine blk_alloc ?_ _)); refine blk_put (cs := #[.int .i64 t200, .string t201, .int .i64 t202, .int .i64 0]) ?_ 3 _ rfl; (with_reducible repeat (first | refine blk_drewN ?_ _ | refine blk_drew ?_ | refine blk_alloc ?_ _)); refine blk_put (cs := #[.int .i64 t200, .string t201, .int .i64 0, .int .i64 0]) ?_ 2 _ rfl; (with_reducible repeat (first | refine blk_drewN ?_ _ | refine blk_drew ?_ | refine blk_alloc ?_ _)); refine blk_put (cs := #[.int .i64 t200, .string (⟨#[]⟩ : ByteArray), .int .i64 0, .int .i64 0]) ?_ 1 _ rfl; (with_reducible repeat (first | refine blk_drewN ?_ _ | refine blk_drew ?_ | refine blk_alloc ?_ _)); refine blk_put (cs := #[.int .i64 0, .string (⟨#[]⟩ : ByteArray), .int .i64 0, .int .i64 0]) ?_ 0 _ rfl; (with_reducible repeat (first | refine blk_drewN ?_ _ | refine blk_drew ?_ | refine blk_alloc ?_ _)); exact BK167.out) Tryd.underlying30 rfl (by kernel_rfl)) rfl ?_
                exact ⟨by first | rfl | (simp [errW_none, errW_some] <;> rfl) | (simp [*, errW_none, errW_some] <;> rfl), by repeat (first | (with_reducible first | exact HB.out | apply below_alloc | apply pw_below_drewN | apply below_drew1 | refine below_set ?_ GE167.out) | exact HB.out)⟩
              · replace c45 := Bool.eq_false_iff.mpr c45
                subst c45
                have H1 : ((spinneyref05_own.f a0 a1 3 t198).bind fun bt206 => (some (bt206.1, bt206.2.1, bt206.2.2.1, bt206.2.2.2.1, bt206.2.2.2.2.1, bt206.2.2.2.2.2))) = some (r1, r2, r3, r4, r5, r6) := by rw [if_neg (show ¬ (false = true) by decide)] at H; exact H
                clear H
                have H := H1
                clear H1
                replace H := Option.bind_eq_some_iff.mp H
                obtain ⟨⟨t206, t207, t208, t209, t210, t211⟩, A490, H⟩ := H
                replace H : (some (t206, t207, t208, t209, t210, t211)) = some (r1, r2, r3, r4, r5, r6) := H
                have A49 := Aside0.mk A490
                clear A490
                simp only [Option.some.injEq, Prod.mk.injEq] at H
                obtain ⟨rfl, rfl, rfl, rfl, rfl, rfl⟩ := H
                go_wp2_with (first | ((with_reducible refine gate_callee (f := 38) rfl ?_); refine goesL_ (some 87) rfl rfl Tryd.func38 (by kernel_rfl) rfl #[.string a0, .int .i64 a1, .int .i64 3, .int .i64 t198] rfl (by (try simp only [List.map_toArray, List.map_cons, List.map_nil]); first | done | rfl | (simp only [List.length_drop, List.length_take]; rfl)) ?_; (with_reducible refine (spinneyref05_own.calls a0 a1 3 t198 t206 t207 t208 t209 t210 t211 _ A49.out).mono ?_); rintro e w50 ⟨rfl, hb⟩; refine ⟨_, rfl, ?_⟩; have n0_ := Aside0.mk (blk_below (g := gb167) (o := .cells #[.int .i64 0, .string (⟨#[]⟩ : ByteArray), .int .i64 0, .int .i64 0] 30 (0, 0)) (by (with_reducible repeat (first | refine blk_drewN ?_ _ | refine blk_drew ?_ | refine blk_alloc ?_ _)); exact BK167.out) hb); have n1_ := Aside0.mk (below_step (by repeat (first | (with_reducible first | exact HB.out | apply below_alloc | apply pw_below_drewN | apply below_drew1 | refine below_set ?_ GE167.out) | exact HB.out)) hb); clear BK167; clear HB; have BK167 := n0_; have HB := n1_; clear n0_ n1_; (try clear hb); (try clear hb2); (try clear hk); (try clear hi); have hcz51_0 : w50.cell? ⟨gb167, 0, none⟩ = some (.int .i64 0) := (blk_cell BK167.out 0).trans rfl; have hcz51_1 : w50.cell? ⟨gb167, 1, none⟩ = some (.string (⟨#[]⟩ : ByteArray)) := (blk_cell BK167.out 1).trans rfl; have hcz51_2 : w50.cell? ⟨gb167, 2, none⟩ = some (.int .i64 0) := (blk_cell BK167.out 2).trans rfl; have hcz51_3 : w50.cell? ⟨gb167, 3, none⟩ = some (.int .i64 0) := (blk_cell BK167.out 3).trans rfl; have hfz51_0 := blk_frozen BK167.out 0; have hfz51_1 := blk_frozen BK167.out 1; have hfz51_2 := blk_frozen BK167.out 2; have hfz51_3 := blk_frozen BK167.out 3))
                refine bodyPost_ret (results_ctt rfl _ _ gb167 30 #[.int .i64 t206, .string t207, .int .i64 t208, .int .i64 t209] (0, 0) _ rfl (by (with_reducible repeat (first | refine blk_drewN ?_ _ | refine blk_drew ?_ | refine blk_alloc ?_ _)); refine blk_put (cs := #[.int .i64 t206, .string t207, .int .i64 t208, .int .i64 0]) ?_ 3 _ rfl; (with_reducible repeat (first | refine blk_drewN ?_ _ | refine blk_drew ?_ | refine blk_alloc ?_ _)); refine blk_put (cs := #[.int .i64 t206, .string t207, .int .i64 0, .int .i64 0]) ?_ 2 _ rfl; (with_reducible repeat (first | refine blk_drewN ?_ _ | refine blk_drew ?_ | refine blk_alloc ?_ _)); refine blk_put (cs := #[.int .i64 t206, .string (⟨#[]⟩ : ByteArray), .int .i64 0, .int .i64 0]) ?_ 1 _ rfl; (with_reducible repeat (first | refine blk_drewN ?_ _ | refine blk_drew ?_ | refine blk_alloc ?_ _)); refine blk_put (cs := #[.int .i64 0, .string (⟨#[]⟩ : ByteArray), .int .i64 0, .int .i64 0]) ?_ 0 _ rfl; (with_reducible repeat (first | refine blk_drewN ?_ _ | refine blk_drew ?_ | refine blk_alloc ?_ _)); exact BK167.out) Tryd.underlying30 rfl (by kernel_rfl)) rfl ?_
                exact ⟨by first | rfl | (simp [errW_none, errW_some] <;> rfl) | (simp [*, errW_none, errW_some] <;> rfl), by repeat (first | (with_reducible first | exact HB.out | apply below_alloc | apply pw_below_drewN | apply below_drew1 | refine below_set ?_ GE167.out) | exact HB.out)⟩
        · rw [if_neg c28] at H
          have c28b0 : (t168 == 4) = false := beq_eq_false_iff_ne.mpr c28
          have c28b1 : (t168 != 4) = true := bne_iff_ne.mpr c28
          by_cases c52 : t168 = 6
          · rw [if_pos c52] at H
            have c52b0 : (t168 == 6) = true := beq_iff_eq.mpr c52
            have c52b1 : (t168 != 6) = false := bne_eq_false_iff_eq.mpr c52
            clear c52
            have HC53 := Aside0.mk H
            clear H
            go_enter Tryd.func19, Tryd.ntmps19
            go_upto_region 14 with (first | ((with_reducible refine gate_dst (N := 6) rfl ?_); (try (refine gate_guard (by rfl) ?_; dsimp only)); refine box_event ?hg (N := 6) ?hd (cs := #[.int .i64 0, .string (⟨#[]⟩ : ByteArray), .int .i64 0, .int .i64 0]) (t := 30) ?hr ?_; (case hd => rfl); (case hg => rfl); (case hr => first | (go_simp; done) | (go_simp; rfl)); intro gb167 hg w54 hbox hb; have n0_ := Aside0.mk (below_step (by repeat (first | (with_reducible first | exact HB.out | apply below_alloc | apply pw_below_drewN | apply below_drew1) | exact HB.out)) hb); have n1_ := Aside0.mk (hbox); have n2_ := Aside0.mk ((by rw [hg]; exact (below_size (by repeat (first | (with_reducible first | exact HB.out | apply below_alloc | apply pw_below_drewN | apply below_drew1) | exact HB.out))) : w.heap.size ≤ gb167)); have n3_ := Aside0.mk ((by rw [hg]; exact (below_size (by repeat (first | (with_reducible first | exact HB.out | apply below_alloc | apply pw_below_drewN | apply below_drew1) | exact HB.out))) : w.heap.size ≤ gb167)); clear HB; have HB := n0_; have BK167 := n1_; have GW167 := n2_; have GE167 := n3_; clear n0_ n1_ n2_ n3_; clear hb hbox hg) | ((with_reducible refine gate_callee (f := 37) rfl ?_); refine goesL_ (some 15) rfl rfl Tryd.func37 (by kernel_rfl) rfl #[.string a0, .int .i64 a1] rfl (by (try simp only [List.map_toArray, List.map_cons, List.map_nil]); first | done | rfl | (simp only [List.length_drop, List.length_take]; rfl)) ?_; (with_reducible refine (spinneyref05_class.calls k a0 a1 t168 _ A4.out).mono ?_); rintro e w' ⟨rfl, ⟨nd, rfl⟩⟩; refine ⟨_, rfl, ?_⟩))
            (try simp only [Act.put, List.setIfInBounds_toArray, List.set_cons_zero, List.set_cons_succ])
            go_cut [102] (fun v102 wc => ∃ (kq : Nat) (x102_52 : Bool), v102 = .bool x102_52 ∧ Aside0 (spinneyref05_token.j1 kq a0 a1 x102_52 = some (r1, r2, r3, r4, r5, r6)) ∧ Aside0 (kq ≤ k) ∧ Aside0 (wc.heap[gb167]? = some (.cells #[.int .i64 0, .string (⟨#[]⟩ : ByteArray), .int .i64 0, .int .i64 0] 30 (0, 0))) ∧ Aside0 (Below w.heap.size w wc))
            case first =>
              have H := HC53.out
              clear HC53
              by_cases c55 : 0 ≤ a1
              · rw [if_pos c55] at H
                have c55b0 : decide (0 ≤ a1) = true := decide_eq_true c55
                clear c55
                (first | rw [c55b0] | (simp only [i64_w, i32_w]; rw [c55b0]) | skip)
                by_cases c56 : a1 < (a0.size : Int)
                · rw [if_pos c56] at H
                  have c56b0 : decide (a1 < (a0.size : Int)) = true := decide_eq_true c56
                  clear c56
                  by_cases c58 : (bt a0 a1) = 33
                  · rw [if_pos c58] at H
                    have c58b0 : ((bt a0 a1) == 33) = true := beq_iff_eq.mpr c58
                    have c58b1 : ((bt a0 a1) != 33) = false := bne_eq_false_iff_eq.mpr c58
                    clear c58
                    have H' := Aside0.mk H
                    clear H
                    have p57 : 0 ≤ (a1 : Int) := of_decide_eq_true (by first | (with_reducible assumption) | assumption)
                    have q57 : a1 < (a0.size : Int) := of_decide_eq_true (by first | (with_reducible assumption) | assumption)
                    have hx57 := bt_at a0 a1
                    replace p57 := eq_true p57
                    replace q57 := eq_true q57
                    go_wp2
                    go_meet
                    case rel => exact ⟨_, (true), (by first | rfl | (simp; done) | (simp [*]; done)), H', ⟨by first | omega | exact Nat.le_refl _⟩, ⟨by (with_reducible repeat (first | refine blk_drewN ?_ _ | refine blk_drew ?_ | refine blk_alloc ?_ _)); exact BK167.out⟩, ⟨by repeat (first | (with_reducible first | exact HB.out | apply below_alloc | apply pw_below_drewN | apply below_drew1 | refine below_set ?_ GE167.out) | exact HB.out)⟩⟩
                  · rw [if_neg c58] at H
                    have c58b0 : ((bt a0 a1) == 33) = false := beq_eq_false_iff_ne.mpr c58
                    have c58b1 : ((bt a0 a1) != 33) = true := bne_iff_ne.mpr c58
                    have H' := Aside0.mk H
                    clear H
                    have p57 : 0 ≤ (a1 : Int) := of_decide_eq_true (by first | (with_reducible assumption) | assumption)
                    have q57 : a1 < (a0.size : Int) := of_decide_eq_true (by first | (with_reducible assumption) | assumption)
                    have hx57 := bt_at a0 a1
                    replace p57 := eq_true p57
                    replace q57 := eq_true q57
                    have p59 : 0 ≤ (a1 : Int) := of_decide_eq_true (by first | (with_reducible assumption) | assumption)
                    have q59 : a1 < (a0.size : Int) := of_decide_eq_true (by first | (with_reducible assumption) | assumption)
                    have hx59 := bt_at a0 a1
                    replace p59 := eq_true p59
                    replace q59 := eq_true q59
                    go_wp2
                    go_meet
                    case rel => exact ⟨_, (((bt a0 a1) == 59)), (by first | rfl | (simp; done) | (simp [*]; done)), H', ⟨by first | omega | exact Nat.le_refl _⟩, ⟨by (with_reducible repeat (first | refine blk_drewN ?_ _ | refine blk_drew ?_ | refine blk_alloc ?_ _)); exact BK167.out⟩, ⟨by repeat (first | (with_reducible first | exact HB.out | apply below_alloc | apply pw_below_drewN | apply below_drew1 | refine below_set ?_ GE167.out) | exact HB.out)⟩⟩
                · rw [if_neg c56] at H
                  exact absurd H (by simp)
              · rw [if_neg c55] at H
                exact absurd H (by simp)
            case rest =>
              clear HC53
              try clear c1
              try clear c2
              try clear p2
              try clear c3
              try clear c4
              try clear p4
              try clear q4
              try clear hx4
              try clear c5
              try clear c5b0
              try clear c5b1
              try clear p5
              try clear q5
              try clear hx5
              try clear p6
              try clear c14
              try clear c14b0
              try clear c14b1
              try clear c19
              try clear c23
              try clear c23b0
              try clear c23b1
              try clear c28
              try clear c28b0
              try clear c28b1
              try clear c35
              try clear c35b0
              try clear c35b1
              try clear c36
              try clear c36b0
              try clear c36b1
              try clear c37
              try clear c37b0
              try clear c37b1
              try clear c38
              try clear c38b0
              try clear c38b1
              try clear c39
              try clear c39b0
              try clear c39b1
              try clear c40
              try clear c41
              try clear c41b0
              try clear c41b1
              try clear c42
              try clear c42b0
              try clear c43
              try clear c43b0
              try clear p44
              try clear q44
              try clear hx44
              try clear c45
              try clear c52
              try clear c52b0
              try clear c52b1
              try clear c55
              try clear c55b0
              try clear c56
              try clear c56b0
              try clear p57
              try clear q57
              try clear hx57
              try clear c58
              try clear c58b0
              try clear c58b1
              try clear p59
              try clear q59
              try clear hx59
              try clear hcz13_0
              try clear hcz13_1
              try clear hcz13_2
              try clear hcz13_3
              try clear hcz22_0
              try clear hcz22_1
              try clear hcz22_2
              try clear hcz22_3
              try clear hcz27_0
              try clear hcz27_1
              try clear hcz27_2
              try clear hcz27_3
              try clear hcz48_0
              try clear hcz48_1
              try clear hcz48_2
              try clear hcz48_3
              try clear hcz51_0
              try clear hcz51_1
              try clear hcz51_2
              try clear hcz51_3
              try clear hfz13_0
              try clear hfz13_1
              try clear hfz13_2
              try clear hfz13_3
              try clear hfz22_0
              try clear hfz22_1
              try clear hfz22_2
              try clear hfz22_3
              try clear hfz27_0
              try clear hfz27_1
              try clear hfz27_2
              try clear hfz27_3
              try clear hfz48_0
              try clear hfz48_1
              try clear hfz48_2
              try clear hfz48_3
              try clear hfz51_0
              try clear hfz51_1
              try clear hfz51_2
              try clear hfz51_3
              try clear p2
              try clear p4
              try clear p44
              try clear p57
              try clear p59
              try clear p6
              try clear q4
              try clear q44
              try clear q57
              try clear q59
              obtain ⟨kq, x102_52, rfl, HA, HJ52, BK167, HB⟩ := hcut
              cases kq with
              | zero => exact absurd HA.out (by simp [spinneyref05_token.j1])
              | succ kj52 =>
                have H := HA.out
                clear HA
                simp only [spinneyref05_token.j1] at H
                by_cases c60 : x102_52 = true
                · subst c60
                  have H1 : ((spinneyref05_own.f a0 a1 1 (wrap64 (a1 + 1))).bind fun bt212 => (some (bt212.1, bt212.2.1, bt212.2.2.1, bt212.2.2.2.1, bt212.2.2.2.2.1, bt212.2.2.2.2.2))) = some (r1, r2, r3, r4, r5, r6) := by rw [if_pos rfl] at H; exact H
                  clear H
                  have H := H1
                  clear H1
                  replace H := Option.bind_eq_some_iff.mp H
                  obtain ⟨⟨t212, t213, t214, t215, t216, t217⟩, A610, H⟩ := H
                  replace H : (some (t212, t213, t214, t215, t216, t217)) = some (r1, r2, r3, r4, r5, r6) := H
                  have A61 := Aside0.mk A610
                  clear A610
                  simp only [Option.some.injEq, Prod.mk.injEq] at H
                  obtain ⟨rfl, rfl, rfl, rfl, rfl, rfl⟩ := H
                  go_wp2_with (first | ((with_reducible refine gate_callee (f := 38) rfl ?_); refine goesL_ (some 107) rfl rfl Tryd.func38 (by kernel_rfl) rfl #[.string a0, .int .i64 a1, .int .i64 1, .int .i64 (wrap64 (a1 + 1))] rfl (by (try simp only [List.map_toArray, List.map_cons, List.map_nil]); first | done | rfl | (simp only [List.length_drop, List.length_take]; rfl)) ?_; (with_reducible refine (spinneyref05_own.calls a0 a1 1 (wrap64 (a1 + 1)) t212 t213 t214 t215 t216 t217 _ A61.out).mono ?_); rintro e w62 ⟨rfl, hb⟩; refine ⟨_, rfl, ?_⟩; have n0_ := Aside0.mk (blk_below (g := gb167) (o := .cells #[.int .i64 0, .string (⟨#[]⟩ : ByteArray), .int .i64 0, .int .i64 0] 30 (0, 0)) (by (with_reducible repeat (first | refine blk_drewN ?_ _ | refine blk_drew ?_ | refine blk_alloc ?_ _)); exact BK167.out) hb); have n1_ := Aside0.mk (below_step (by repeat (first | (with_reducible first | exact HB.out | apply below_alloc | apply pw_below_drewN | apply below_drew1 | refine below_set ?_ GE167.out) | exact HB.out)) hb); clear BK167; clear HB; have BK167 := n0_; have HB := n1_; clear n0_ n1_; (try clear hb); (try clear hb2); (try clear hk); (try clear hi); have hcz63_0 : w62.cell? ⟨gb167, 0, none⟩ = some (.int .i64 0) := (blk_cell BK167.out 0).trans rfl; have hcz63_1 : w62.cell? ⟨gb167, 1, none⟩ = some (.string (⟨#[]⟩ : ByteArray)) := (blk_cell BK167.out 1).trans rfl; have hcz63_2 : w62.cell? ⟨gb167, 2, none⟩ = some (.int .i64 0) := (blk_cell BK167.out 2).trans rfl; have hcz63_3 : w62.cell? ⟨gb167, 3, none⟩ = some (.int .i64 0) := (blk_cell BK167.out 3).trans rfl; have hfz63_0 := blk_frozen BK167.out 0; have hfz63_1 := blk_frozen BK167.out 1; have hfz63_2 := blk_frozen BK167.out 2; have hfz63_3 := blk_frozen BK167.out 3))
                  refine bodyPost_ret (results_ctt rfl _ _ gb167 30 #[.int .i64 t212, .string t213, .int .i64 t214, .int .i64 t215] (0, 0) _ rfl (by (with_reducible repeat (first | refine blk_drewN ?_ _ | refine blk_drew ?_ | refine blk_alloc ?_ _)); refine blk_put (cs := #[.int .i64 t212, .string t213, .int .i64 t214, .int .i64 0]) ?_ 3 _ rfl; (with_reducible repeat (first | refine blk_drewN ?_ _ | refine blk_drew ?_ | refine blk_alloc ?_ _)); refine blk_put (cs := #[.int .i64 t212, .string t213, .int .i64 0, .int .i64 0]) ?_ 2 _ rfl; (with_reducible repeat (first | refine blk_drewN ?_ _ | refine blk_drew ?_ | refine blk_alloc ?_ _)); refine blk_put (cs := #[.int .i64 t212, .string (⟨#[]⟩ : ByteArray), .int .i64 0, .int .i64 0]) ?_ 1 _ rfl; (with_reducible repeat (first | refine blk_drewN ?_ _ | refine blk_drew ?_ | refine blk_alloc ?_ _)); refine blk_put (cs := #[.int .i64 0, .string (⟨#[]⟩ : ByteArray), .int .i64 0, .int .i64 0]) ?_ 0 _ rfl; (with_reducible repeat (first | refine blk_drewN ?_ _ | refine blk_drew ?_ | refine blk_alloc ?_ _)); exact BK167.out) Tryd.underlying30 rfl (by kernel_rfl)) rfl ?_
                  exact ⟨by first | rfl | (simp [errW_none, errW_some] <;> rfl) | (simp [*, errW_none, errW_some] <;> rfl), by repeat (first | (with_reducible first | exact HB.out | apply below_alloc | apply pw_below_drewN | apply below_drew1 | refine below_set ?_ GE167.out) | exact HB.out)⟩
                · replace c60 := Bool.eq_false_iff.mpr c60
                  subst c60
                  have H1 : ((spinneyref05_own.f a0 a1 6 (wrap64 (a1 + 1))).bind fun bt218 => (some (bt218.1, bt218.2.1, bt218.2.2.1, bt218.2.2.2.1, bt218.2.2.2.2.1, bt218.2.2.2.2.2))) = some (r1, r2, r3, r4, r5, r6) := by rw [if_neg (show ¬ (false = true) by decide)] at H; exact H
                  clear H
                  have H := H1
                  clear H1
                  replace H := Option.bind_eq_some_iff.mp H
                  obtain ⟨⟨t218, t219, t220, t221, t222, t223⟩, A640, H⟩ := H
                  replace H : (some (t218, t219, t220, t221, t222, t223)) = some (r1, r2, r3, r4, r5, r6) := H
                  have A64 := Aside0.mk A640
                  clear A640
                  simp only [Option.some.injEq, Prod.mk.injEq] at H
                  obtain ⟨rfl, rfl, rfl, rfl, rfl, rfl⟩ := H
                  go_wp2_with (first | ((with_reducible refine gate_callee (f := 38) rfl ?_); refine goesL_ (some 115) rfl rfl Tryd.func38 (by kernel_rfl) rfl #[.string a0, .int .i64 a1, .int .i64 6, .int .i64 (wrap64 (a1 + 1))] rfl (by (try simp only [List.map_toArray, List.map_cons, List.map_nil]); first | done | rfl | (simp only [List.length_drop, List.length_take]; rfl)) ?_; (with_reducible refine (spinneyref05_own.calls a0 a1 6 (wrap64 (a1 + 1)) t218 t219 t220 t221 t222 t223 _ A64.out).mono ?_); rintro e w65 ⟨rfl, hb⟩; refine ⟨_, rfl, ?_⟩; have n0_ := Aside0.mk (blk_below (g := gb167) (o := .cells #[.int .i64 0, .string (⟨#[]⟩ : ByteArray), .int .i64 0, .int .i64 0] 30 (0, 0)) (by (with_reducible repeat (first | refine blk_drewN ?_ _ | refine blk_drew ?_ | refine blk_alloc ?_ _)); exact BK167.out) hb); have n1_ := Aside0.mk (below_step (by repeat (first | (with_reducible first | exact HB.out | apply below_alloc | apply pw_below_drewN | apply below_drew1 | refine below_set ?_ GE167.out) | exact HB.out)) hb); clear BK167; clear HB; have BK167 := n0_; have HB := n1_; clear n0_ n1_; (try clear hb); (try clear hb2); (try clear hk); (try clear hi); have hcz66_0 : w65.cell? ⟨gb167, 0, none⟩ = some (.int .i64 0) := (blk_cell BK167.out 0).trans rfl; have hcz66_1 : w65.cell? ⟨gb167, 1, none⟩ = some (.string (⟨#[]⟩ : ByteArray)) := (blk_cell BK167.out 1).trans rfl; have hcz66_2 : w65.cell? ⟨gb167, 2, none⟩ = some (.int .i64 0) := (blk_cell BK167.out 2).trans rfl; have hcz66_3 : w65.cell? ⟨gb167, 3, none⟩ = some (.int .i64 0) := (blk_cell BK167.out 3).trans rfl; have hfz66_0 := blk_frozen BK167.out 0; have hfz66_1 := blk_frozen BK167.out 1; have hfz66_2 := blk_frozen BK167.out 2; have hfz66_3 := blk_frozen BK167.out 3))
                  refine bodyPost_ret (results_ctt rfl _ _ gb167 30 #[.int .i64 t218, .string t219, .int .i64 t220, .int .i64 t221] (0, 0) _ rfl (by (with_reducible repeat (first | refine blk_drewN ?_ _ | refine blk_drew ?_ | refine blk_alloc ?_ _)); refine blk_put (cs := #[.int .i64 t218, .string t219, .int .i64 t220, .int .i64 0]) ?_ 3 _ rfl; (with_reducible repeat (first | refine blk_drewN ?_ _ | refine blk_drew ?_ | refine blk_alloc ?_ _)); refine blk_put (cs := #[.int .i64 t218, .string t219, .int .i64 0, .int .i64 0]) ?_ 2 _ rfl; (with_reducible repeat (first | refine blk_drewN ?_ _ | refine blk_drew ?_ | refine blk_alloc ?_ _)); refine blk_put (cs := #[.int .i64 t218, .string (⟨#[]⟩ : ByteArray), .int .i64 0, .int .i64 0]) ?_ 1 _ rfl; (with_reducible repeat (first | refine blk_drewN ?_ _ | refine blk_drew ?_ | refine blk_alloc ?_ _)); refine blk_put (cs := #[.int .i64 0, .string (⟨#[]⟩ : ByteArray), .int .i64 0, .int .i64 0]) ?_ 0 _ rfl; (with_reducible repeat (first | refine blk_drewN ?_ _ | refine blk_drew ?_ | refine blk_alloc ?_ _)); exact BK167.out) Tryd.underlying30 rfl (by kernel_rfl)) rfl ?_
                  exact ⟨by first | rfl | (simp [errW_none, errW_some] <;> rfl) | (simp [*, errW_none, errW_some] <;> rfl), by repeat (first | (with_reducible first | exact HB.out | apply below_alloc | apply pw_below_drewN | apply below_drew1 | refine below_set ?_ GE167.out) | exact HB.out)⟩
          · rw [if_neg c52] at H
            have c52b0 : (t168 == 6) = false := beq_eq_false_iff_ne.mpr c52
            have c52b1 : (t168 != 6) = true := bne_iff_ne.mpr c52
            by_cases c67 : t168 = 7
            · rw [if_pos c67] at H
              have c67b0 : (t168 == 7) = true := beq_iff_eq.mpr c67
              have c67b1 : (t168 != 7) = false := bne_eq_false_iff_eq.mpr c67
              clear c67
              have HC68 := Aside0.mk H
              clear H
              go_enter Tryd.func19, Tryd.ntmps19
              go_upto_region 18 with (first | ((with_reducible refine gate_dst (N := 6) rfl ?_); (try (refine gate_guard (by rfl) ?_; dsimp only)); refine box_event ?hg (N := 6) ?hd (cs := #[.int .i64 0, .string (⟨#[]⟩ : ByteArray), .int .i64 0, .int .i64 0]) (t := 30) ?hr ?_; (case hd => rfl); (case hg => rfl); (case hr => first | (go_simp; done) | (go_simp; rfl)); intro gb167 hg w69 hbox hb; have n0_ := Aside0.mk (below_step (by repeat (first | (with_reducible first | exact HB.out | apply below_alloc | apply pw_below_drewN | apply below_drew1) | exact HB.out)) hb); have n1_ := Aside0.mk (hbox); have n2_ := Aside0.mk ((by rw [hg]; exact (below_size (by repeat (first | (with_reducible first | exact HB.out | apply below_alloc | apply pw_below_drewN | apply below_drew1) | exact HB.out))) : w.heap.size ≤ gb167)); have n3_ := Aside0.mk ((by rw [hg]; exact (below_size (by repeat (first | (with_reducible first | exact HB.out | apply below_alloc | apply pw_below_drewN | apply below_drew1) | exact HB.out))) : w.heap.size ≤ gb167)); clear HB; have HB := n0_; have BK167 := n1_; have GW167 := n2_; have GE167 := n3_; clear n0_ n1_ n2_ n3_; clear hb hbox hg) | ((with_reducible refine gate_callee (f := 37) rfl ?_); refine goesL_ (some 15) rfl rfl Tryd.func37 (by kernel_rfl) rfl #[.string a0, .int .i64 a1] rfl (by (try simp only [List.map_toArray, List.map_cons, List.map_nil]); first | done | rfl | (simp only [List.length_drop, List.length_take]; rfl)) ?_; (with_reducible refine (spinneyref05_class.calls k a0 a1 t168 _ A4.out).mono ?_); rintro e w' ⟨rfl, ⟨nd, rfl⟩⟩; refine ⟨_, rfl, ?_⟩))
              (try simp only [Act.put, List.setIfInBounds_toArray, List.set_cons_zero, List.set_cons_succ])
              go_cut [127] (fun v127 wc => ∃ (kq : Nat) (x127_67 : Bool), v127 = .bool x127_67 ∧ Aside0 (spinneyref05_token.j2 kq a0 a1 x127_67 = some (r1, r2, r3, r4, r5, r6)) ∧ Aside0 (kq ≤ k) ∧ Aside0 (wc.heap[gb167]? = some (.cells #[.int .i64 0, .string (⟨#[]⟩ : ByteArray), .int .i64 0, .int .i64 0] 30 (0, 0))) ∧ Aside0 (Below w.heap.size w wc))
              case first =>
                have H := HC68.out
                clear HC68
                by_cases c70 : 0 ≤ a1
                · rw [if_pos c70] at H
                  have c70b0 : decide (0 ≤ a1) = true := decide_eq_true c70
                  clear c70
                  (first | rw [c70b0] | (simp only [i64_w, i32_w]; rw [c70b0]) | skip)
                  by_cases c71 : a1 < (a0.size : Int)
                  · rw [if_pos c71] at H
                    have c71b0 : decide (a1 < (a0.size : Int)) = true := decide_eq_true c71
                    clear c71
                    by_cases c73 : (bt a0 a1) = 40
                    · rw [if_pos c73] at H
                      have c73b0 : ((bt a0 a1) == 40) = true := beq_iff_eq.mpr c73
                      have c73b1 : ((bt a0 a1) != 40) = false := bne_eq_false_iff_eq.mpr c73
                      clear c73
                      have H' := Aside0.mk H
                      clear H
                      have p72 : 0 ≤ (a1 : Int) := of_decide_eq_true (by first | (with_reducible assumption) | assumption)
                      have q72 : a1 < (a0.size : Int) := of_decide_eq_true (by first | (with_reducible assumption) | assumption)
                      have hx72 := bt_at a0 a1
                      replace p72 := eq_true p72
                      replace q72 := eq_true q72
                      go_wp2
                      go_meet
                      case rel => exact ⟨_, (a2), (by first | rfl | (simp; done) | (simp [*]; done)), H', ⟨by first | omega | exact Nat.le_refl _⟩, ⟨by (with_reducible repeat (first | refine blk_drewN ?_ _ | refine blk_drew ?_ | refine blk_alloc ?_ _)); exact BK167.out⟩, ⟨by repeat (first | (with_reducible first | exact HB.out | apply below_alloc | apply pw_below_drewN | apply below_drew1 | refine below_set ?_ GE167.out) | exact HB.out)⟩⟩
                    · rw [if_neg c73] at H
                      have c73b0 : ((bt a0 a1) == 40) = false := beq_eq_false_iff_ne.mpr c73
                      have c73b1 : ((bt a0 a1) != 40) = true := bne_iff_ne.mpr c73
                      have H' := Aside0.mk H
                      clear H
                      have p72 : 0 ≤ (a1 : Int) := of_decide_eq_true (by first | (with_reducible assumption) | assumption)
                      have q72 : a1 < (a0.size : Int) := of_decide_eq_true (by first | (with_reducible assumption) | assumption)
                      have hx72 := bt_at a0 a1
                      replace p72 := eq_true p72
                      replace q72 := eq_true q72
                      go_wp2
                      go_meet
                      case rel => exact ⟨_, (false), (by first | rfl | (simp; done) | (simp [*]; done)), H', ⟨by first | omega | exact Nat.le_refl _⟩, ⟨by (with_reducible repeat (first | refine blk_drewN ?_ _ | refine blk_drew ?_ | refine blk_alloc ?_ _)); exact BK167.out⟩, ⟨by repeat (first | (with_reducible first | exact HB.out | apply below_alloc | apply pw_below_drewN | apply below_drew1 | refine below_set ?_ GE167.out) | exact HB.out)⟩⟩
                  · rw [if_neg c71] at H
                    exact absurd H (by simp)
                · rw [if_neg c70] at H
                  exact absurd H (by simp)
              case rest =>
                clear HC68
                try clear c1
                try clear c2
                try clear p2
                try clear c3
                try clear c4
                try clear p4
                try clear q4
                try clear hx4
                try clear c5
                try clear c5b0
                try clear c5b1
                try clear p5
                try clear q5
                try clear hx5
                try clear c6
                try clear p6
                try clear c7
                try clear p7
                try clear q7
                try clear hx7
                try clear c14
                try clear c14b0
                try clear c14b1
                try clear c19
                try clear c23
                try clear c23b0
                try clear c23b1
                try clear c28
                try clear c28b0
                try clear c28b1
                try clear c35
                try clear c35b0
                try clear c35b1
                try clear c36
                try clear c36b0
                try clear c36b1
                try clear c37
                try clear c37b0
                try clear c37b1
                try clear c38
                try clear c38b0
                try clear c38b1
                try clear c39
                try clear c39b0
                try clear c39b1
                try clear c40
                try clear c41
                try clear c41b0
                try clear c41b1
                try clear c42
                try clear c42b0
                try clear c43
                try clear c43b0
                try clear p44
                try clear q44
                try clear hx44
                try clear c45
                try clear c52
                try clear c52b0
                try clear c52b1
                try clear c55
                try clear c55b0
                try clear c56
                try clear c56b0
                try clear p57
                try clear q57
                try clear hx57
                try clear c58
                try clear c58b0
                try clear c58b1
                try clear p59
                try clear q59
                try clear hx59
                try clear c60
                try clear p64
                try clear c67
                try clear c67b0
                try clear c67b1
                try clear c70
                try clear c70b0
                try clear c71
                try clear c71b0
                try clear p72
                try clear q72
                try clear hx72
                try clear c73
                try clear c73b0
                try clear c73b1
                try clear hcz13_0
                try clear hcz13_1
                try clear hcz13_2
                try clear hcz13_3
                try clear hcz22_0
                try clear hcz22_1
                try clear hcz22_2
                try clear hcz22_3
                try clear hcz27_0
                try clear hcz27_1
                try clear hcz27_2
                try clear hcz27_3
                try clear hcz48_0
                try clear hcz48_1
                try clear hcz48_2
                try clear hcz48_3
                try clear hcz51_0
                try clear hcz51_1
                try clear hcz51_2
                try clear hcz51_3
                try clear hcz63_0
                try clear hcz63_1
                try clear hcz63_2
                try clear hcz63_3
                try clear hcz66_0
                try clear hcz66_1
                try clear hcz66_2
                try clear hcz66_3
                try clear hfz13_0
                try clear hfz13_1
                try clear hfz13_2
                try clear hfz13_3
                try clear hfz22_0
                try clear hfz22_1
                try clear hfz22_2
                try clear hfz22_3
                try clear hfz27_0
                try clear hfz27_1
                try clear hfz27_2
                try clear hfz27_3
                try clear hfz48_0
                try clear hfz48_1
                try clear hfz48_2
                try clear hfz48_3
                try clear hfz51_0
                try clear hfz51_1
                try clear hfz51_2
                try clear hfz51_3
                try clear hfz63_0
                try clear hfz63_1
                try clear hfz63_2
                try clear hfz63_3
                try clear hfz66_0
                try clear hfz66_1
                try clear hfz66_2
                try clear hfz66_3
                try clear p2
                try clear p4
                try clear p44
                try clear p5
                try clear p57
                try clear p59
                try clear p6
                try clear p72
                try clear q4
                try clear q44
                try clear q5
                try clear q57
                try clear q59
                try clear q72
                obtain ⟨kq, x127_67, rfl, HA, HJ67, BK167, HB⟩ := hcut
                cases kq with
                | zero => exact absurd HA.out (by simp [spinneyref05_token.j2])
                | succ kj67 =>
                  have H := HA.out
                  clear HA
                  simp only [spinneyref05_token.j2] at H
                  by_cases c74 : x127_67 = true
                  · subst c74
                    have H1 : ((spinneyref05_own.f a0 a1 7 (wrap64 (a1 + 1))).bind fun bt224 => (some (bt224.1, bt224.2.1, bt224.2.2.1, bt224.2.2.2.1, bt224.2.2.2.2.1, bt224.2.2.2.2.2))) = some (r1, r2, r3, r4, r5, r6) := by rw [if_pos rfl] at H; exact H
                    clear H
                    have H := H1
                    clear H1
                    replace H := Option.bind_eq_some_iff.mp H
                    obtain ⟨⟨t224, t225, t226, t227, t228, t229⟩, A750, H⟩ := H
                    replace H : (some (t224, t225, t226, t227, t228, t229)) = some (r1, r2, r3, r4, r5, r6) := H
                    have A75 := Aside0.mk A750
                    clear A750
                    simp only [Option.some.injEq, Prod.mk.injEq] at H
                    obtain ⟨rfl, rfl, rfl, rfl, rfl, rfl⟩ := H
                    go_wp2_with (first | ((with_reducible refine gate_callee (f := 38) rfl ?_); refine goesL_ (some 132) rfl rfl Tryd.func38 (by kernel_rfl) rfl #[.string a0, .int .i64 a1, .int .i64 7, .int .i64 (wrap64 (a1 + 1))] rfl (by (try simp only [List.map_toArray, List.map_cons, List.map_nil]); first | done | rfl | (simp only [List.length_drop, List.length_take]; rfl)) ?_; (with_reducible refine (spinneyref05_own.calls a0 a1 7 (wrap64 (a1 + 1)) t224 t225 t226 t227 t228 t229 _ A75.out).mono ?_); rintro e w76 ⟨rfl, hb⟩; refine ⟨_, rfl, ?_⟩; have n0_ := Aside0.mk (blk_below (g := gb167) (o := .cells #[.int .i64 0, .string (⟨#[]⟩ : ByteArray), .int .i64 0, .int .i64 0] 30 (0, 0)) (by (with_reducible repeat (first | refine blk_drewN ?_ _ | refine blk_drew ?_ | refine blk_alloc ?_ _)); exact BK167.out) hb); have n1_ := Aside0.mk (below_step (by repeat (first | (with_reducible first | exact HB.out | apply below_alloc | apply pw_below_drewN | apply below_drew1 | refine below_set ?_ GE167.out) | exact HB.out)) hb); clear BK167; clear HB; have BK167 := n0_; have HB := n1_; clear n0_ n1_; (try clear hb); (try clear hb2); (try clear hk); (try clear hi); have hcz77_0 : w76.cell? ⟨gb167, 0, none⟩ = some (.int .i64 0) := (blk_cell BK167.out 0).trans rfl; have hcz77_1 : w76.cell? ⟨gb167, 1, none⟩ = some (.string (⟨#[]⟩ : ByteArray)) := (blk_cell BK167.out 1).trans rfl; have hcz77_2 : w76.cell? ⟨gb167, 2, none⟩ = some (.int .i64 0) := (blk_cell BK167.out 2).trans rfl; have hcz77_3 : w76.cell? ⟨gb167, 3, none⟩ = some (.int .i64 0) := (blk_cell BK167.out 3).trans rfl; have hfz77_0 := blk_frozen BK167.out 0; have hfz77_1 := blk_frozen BK167.out 1; have hfz77_2 := blk_frozen BK167.out 2; have hfz77_3 := blk_frozen BK167.out 3))
                    refine bodyPost_ret (results_ctt rfl _ _ gb167 30 #[.int .i64 t224, .string t225, .int .i64 t226, .int .i64 t227] (0, 0) _ rfl (by (with_reducible repeat (first | refine blk_drewN ?_ _ | refine blk_drew ?_ | refine blk_alloc ?_ _)); refine blk_put (cs := #[.int .i64 t224, .string t225, .int .i64 t226, .int .i64 0]) ?_ 3 _ rfl; (with_reducible repeat (first | refine blk_drewN ?_ _ | refine blk_drew ?_ | refine blk_alloc ?_ _)); refine blk_put (cs := #[.int .i64 t224, .string t225, .int .i64 0, .int .i64 0]) ?_ 2 _ rfl; (with_reducible repeat (first | refine blk_drewN ?_ _ | refine blk_drew ?_ | refine blk_alloc ?_ _)); refine blk_put (cs := #[.int .i64 t224, .string (⟨#[]⟩ : ByteArray), .int .i64 0, .int .i64 0]) ?_ 1 _ rfl; (with_reducible repeat (first | refine blk_drewN ?_ _ | refine blk_drew ?_ | refine blk_alloc ?_ _)); refine blk_put (cs := #[.int .i64 0, .string (⟨#[]⟩ : ByteArray), .int .i64 0, .int .i64 0]) ?_ 0 _ rfl; (with_reducible repeat (first | refine blk_drewN ?_ _ | refine blk_drew ?_ | refine blk_alloc ?_ _)); exact BK167.out) Tryd.underlying30 rfl (by kernel_rfl)) rfl ?_
                    exact ⟨by first | rfl | (simp [errW_none, errW_some] <;> rfl) | (simp [*, errW_none, errW_some] <;> rfl), by repeat (first | (with_reducible first | exact HB.out | apply below_alloc | apply pw_below_drewN | apply below_drew1 | refine below_set ?_ GE167.out) | exact HB.out)⟩
                  · replace c74 := Bool.eq_false_iff.mpr c74
                    subst c74
                    have H1 : ((spinneyref05_own.f a0 a1 6 (wrap64 (a1 + 1))).bind fun bt230 => (some (bt230.1, bt230.2.1, bt230.2.2.1, bt230.2.2.2.1, bt230.2.2.2.2.1, bt230.2.2.2.2.2))) = some (r1, r2, r3, r4, r5, r6) := by rw [if_neg (show ¬ (false = true) by decide)] at H; exact H
                    clear H
                    have H := H1
                    clear H1
                    replace H := Option.bind_eq_some_iff.mp H
                    obtain ⟨⟨t230, t231, t232, t233, t234, t235⟩, A780, H⟩ := H
                    replace H : (some (t230, t231, t232, t233, t234, t235)) = some (r1, r2, r3, r4, r5, r6) := H
                    have A78 := Aside0.mk A780
                    clear A780
                    simp only [Option.some.injEq, Prod.mk.injEq] at H
                    obtain ⟨rfl, rfl, rfl, rfl, rfl, rfl⟩ := H
                    go_wp2_with (first | ((with_reducible refine gate_callee (f := 38) rfl ?_); refine goesL_ (some 140) rfl rfl Tryd.func38 (by kernel_rfl) rfl #[.string a0, .int .i64 a1, .int .i64 6, .int .i64 (wrap64 (a1 + 1))] rfl (by (try simp only [List.map_toArray, List.map_cons, List.map_nil]); first | done | rfl | (simp only [List.length_drop, List.length_take]; rfl)) ?_; (with_reducible refine (spinneyref05_own.calls a0 a1 6 (wrap64 (a1 + 1)) t230 t231 t232 t233 t234 t235 _ A78.out).mono ?_); rintro e w79 ⟨rfl, hb⟩; refine ⟨_, rfl, ?_⟩; have n0_ := Aside0.mk (blk_below (g := gb167) (o := .cells #[.int .i64 0, .string (⟨#[]⟩ : ByteArray), .int .i64 0, .int .i64 0] 30 (0, 0)) (by (with_reducible repeat (first | refine blk_drewN ?_ _ | refine blk_drew ?_ | refine blk_alloc ?_ _)); exact BK167.out) hb); have n1_ := Aside0.mk (below_step (by repeat (first | (with_reducible first | exact HB.out | apply below_alloc | apply pw_below_drewN | apply below_drew1 | refine below_set ?_ GE167.out) | exact HB.out)) hb); clear BK167; clear HB; have BK167 := n0_; have HB := n1_; clear n0_ n1_; (try clear hb); (try clear hb2); (try clear hk); (try clear hi); have hcz80_0 : w79.cell? ⟨gb167, 0, none⟩ = some (.int .i64 0) := (blk_cell BK167.out 0).trans rfl; have hcz80_1 : w79.cell? ⟨gb167, 1, none⟩ = some (.string (⟨#[]⟩ : ByteArray)) := (blk_cell BK167.out 1).trans rfl; have hcz80_2 : w79.cell? ⟨gb167, 2, none⟩ = some (.int .i64 0) := (blk_cell BK167.out 2).trans rfl; have hcz80_3 : w79.cell? ⟨gb167, 3, none⟩ = some (.int .i64 0) := (blk_cell BK167.out 3).trans rfl; have hfz80_0 := blk_frozen BK167.out 0; have hfz80_1 := blk_frozen BK167.out 1; have hfz80_2 := blk_frozen BK167.out 2; have hfz80_3 := blk_frozen BK167.out 3))
                    refine bodyPost_ret (results_ctt rfl _ _ gb167 30 #[.int .i64 t230, .string t231, .int .i64 t232, .int .i64 t233] (0, 0) _ rfl (by (with_reducible repeat (first | refine blk_drewN ?_ _ | refine blk_drew ?_ | refine blk_alloc ?_ _)); refine blk_put (cs := #[.int .i64 t230, .string t231, .int .i64 t232, .int .i64 0]) ?_ 3 _ rfl; (with_reducible repeat (first | refine blk_drewN ?_ _ | refine blk_drew ?_ | refine blk_alloc ?_ _)); refine blk_put (cs := #[.int .i64 t230, .string t231, .int .i64 0, .int .i64 0]) ?_ 2 _ rfl; (with_reducible repeat (first | refine blk_drewN ?_ _ | refine blk_drew ?_ | refine blk_alloc ?_ _)); refine blk_put (cs := #[.int .i64 t230, .string (⟨#[]⟩ : ByteArray), .int .i64 0, .int .i64 0]) ?_ 1 _ rfl; (with_reducible repeat (first | refine blk_drewN ?_ _ | refine blk_drew ?_ | refine blk_alloc ?_ _)); refine blk_put (cs := #[.int .i64 0, .string (⟨#[]⟩ : ByteArray), .int .i64 0, .int .i64 0]) ?_ 0 _ rfl; (with_reducible repeat (first | refine blk_drewN ?_ _ | refine blk_drew ?_ | refine blk_alloc ?_ _)); exact BK167.out) Tryd.underlying30 rfl (by kernel_rfl)) rfl ?_
                    exact ⟨by first | rfl | (simp [errW_none, errW_some] <;> rfl) | (simp [*, errW_none, errW_some] <;> rfl), by repeat (first | (with_reducible first | exact HB.out | apply below_alloc | apply pw_below_drewN | apply below_drew1 | refine below_set ?_ GE167.out) | exact HB.out)⟩
            · rw [if_neg c67] at H
              have c67b0 : (t168 == 7) = false := beq_eq_false_iff_ne.mpr c67
              have c67b1 : (t168 != 7) = true := bne_iff_ne.mpr c67
              by_cases c81 : t168 = 8
              · rw [if_pos c81] at H
                have c81b0 : (t168 == 8) = true := beq_iff_eq.mpr c81
                have c81b1 : (t168 != 8) = false := bne_eq_false_iff_eq.mpr c81
                clear c81
                by_cases c82 : 0 ≤ a1
                · rw [if_pos c82] at H
                  have c82b0 := eq_true c82
                  have c82b1 : decide (0 ≤ a1) = true := decide_eq_true c82
                  clear c82
                  by_cases c83 : a1 ≤ (a0.size : Int)
                  · rw [if_pos c83] at H
                    have c83b0 := eq_true c83
                    have c83b1 : decide (a1 ≤ (a0.size : Int)) = true := decide_eq_true c83
                    clear c83
                    replace H := Option.bind_eq_some_iff.mp H
                    obtain ⟨⟨t236, t237, t238⟩, A840, H⟩ := H
                    replace H : (if t238 = 0 then (if (t236.size : Int) > 255 then (some (0, (⟨#[]⟩ : ByteArray), 0, 0, 0, false)) else (some (2, t236, 0, a1, wrap64 (a1 + t237), true))) else (some (0, (⟨#[]⟩ : ByteArray), 0, 0, 0, false))) = some (r1, r2, r3, r4, r5, r6) := H
                    have A84 := Aside0.mk A840
                    clear A840
                    by_cases c85 : t238 = 0
                    · rw [if_pos c85] at H
                      have c85b0 : (t238 == 0) = true := beq_iff_eq.mpr c85
                      have c85b1 : (t238 != 0) = false := bne_eq_false_iff_eq.mpr c85
                      clear c85
                      by_cases c86 : (t236.size : Int) > 255
                      · rw [if_pos c86] at H
                        have c86b0 : decide (255 < (t236.size : Int)) = true := decide_eq_true c86
                        have c86b1 : decide (255 < t236.size) = true := decide_eq_true (by omega)
                        clear c86
                        simp only [Option.some.injEq, Prod.mk.injEq] at H
                        obtain ⟨rfl, rfl, rfl, rfl, rfl, rfl⟩ := H
                        go_enter Tryd.func19, Tryd.ntmps19
                        go_wp2_with (first | ((with_reducible refine gate_dst (N := 6) rfl ?_); (try (refine gate_guard (by rfl) ?_; dsimp only)); refine box_event ?hg (N := 6) ?hd (cs := #[.int .i64 0, .string (⟨#[]⟩ : ByteArray), .int .i64 0, .int .i64 0]) (t := 30) ?hr ?_; (case hd => rfl); (case hg => rfl); (case hr => first | (go_simp; done) | (go_simp; rfl)); intro gb167 hg w87 hbox hb; have n0_ := Aside0.mk (below_step (by repeat (first | (with_reducible first | exact HB.out | apply below_alloc | apply pw_below_drewN | apply below_drew1) | exact HB.out)) hb); have n1_ := Aside0.mk (hbox); have n2_ := Aside0.mk ((by rw [hg]; exact (below_size (by repeat (first | (with_reducible first | exact HB.out | apply below_alloc | apply pw_below_drewN | apply below_drew1) | exact HB.out))) : w.heap.size ≤ gb167)); have n3_ := Aside0.mk ((by rw [hg]; exact (below_size (by repeat (first | (with_reducible first | exact HB.out | apply below_alloc | apply pw_below_drewN | apply below_drew1) | exact HB.out))) : w.heap.size ≤ gb167)); clear HB; have HB := n0_; have BK167 := n1_; have GW167 := n2_; have GE167 := n3_; clear n0_ n1_ n2_ n3_; clear hb hbox hg) | ((with_reducible refine gate_callee (f := 37) rfl ?_); refine goesL_ (some 15) rfl rfl Tryd.func37 (by kernel_rfl) rfl #[.string a0, .int .i64 a1] rfl (by (try simp only [List.map_toArray, List.map_cons, List.map_nil]); first | done | rfl | (simp only [List.length_drop, List.length_take]; rfl)) ?_; (with_reducible refine (spinneyref05_class.calls k a0 a1 t168 _ A4.out).mono ?_); rintro e w' ⟨rfl, ⟨nd, rfl⟩⟩; refine ⟨_, rfl, ?_⟩; (try (rw [drewN_self w87]; generalize hq_ : World.drewN w87 _ = w87; have n0_ : Aside0 (w87.heap[gb167]? = some (.cells #[.int .i64 0, .string (⟨#[]⟩ : ByteArray), .int .i64 0, .int .i64 0] 30 (0, 0))) := ⟨by rw [← hq_]; exact (by (with_reducible repeat (first | refine blk_drewN ?_ _ | refine blk_drew ?_ | refine blk_alloc ?_ _)); exact BK167.out)⟩; have n1_ : Aside0 (Below w.heap.size w w87) := ⟨by rw [← hq_]; exact (by repeat (first | (with_reducible first | exact HB.out | apply below_alloc | apply pw_below_drewN | apply below_drew1 | refine below_set ?_ GE167.out) | exact HB.out))⟩; clear BK167 HB hq_; have BK167 := n0_; have HB := n1_; clear n0_ n1_))) | ((with_reducible refine gate_callee (f := 41) rfl ?_); refine goesL_ (some 150) rfl rfl Tryd.func41 (by kernel_rfl) rfl #[.string (a0.extract (a1 : Int).toNat a0.size)] rfl (by (try simp only [List.map_toArray, List.map_cons, List.map_nil]); first | done | rfl | (simp only [List.length_drop, List.length_take]; rfl)) ?_; (with_reducible refine (spinneyref02_Read.calls k (a0.extract (a1 : Int).toNat a0.size) t236 t237 t238 _ A84.out (HT.out.below (by first | exact Below.refl _ _ | (repeat (first | (with_reducible first | exact HB.out | apply below_alloc | apply pw_below_drewN | apply below_drew1 | refine below_set ?_ GE167.out) | exact HB.out))))).mono ?_); rintro e w88 ⟨rfl, hb⟩; refine ⟨_, rfl, ?_⟩; have n0_ := Aside0.mk (blk_below (g := gb167) (o := .cells #[.int .i64 0, .string (⟨#[]⟩ : ByteArray), .int .i64 0, .int .i64 0] 30 (0, 0)) (by (with_reducible repeat (first | refine blk_drewN ?_ _ | refine blk_drew ?_ | refine blk_alloc ?_ _)); exact BK167.out) hb); have n1_ := Aside0.mk (below_step (by repeat (first | (with_reducible first | exact HB.out | apply below_alloc | apply pw_below_drewN | apply below_drew1 | refine below_set ?_ GE167.out) | exact HB.out)) hb); clear BK167; clear HB; have BK167 := n0_; have HB := n1_; clear n0_ n1_; (try clear hb); (try clear hb2); (try clear hk); (try clear hi); have hcz89_0 : w88.cell? ⟨gb167, 0, none⟩ = some (.int .i64 0) := (blk_cell BK167.out 0).trans rfl; have hcz89_1 : w88.cell? ⟨gb167, 1, none⟩ = some (.string (⟨#[]⟩ : ByteArray)) := (blk_cell BK167.out 1).trans rfl; have hcz89_2 : w88.cell? ⟨gb167, 2, none⟩ = some (.int .i64 0) := (blk_cell BK167.out 2).trans rfl; have hcz89_3 : w88.cell? ⟨gb167, 3, none⟩ = some (.int .i64 0) := (blk_cell BK167.out 3).trans rfl; have hfz89_0 := blk_frozen BK167.out 0; have hfz89_1 := blk_frozen BK167.out 1; have hfz89_2 := blk_frozen BK167.out 2; have hfz89_3 := blk_frozen BK167.out 3))
                        refine bodyPost_ret (results_ctt rfl _ _ gb167 30 #[.int .i64 0, .string (⟨#[]⟩ : ByteArray), .int .i64 0, .int .i64 0] (0, 0) _ rfl (by (with_reducible repeat (first | refine blk_drewN ?_ _ | refine blk_drew ?_ | refine blk_alloc ?_ _)); refine blk_put (cs := #[.int .i64 0, .string (⟨#[]⟩ : ByteArray), .int .i64 0, .int .i64 0]) ?_ 3 _ rfl; (with_reducible repeat (first | refine blk_drewN ?_ _ | refine blk_drew ?_ | refine blk_alloc ?_ _)); refine blk_put (cs := #[.int .i64 0, .string (⟨#[]⟩ : ByteArray), .int .i64 0, .int .i64 0]) ?_ 2 _ rfl; (with_reducible repeat (first | refine blk_drewN ?_ _ | refine blk_drew ?_ | refine blk_alloc ?_ _)); refine blk_put (cs := #[.int .i64 0, .string (⟨#[]⟩ : ByteArray), .int .i64 0, .int .i64 0]) ?_ 1 _ rfl; (with_reducible repeat (first | refine blk_drewN ?_ _ | refine blk_drew ?_ | refine blk_alloc ?_ _)); refine blk_put (cs := #[.int .i64 0, .string (⟨#[]⟩ : ByteArray), .int .i64 0, .int .i64 0]) ?_ 0 _ rfl; (with_reducible repeat (first | refine blk_drewN ?_ _ | refine blk_drew ?_ | refine blk_alloc ?_ _)); exact BK167.out) Tryd.underlying30 rfl (by kernel_rfl)) rfl ?_
                        exact ⟨by first | rfl | (simp [errW_none, errW_some] <;> rfl) | (simp [*, errW_none, errW_some] <;> rfl), by repeat (first | (with_reducible first | exact HB.out | apply below_alloc | apply pw_below_drewN | apply below_drew1 | refine below_set ?_ GE167.out) | exact HB.out)⟩
                      · rw [if_neg c86] at H
                        have c86b0 : decide (255 < (t236.size : Int)) = false := decide_eq_false c86
                        have c86b1 : decide (255 < t236.size) = false := decide_eq_false (by omega)
                        clear c86
                        simp only [Option.some.injEq, Prod.mk.injEq] at H
                        obtain ⟨rfl, rfl, rfl, rfl, rfl, rfl⟩ := H
                        go_enter Tryd.func19, Tryd.ntmps19
                        go_wp2_with (first | ((with_reducible refine gate_dst (N := 6) rfl ?_); (try (refine gate_guard (by rfl) ?_; dsimp only)); refine box_event ?hg (N := 6) ?hd (cs := #[.int .i64 0, .string (⟨#[]⟩ : ByteArray), .int .i64 0, .int .i64 0]) (t := 30) ?hr ?_; (case hd => rfl); (case hg => rfl); (case hr => first | (go_simp; done) | (go_simp; rfl)); intro gb167 hg w90 hbox hb; have n0_ := Aside0.mk (below_step (by repeat (first | (with_reducible first | exact HB.out | apply below_alloc | apply pw_below_drewN | apply below_drew1) | exact HB.out)) hb); have n1_ := Aside0.mk (hbox); have n2_ := Aside0.mk ((by rw [hg]; exact (below_size (by repeat (first | (with_reducible first | exact HB.out | apply below_alloc | apply pw_below_drewN | apply below_drew1) | exact HB.out))) : w.heap.size ≤ gb167)); have n3_ := Aside0.mk ((by rw [hg]; exact (below_size (by repeat (first | (with_reducible first | exact HB.out | apply below_alloc | apply pw_below_drewN | apply below_drew1) | exact HB.out))) : w.heap.size ≤ gb167)); clear HB; have HB := n0_; have BK167 := n1_; have GW167 := n2_; have GE167 := n3_; clear n0_ n1_ n2_ n3_; clear hb hbox hg) | ((with_reducible refine gate_callee (f := 37) rfl ?_); refine goesL_ (some 15) rfl rfl Tryd.func37 (by kernel_rfl) rfl #[.string a0, .int .i64 a1] rfl (by (try simp only [List.map_toArray, List.map_cons, List.map_nil]); first | done | rfl | (simp only [List.length_drop, List.length_take]; rfl)) ?_; (with_reducible refine (spinneyref05_class.calls k a0 a1 t168 _ A4.out).mono ?_); rintro e w' ⟨rfl, ⟨nd, rfl⟩⟩; refine ⟨_, rfl, ?_⟩; (try (rw [drewN_self w90]; generalize hq_ : World.drewN w90 _ = w90; have n0_ : Aside0 (w90.heap[gb167]? = some (.cells #[.int .i64 0, .string (⟨#[]⟩ : ByteArray), .int .i64 0, .int .i64 0] 30 (0, 0))) := ⟨by rw [← hq_]; exact (by (with_reducible repeat (first | refine blk_drewN ?_ _ | refine blk_drew ?_ | refine blk_alloc ?_ _)); exact BK167.out)⟩; have n1_ : Aside0 (Below w.heap.size w w90) := ⟨by rw [← hq_]; exact (by repeat (first | (with_reducible first | exact HB.out | apply below_alloc | apply pw_below_drewN | apply below_drew1 | refine below_set ?_ GE167.out) | exact HB.out))⟩; clear BK167 HB hq_; have BK167 := n0_; have HB := n1_; clear n0_ n1_))) | ((with_reducible refine gate_callee (f := 41) rfl ?_); refine goesL_ (some 150) rfl rfl Tryd.func41 (by kernel_rfl) rfl #[.string (a0.extract (a1 : Int).toNat a0.size)] rfl (by (try simp only [List.map_toArray, List.map_cons, List.map_nil]); first | done | rfl | (simp only [List.length_drop, List.length_take]; rfl)) ?_; (with_reducible refine (spinneyref02_Read.calls k (a0.extract (a1 : Int).toNat a0.size) t236 t237 t238 _ A84.out (HT.out.below (by first | exact Below.refl _ _ | (repeat (first | (with_reducible first | exact HB.out | apply below_alloc | apply pw_below_drewN | apply below_drew1 | refine below_set ?_ GE167.out) | exact HB.out))))).mono ?_); rintro e w91 ⟨rfl, hb⟩; refine ⟨_, rfl, ?_⟩; have n0_ := Aside0.mk (blk_below (g := gb167) (o := .cells #[.int .i64 0, .string (⟨#[]⟩ : ByteArray), .int .i64 0, .int .i64 0] 30 (0, 0)) (by (with_reducible repeat (first | refine blk_drewN ?_ _ | refine blk_drew ?_ | refine blk_alloc ?_ _)); exact BK167.out) hb); have n1_ := Aside0.mk (below_step (by repeat (first | (with_reducible first | exact HB.out | apply below_alloc | apply pw_below_drewN | apply below_drew1 | refine below_set ?_ GE167.out) | exact HB.out)) hb); clear BK167; clear HB; have BK167 := n0_; have HB := n1_; clear n0_ n1_; (try clear hb); (try clear hb2); (try clear hk); (try clear hi); have hcz92_0 : w91.cell? ⟨gb167, 0, none⟩ = some (.int .i64 0) := (blk_cell BK167.out 0).trans rfl; have hcz92_1 : w91.cell? ⟨gb167, 1, none⟩ = some (.string (⟨#[]⟩ : ByteArray)) := (blk_cell BK167.out 1).trans rfl; have hcz92_2 : w91.cell? ⟨gb167, 2, none⟩ = some (.int .i64 0) := (blk_cell BK167.out 2).trans rfl; have hcz92_3 : w91.cell? ⟨gb167, 3, none⟩ = some (.int .i64 0) := (blk_cell BK167.out 3).trans rfl; have hfz92_0 := blk_frozen BK167.out 0; have hfz92_1 := blk_frozen BK167.out 1; have hfz92_2 := blk_frozen BK167.out 2; have hfz92_3 := blk_frozen BK167.out 3))
                        refine bodyPost_ret (results_ctt rfl _ _ gb167 30 #[.int .i64 2, .string t236, .int .i64 0, .int .i64 a1] (0, 0) _ rfl (by (with_reducible repeat (first | refine blk_drewN ?_ _ | refine blk_drew ?_ | refine blk_alloc ?_ _)); refine blk_put (cs := #[.int .i64 2, .string t236, .int .i64 0, .int .i64 0]) ?_ 3 _ rfl; (with_reducible repeat (first | refine blk_drewN ?_ _ | refine blk_drew ?_ | refine blk_alloc ?_ _)); refine blk_put (cs := #[.int .i64 2, .string t236, .int .i64 0, .int .i64 0]) ?_ 2 _ rfl; (with_reducible repeat (first | refine blk_drewN ?_ _ | refine blk_drew ?_ | refine blk_alloc ?_ _)); refine blk_put (cs := #[.int .i64 2, .string (⟨#[]⟩ : ByteArray), .int .i64 0, .int .i64 0]) ?_ 1 _ rfl; (with_reducible repeat (first | refine blk_drewN ?_ _ | refine blk_drew ?_ | refine blk_alloc ?_ _)); refine blk_put (cs := #[.int .i64 0, .string (⟨#[]⟩ : ByteArray), .int .i64 0, .int .i64 0]) ?_ 0 _ rfl; (with_reducible repeat (first | refine blk_drewN ?_ _ | refine blk_drew ?_ | refine blk_alloc ?_ _)); exact BK167.out) Tryd.underlying30 rfl (by kernel_rfl)) rfl ?_
                        exact ⟨by first | rfl | (simp [errW_none, errW_some] <;> rfl) | (simp [*, errW_none, errW_some] <;> rfl), by repeat (first | (with_reducible first | exact HB.out | apply below_alloc | apply pw_below_drewN | apply below_drew1 | refine below_set ?_ GE167.out) | exact HB.out)⟩
                    · rw [if_neg c85] at H
                      have c85b0 : (t238 == 0) = false := beq_eq_false_iff_ne.mpr c85
                      have c85b1 : (t238 != 0) = true := bne_iff_ne.mpr c85
                      simp only [Option.some.injEq, Prod.mk.injEq] at H
                      obtain ⟨rfl, rfl, rfl, rfl, rfl, rfl⟩ := H
                      go_enter Tryd.func19, Tryd.ntmps19
                      go_wp2_with (first | ((with_reducible refine gate_dst (N := 6) rfl ?_); (try (refine gate_guard (by rfl) ?_; dsimp only)); refine box_event ?hg (N := 6) ?hd (cs := #[.int .i64 0, .string (⟨#[]⟩ : ByteArray), .int .i64 0, .int .i64 0]) (t := 30) ?hr ?_; (case hd => rfl); (case hg => rfl); (case hr => first | (go_simp; done) | (go_simp; rfl)); intro gb167 hg w93 hbox hb; have n0_ := Aside0.mk (below_step (by repeat (first | (with_reducible first | exact HB.out | apply below_alloc | apply pw_below_drewN | apply below_drew1) | exact HB.out)) hb); have n1_ := Aside0.mk (hbox); have n2_ := Aside0.mk ((by rw [hg]; exact (below_size (by repeat (first | (with_reducible first | exact HB.out | apply below_alloc | apply pw_below_drewN | apply below_drew1) | exact HB.out))) : w.heap.size ≤ gb167)); have n3_ := Aside0.mk ((by rw [hg]; exact (below_size (by repeat (first | (with_reducible first | exact HB.out | apply below_alloc | apply pw_below_drewN | apply below_drew1) | exact HB.out))) : w.heap.size ≤ gb167)); clear HB; have HB := n0_; have BK167 := n1_; have GW167 := n2_; have GE167 := n3_; clear n0_ n1_ n2_ n3_; clear hb hbox hg) | ((with_reducible refine gate_callee (f := 37) rfl ?_); refine goesL_ (some 15) rfl rfl Tryd.func37 (by kernel_rfl) rfl #[.string a0, .int .i64 a1] rfl (by (try simp only [List.map_toArray, List.map_cons, List.map_nil]); first | done | rfl | (simp only [List.length_drop, List.length_take]; rfl)) ?_; (with_reducible refine (spinneyref05_class.calls k a0 a1 t168 _ A4.out).mono ?_); rintro e w' ⟨rfl, ⟨nd, rfl⟩⟩; refine ⟨_, rfl, ?_⟩; (try (rw [drewN_self w93]; generalize hq_ : World.drewN w93 _ = w93; have n0_ : Aside0 (w93.heap[gb167]? = some (.cells #[.int .i64 0, .string (⟨#[]⟩ : ByteArray), .int .i64 0, .int .i64 0] 30 (0, 0))) := ⟨by rw [← hq_]; exact (by (with_reducible repeat (first | refine blk_drewN ?_ _ | refine blk_drew ?_ | refine blk_alloc ?_ _)); exact BK167.out)⟩; have n1_ : Aside0 (Below w.heap.size w w93) := ⟨by rw [← hq_]; exact (by repeat (first | (with_reducible first | exact HB.out | apply below_alloc | apply pw_below_drewN | apply below_drew1 | refine below_set ?_ GE167.out) | exact HB.out))⟩; clear BK167 HB hq_; have BK167 := n0_; have HB := n1_; clear n0_ n1_))) | ((with_reducible refine gate_callee (f := 41) rfl ?_); refine goesL_ (some 150) rfl rfl Tryd.func41 (by kernel_rfl) rfl #[.string (a0.extract (a1 : Int).toNat a0.size)] rfl (by (try simp only [List.map_toArray, List.map_cons, List.map_nil]); first | done | rfl | (simp only [List.length_drop, List.length_take]; rfl)) ?_; (with_reducible refine (spinneyref02_Read.calls k (a0.extract (a1 : Int).toNat a0.size) t236 t237 t238 _ A84.out (HT.out.below (by first | exact Below.refl _ _ | (repeat (first | (with_reducible first | exact HB.out | apply below_alloc | apply pw_below_drewN | apply below_drew1 | refine below_set ?_ GE167.out) | exact HB.out))))).mono ?_); rintro e w94 ⟨rfl, hb⟩; refine ⟨_, rfl, ?_⟩; have n0_ := Aside0.mk (blk_below (g := gb167) (o := .cells #[.int .i64 0, .string (⟨#[]⟩ : ByteArray), .int .i64 0, .int .i64 0] 30 (0, 0)) (by (with_reducible repeat (first | refine blk_drewN ?_ _ | refine blk_drew ?_ | refine blk_alloc ?_ _)); exact BK167.out) hb); have n1_ := Aside0.mk (below_step (by repeat (first | (with_reducible first | exact HB.out | apply below_alloc | apply pw_below_drewN | apply below_drew1 | refine below_set ?_ GE167.out) | exact HB.out)) hb); clear BK167; clear HB; have BK167 := n0_; have HB := n1_; clear n0_ n1_; (try clear hb); (try clear hb2); (try clear hk); (try clear hi); have hcz95_0 : w94.cell? ⟨gb167, 0, none⟩ = some (.int .i64 0) := (blk_cell BK167.out 0).trans rfl; have hcz95_1 : w94.cell? ⟨gb167, 1, none⟩ = some (.string (⟨#[]⟩ : ByteArray)) := (blk_cell BK167.out 1).trans rfl; have hcz95_2 : w94.cell? ⟨gb167, 2, none⟩ = some (.int .i64 0) := (blk_cell BK167.out 2).trans rfl; have hcz95_3 : w94.cell? ⟨gb167, 3, none⟩ = some (.int .i64 0) := (blk_cell BK167.out 3).trans rfl; have hfz95_0 := blk_frozen BK167.out 0; have hfz95_1 := blk_frozen BK167.out 1; have hfz95_2 := blk_frozen BK167.out 2; have hfz95_3 := blk_frozen BK167.out 3))
                      refine bodyPost_ret (results_ctt rfl _ _ gb167 30 #[.int .i64 0, .string (⟨#[]⟩ : ByteArray), .int .i64 0, .int .i64 0] (0, 0) _ rfl (by (with_reducible repeat (first | refine blk_drewN ?_ _ | refine blk_drew ?_ | refine blk_alloc ?_ _)); refine blk_put (cs := #[.int .i64 0, .string (⟨#[]⟩ : ByteArray), .int .i64 0, .int .i64 0]) ?_ 3 _ rfl; (with_reducible repeat (first | refine blk_drewN ?_ _ | refine blk_drew ?_ | refine blk_alloc ?_ _)); refine blk_put (cs := #[.int .i64 0, .string (⟨#[]⟩ : ByteArray), .int .i64 0, .int .i64 0]) ?_ 2 _ rfl; (with_reducible repeat (first | refine blk_drewN ?_ _ | refine blk_drew ?_ | refine blk_alloc ?_ _)); refine blk_put (cs := #[.int .i64 0, .string (⟨#[]⟩ : ByteArray), .int .i64 0, .int .i64 0]) ?_ 1 _ rfl; (with_reducible repeat (first | refine blk_drewN ?_ _ | refine blk_drew ?_ | refine blk_alloc ?_ _)); refine blk_put (cs := #[.int .i64 0, .string (⟨#[]⟩ : ByteArray), .int .i64 0, .int .i64 0]) ?_ 0 _ rfl; (with_reducible repeat (first | refine blk_drewN ?_ _ | refine blk_drew ?_ | refine blk_alloc ?_ _)); exact BK167.out) Tryd.underlying30 rfl (by kernel_rfl)) rfl ?_
                      exact ⟨by first | rfl | (simp [errW_none, errW_some] <;> rfl) | (simp [*, errW_none, errW_some] <;> rfl), by repeat (first | (with_reducible first | exact HB.out | apply below_alloc | apply pw_below_drewN | apply below_drew1 | refine below_set ?_ GE167.out) | exact HB.out)⟩
                  · rw [if_neg c83] at H
                    exact absurd H (by simp)
                · rw [if_neg c82] at H
                  exact absurd H (by simp)
              · rw [if_neg c81] at H
                have c81b0 : (t168 == 8) = false := beq_eq_false_iff_ne.mpr c81
                have c81b1 : (t168 != 8) = true := bne_iff_ne.mpr c81
                simp only [Option.some.injEq, Prod.mk.injEq] at H
                obtain ⟨rfl, rfl, rfl, rfl, rfl, rfl⟩ := H
                go_enter Tryd.func19, Tryd.ntmps19
                go_wp2_with (first | ((with_reducible refine gate_dst (N := 6) rfl ?_); (try (refine gate_guard (by rfl) ?_; dsimp only)); refine box_event ?hg (N := 6) ?hd (cs := #[.int .i64 0, .string (⟨#[]⟩ : ByteArray), .int .i64 0, .int .i64 0]) (t := 30) ?hr ?_; (case hd => rfl); (case hg => rfl); (case hr => first | (go_simp; done) | (go_simp; rfl)); intro gb167 hg w96 hbox hb; have n0_ := Aside0.mk (below_step (by repeat (first | (with_reducible first | exact HB.out | apply below_alloc | apply pw_below_drewN | apply below_drew1) | exact HB.out)) hb); have n1_ := Aside0.mk (hbox); have n2_ := Aside0.mk ((by rw [hg]; exact (below_size (by repeat (first | (with_reducible first | exact HB.out | apply below_alloc | apply pw_below_drewN | apply below_drew1) | exact HB.out))) : w.heap.size ≤ gb167)); have n3_ := Aside0.mk ((by rw [hg]; exact (below_size (by repeat (first | (with_reducible first | exact HB.out | apply below_alloc | apply pw_below_drewN | apply below_drew1) | exact HB.out))) : w.heap.size ≤ gb167)); clear HB; have HB := n0_; have BK167 := n1_; have GW167 := n2_; have GE167 := n3_; clear n0_ n1_ n2_ n3_; clear hb hbox hg) | ((with_reducible refine gate_callee (f := 37) rfl ?_); refine goesL_ (some 15) rfl rfl Tryd.func37 (by kernel_rfl) rfl #[.string a0, .int .i64 a1] rfl (by (try simp only [List.map_toArray, List.map_cons, List.map_nil]); first | done | rfl | (simp only [List.length_drop, List.length_take]; rfl)) ?_; (with_reducible refine (spinneyref05_class.calls k a0 a1 t168 _ A4.out).mono ?_); rintro e w' ⟨rfl, ⟨nd, rfl⟩⟩; refine ⟨_, rfl, ?_⟩; (try (rw [drewN_self w96]; generalize hq_ : World.drewN w96 _ = w96; have n0_ : Aside0 (w96.heap[gb167]? = some (.cells #[.int .i64 0, .string (⟨#[]⟩ : ByteArray), .int .i64 0, .int .i64 0] 30 (0, 0))) := ⟨by rw [← hq_]; exact (by (with_reducible repeat (first | refine blk_drewN ?_ _ | refine blk_drew ?_ | refine blk_alloc ?_ _)); exact BK167.out)⟩; have n1_ : Aside0 (Below w.heap.size w w96) := ⟨by rw [← hq_]; exact (by repeat (first | (with_reducible first | exact HB.out | apply below_alloc | apply pw_below_drewN | apply below_drew1 | refine below_set ?_ GE167.out) | exact HB.out))⟩; clear BK167 HB hq_; have BK167 := n0_; have HB := n1_; clear n0_ n1_)); have hcz97_0 : w96.cell? ⟨gb167, 0, none⟩ = some (.int .i64 0) := (blk_cell BK167.out 0).trans rfl; have hcz97_1 : w96.cell? ⟨gb167, 1, none⟩ = some (.string (⟨#[]⟩ : ByteArray)) := (blk_cell BK167.out 1).trans rfl; have hcz97_2 : w96.cell? ⟨gb167, 2, none⟩ = some (.int .i64 0) := (blk_cell BK167.out 2).trans rfl; have hcz97_3 : w96.cell? ⟨gb167, 3, none⟩ = some (.int .i64 0) := (blk_cell BK167.out 3).trans rfl; have hfz97_0 := blk_frozen BK167.out 0; have hfz97_1 := blk_frozen BK167.out 1; have hfz97_2 := blk_frozen BK167.out 2; have hfz97_3 := blk_frozen BK167.out 3))
                refine bodyPost_ret (results_ctt rfl _ _ gb167 30 #[.int .i64 0, .string (⟨#[]⟩ : ByteArray), .int .i64 0, .int .i64 0] (0, 0) _ rfl (by (with_reducible repeat (first | refine blk_drewN ?_ _ | refine blk_drew ?_ | refine blk_alloc ?_ _)); refine blk_put (cs := #[.int .i64 0, .string (⟨#[]⟩ : ByteArray), .int .i64 0, .int .i64 0]) ?_ 3 _ rfl; (with_reducible repeat (first | refine blk_drewN ?_ _ | refine blk_drew ?_ | refine blk_alloc ?_ _)); refine blk_put (cs := #[.int .i64 0, .string (⟨#[]⟩ : ByteArray), .int .i64 0, .int .i64 0]) ?_ 2 _ rfl; (with_reducible repeat (first | refine blk_drewN ?_ _ | refine blk_drew ?_ | refine blk_alloc ?_ _)); refine blk_put (cs := #[.int .i64 0, .string (⟨#[]⟩ : ByteArray), .int .i64 0, .int .i64 0]) ?_ 1 _ rfl; (with_reducible repeat (first | refine blk_drewN ?_ _ | refine blk_drew ?_ | refine blk_alloc ?_ _)); refine blk_put (cs := #[.int .i64 0, .string (⟨#[]⟩ : ByteArray), .int .i64 0, .int .i64 0]) ?_ 0 _ rfl; (with_reducible repeat (first | refine blk_drewN ?_ _ | refine blk_drew ?_ | refine blk_alloc ?_ _)); exact BK167.out) Tryd.underlying30 rfl (by kernel_rfl)) rfl ?_
                exact ⟨by first | rfl | (simp [errW_none, errW_some] <;> rfl) | (simp [*, errW_none, errW_some] <;> rfl), by repeat (first | (with_reducible first | exact HB.out | apply below_alloc | apply pw_below_drewN | apply below_drew1 | refine below_set ?_ GE167.out) | exact HB.out)⟩

end Go.Proofs.YtjichkjnodabiaaDoor.P
