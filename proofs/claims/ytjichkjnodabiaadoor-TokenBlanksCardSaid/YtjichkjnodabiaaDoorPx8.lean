-- PRINTED by a program of this session over the kit's print.py.
import Derived.Test.YtjichkjnodabiaaDoorPx0
import Derived.Test.YtjichkjnodabiaaDoorPx1
import Derived.Test.YtjichkjnodabiaaDoorPx5
import Derived.Test.YtjichkjnodabiaaDoorPx6
namespace Go.Proofs.YtjichkjnodabiaaDoor.P
open Go.Own Go.RowKit Go.Proofs.YtjichkjnodabiaaDoorW.PrintWords Go.Proofs.YtjichkjnodabiaaDoorW.PrintLast Go.Proofs.YtjichkjnodabiaaDoorW.PrintMore
attribute [local go_sem] max2_int min2_int max_two min_two max_three min_three max_four min_four   -- for this text's walks alone
set_option linter.unusedVariables false
set_option linter.unusedSimpArgs false

attribute [local go_sem high] eqA30
/-! ### spinneylaw05_TokenBlanks: function 5 -/
mutual
def spinneylaw05_TokenBlanks.j0 : Nat → Bool → ByteArray → List (S30) → List (S30) → Bool → Option (Bool)
  | 0, _, _, _, _, _ => none
  | k + 1, x5, x6, x7, x10, x62 => if x62 = true then (none) else (spinneylaw05_TokenBlanks.l0 k x5 x6 x7 x10 (x7.length : Int) 0)
def spinneylaw05_TokenBlanks.l0 : Nat → Bool → ByteArray → List (S30) → List (S30) → Int → Int → Option (Bool)
  | 0, _, _, _, _, _, _ => none
  | k + 1, x5, x6, x7, x10, x64, x65 => if x65 < x64 then (if 0 ≤ x65 then (if x65 < (x7.length : Int) then (if x65 < (x10.length : Int) then (if (!(((rd_T30 x7 x65).f0) == ((rd_T30 x10 x65).f0)) || (!((((rd_T30 x7 x65).f1).toList) == (((rd_T30 x10 x65).f1).toList)) || (!(((rd_T30 x7 x65).f2) == ((rd_T30 x10 x65).f2)) || (!((wrap64 (((rd_T30 x7 x65).f3) + (x6.size : Int))) == ((rd_T30 x10 x65).f3)))))) = true then (none) else (spinneylaw05_TokenBlanks.l0 k x5 x6 x7 x10 x64 (wrap64 (x65 + 1)))) else (none)) else (none)) else (none)) else (some x5)
end
def spinneylaw05_TokenBlanks.f (k : Nat) (a0 : ByteArray) (a1 : Int) : Option (Bool) := (spinneylaw05_live.f).bind fun t160 => (if 0 ≤ (Int.tmod (wrap64 ((Int.tmod a1 5) + 5)) 5) then (if (Int.tmod (wrap64 ((Int.tmod a1 5) + 5)) 5) < 5 then (if (wrap64 ((a0.size : Int) + 20)) > 4096 then (some t160) else ((token_Cut.f a0).bind fun bt161 => (if (selB [(⟨#[32]⟩ : ByteArray), (⟨#[10]⟩ : ByteArray), (⟨#[37, 32, 120, 32, 46, 32, 39, 32, 121, 10]⟩ : ByteArray), (⟨#[47, 42, 32, 97, 10, 32, 39, 42, 47]⟩ : ByteArray), (⟨#[47, 42, 42, 47, 9]⟩ : ByteArray)] (Int.tmod (wrap64 ((Int.tmod a1 5) + 5)) 5)).size + a0.size ≤ 9223372036854775807 then ((token_Cut.f ((selB [(⟨#[32]⟩ : ByteArray), (⟨#[10]⟩ : ByteArray), (⟨#[37, 32, 120, 32, 46, 32, 39, 32, 121, 10]⟩ : ByteArray), (⟨#[47, 42, 32, 97, 10, 32, 39, 42, 47]⟩ : ByteArray), (⟨#[47, 42, 42, 47, 9]⟩ : ByteArray)] (Int.tmod (wrap64 ((Int.tmod a1 5) + 5)) 5)) ++ a0)).bind fun bt166 => (if bt161.2.2 = bt166.2.2 then (if (bt161.1.length : Int) = (bt166.1.length : Int) then (if bt161.2.2 = 0 then (spinneylaw05_TokenBlanks.j0 k t160 (selB [(⟨#[32]⟩ : ByteArray), (⟨#[10]⟩ : ByteArray), (⟨#[37, 32, 120, 32, 46, 32, 39, 32, 121, 10]⟩ : ByteArray), (⟨#[47, 42, 32, 97, 10, 32, 39, 42, 47]⟩ : ByteArray), (⟨#[47, 42, 42, 47, 9]⟩ : ByteArray)] (Int.tmod (wrap64 ((Int.tmod a1 5) + 5)) 5)) bt161.1 bt166.1 false) else (spinneylaw05_TokenBlanks.j0 k t160 (selB [(⟨#[32]⟩ : ByteArray), (⟨#[10]⟩ : ByteArray), (⟨#[37, 32, 120, 32, 46, 32, 39, 32, 121, 10]⟩ : ByteArray), (⟨#[47, 42, 32, 97, 10, 32, 39, 42, 47]⟩ : ByteArray), (⟨#[47, 42, 42, 47, 9]⟩ : ByteArray)] (Int.tmod (wrap64 ((Int.tmod a1 5) + 5)) 5)) bt161.1 bt166.1 (bt166.2.1 != (wrap64 (bt161.2.1 + ((selB [(⟨#[32]⟩ : ByteArray), (⟨#[10]⟩ : ByteArray), (⟨#[37, 32, 120, 32, 46, 32, 39, 32, 121, 10]⟩ : ByteArray), (⟨#[47, 42, 32, 97, 10, 32, 39, 42, 47]⟩ : ByteArray), (⟨#[47, 42, 42, 47, 9]⟩ : ByteArray)] (Int.tmod (wrap64 ((Int.tmod a1 5) + 5)) 5)).size : Int)))))) else (spinneylaw05_TokenBlanks.j0 k t160 (selB [(⟨#[32]⟩ : ByteArray), (⟨#[10]⟩ : ByteArray), (⟨#[37, 32, 120, 32, 46, 32, 39, 32, 121, 10]⟩ : ByteArray), (⟨#[47, 42, 32, 97, 10, 32, 39, 42, 47]⟩ : ByteArray), (⟨#[47, 42, 42, 47, 9]⟩ : ByteArray)] (Int.tmod (wrap64 ((Int.tmod a1 5) + 5)) 5)) bt161.1 bt166.1 true)) else (spinneylaw05_TokenBlanks.j0 k t160 (selB [(⟨#[32]⟩ : ByteArray), (⟨#[10]⟩ : ByteArray), (⟨#[37, 32, 120, 32, 46, 32, 39, 32, 121, 10]⟩ : ByteArray), (⟨#[47, 42, 32, 97, 10, 32, 39, 42, 47]⟩ : ByteArray), (⟨#[47, 42, 42, 47, 9]⟩ : ByteArray)] (Int.tmod (wrap64 ((Int.tmod a1 5) + 5)) 5)) bt161.1 bt166.1 true))) else (none)))) else (none)) else (none))
theorem spinneylaw05_TokenBlanks.mono_l : ∀ k, (∀ y0 y1 y2 y3 y4, LeO (spinneylaw05_TokenBlanks.j0 k y0 y1 y2 y3 y4) (spinneylaw05_TokenBlanks.j0 (k + 1) y0 y1 y2 y3 y4)) ∧ (∀ y0 y1 y2 y3 y4 y5, LeO (spinneylaw05_TokenBlanks.l0 k y0 y1 y2 y3 y4 y5) (spinneylaw05_TokenBlanks.l0 (k + 1) y0 y1 y2 y3 y4 y5))
  | 0 => ⟨fun _ _ _ _ _ r h => by simp [spinneylaw05_TokenBlanks.j0] at h, fun _ _ _ _ _ _ r h => by simp [spinneylaw05_TokenBlanks.l0] at h⟩
  | k + 1 => by
    obtain ⟨ih0, ih1⟩ := spinneylaw05_TokenBlanks.mono_l k
    refine ⟨?_, ?_⟩
    · intro y0 y1 y2 y3 y4
      unfold spinneylaw05_TokenBlanks.j0
      repeat' first
      | (with_reducible exact ih0 _ _ _ _ _)
      | (with_reducible exact ih1 _ _ _ _ _ _)
      | (with_reducible exact LeO.refl _)
      | (with_reducible exact LeO.none _)
      | (with_reducible refine LeO.ite ?_ ?_)
      | (with_reducible refine LeO.bind ?_ (fun _ => ?_))
      | exact ih0 _ _ _ _ _
      | exact ih1 _ _ _ _ _ _
      | exact LeO.none _
      | refine LeO.ite ?_ ?_
      | refine LeO.bind ?_ (fun _ => ?_)
    · intro y0 y1 y2 y3 y4 y5
      unfold spinneylaw05_TokenBlanks.l0
      repeat' first
      | (with_reducible exact ih0 _ _ _ _ _)
      | (with_reducible exact ih1 _ _ _ _ _ _)
      | (with_reducible exact LeO.refl _)
      | (with_reducible exact LeO.none _)
      | (with_reducible refine LeO.ite ?_ ?_)
      | (with_reducible refine LeO.bind ?_ (fun _ => ?_))
      | exact ih0 _ _ _ _ _
      | exact ih1 _ _ _ _ _ _
      | exact LeO.none _
      | refine LeO.ite ?_ ?_
      | refine LeO.bind ?_ (fun _ => ?_)
theorem spinneylaw05_TokenBlanks.mono : ∀ a0 a1 k, LeO (spinneylaw05_TokenBlanks.f k a0 a1) (spinneylaw05_TokenBlanks.f (k + 1) a0 a1) := by
  intro a0 a1 k
  obtain ⟨ih0, ih1⟩ := spinneylaw05_TokenBlanks.mono_l k
  unfold spinneylaw05_TokenBlanks.f
  repeat' first
      | (with_reducible exact ih0 _ _ _ _ _)
      | (with_reducible exact ih1 _ _ _ _ _ _)
      | (with_reducible exact LeO.refl _)
      | (with_reducible exact LeO.none _)
      | (with_reducible refine LeO.ite ?_ ?_)
      | (with_reducible refine LeO.bind ?_ (fun _ => ?_))
      | exact ih0 _ _ _ _ _
      | exact ih1 _ _ _ _ _ _
      | exact LeO.none _
      | refine LeO.ite ?_ ?_
      | refine LeO.bind ?_ (fun _ => ?_)
set_option maxHeartbeats 8000000 in
set_option maxRecDepth 100000 in
theorem spinneylaw05_TokenBlanks.calls (k : Nat) (a0 : ByteArray) (a1 : Int) (r : Bool) (w : World) (h : spinneylaw05_TokenBlanks.f k a0 a1 = some r) (hT : Tabs w) :
    Calls Tryd.prog 5 #[.string a0, .int .i64 a1] w fun e w' => e = .returned (.bool r) ∧ Below w.heap.size w w' := by
  have HT := Aside0.mk hT
  clear hT
  have hu30 := Tryd.underlying30
  have HB := Aside0.mk (Below.refl w.heap.size w)
  have H : ((spinneylaw05_live.f).bind fun t160 => (if 0 ≤ (Int.tmod (wrap64 ((Int.tmod a1 5) + 5)) 5) then (if (Int.tmod (wrap64 ((Int.tmod a1 5) + 5)) 5) < 5 then (if (wrap64 ((a0.size : Int) + 20)) > 4096 then (some t160) else ((token_Cut.f a0).bind fun bt161 => (if (selB [(⟨#[32]⟩ : ByteArray), (⟨#[10]⟩ : ByteArray), (⟨#[37, 32, 120, 32, 46, 32, 39, 32, 121, 10]⟩ : ByteArray), (⟨#[47, 42, 32, 97, 10, 32, 39, 42, 47]⟩ : ByteArray), (⟨#[47, 42, 42, 47, 9]⟩ : ByteArray)] (Int.tmod (wrap64 ((Int.tmod a1 5) + 5)) 5)).size + a0.size ≤ 9223372036854775807 then ((token_Cut.f ((selB [(⟨#[32]⟩ : ByteArray), (⟨#[10]⟩ : ByteArray), (⟨#[37, 32, 120, 32, 46, 32, 39, 32, 121, 10]⟩ : ByteArray), (⟨#[47, 42, 32, 97, 10, 32, 39, 42, 47]⟩ : ByteArray), (⟨#[47, 42, 42, 47, 9]⟩ : ByteArray)] (Int.tmod (wrap64 ((Int.tmod a1 5) + 5)) 5)) ++ a0)).bind fun bt166 => (if bt161.2.2 = bt166.2.2 then (if (bt161.1.length : Int) = (bt166.1.length : Int) then (if bt161.2.2 = 0 then (spinneylaw05_TokenBlanks.j0 k t160 (selB [(⟨#[32]⟩ : ByteArray), (⟨#[10]⟩ : ByteArray), (⟨#[37, 32, 120, 32, 46, 32, 39, 32, 121, 10]⟩ : ByteArray), (⟨#[47, 42, 32, 97, 10, 32, 39, 42, 47]⟩ : ByteArray), (⟨#[47, 42, 42, 47, 9]⟩ : ByteArray)] (Int.tmod (wrap64 ((Int.tmod a1 5) + 5)) 5)) bt161.1 bt166.1 false) else (spinneylaw05_TokenBlanks.j0 k t160 (selB [(⟨#[32]⟩ : ByteArray), (⟨#[10]⟩ : ByteArray), (⟨#[37, 32, 120, 32, 46, 32, 39, 32, 121, 10]⟩ : ByteArray), (⟨#[47, 42, 32, 97, 10, 32, 39, 42, 47]⟩ : ByteArray), (⟨#[47, 42, 42, 47, 9]⟩ : ByteArray)] (Int.tmod (wrap64 ((Int.tmod a1 5) + 5)) 5)) bt161.1 bt166.1 (bt166.2.1 != (wrap64 (bt161.2.1 + ((selB [(⟨#[32]⟩ : ByteArray), (⟨#[10]⟩ : ByteArray), (⟨#[37, 32, 120, 32, 46, 32, 39, 32, 121, 10]⟩ : ByteArray), (⟨#[47, 42, 32, 97, 10, 32, 39, 42, 47]⟩ : ByteArray), (⟨#[47, 42, 42, 47, 9]⟩ : ByteArray)] (Int.tmod (wrap64 ((Int.tmod a1 5) + 5)) 5)).size : Int)))))) else (spinneylaw05_TokenBlanks.j0 k t160 (selB [(⟨#[32]⟩ : ByteArray), (⟨#[10]⟩ : ByteArray), (⟨#[37, 32, 120, 32, 46, 32, 39, 32, 121, 10]⟩ : ByteArray), (⟨#[47, 42, 32, 97, 10, 32, 39, 42, 47]⟩ : ByteArray), (⟨#[47, 42, 42, 47, 9]⟩ : ByteArray)] (Int.tmod (wrap64 ((Int.tmod a1 5) + 5)) 5)) bt161.1 bt166.1 true)) else (spinneylaw05_TokenBlanks.j0 k t160 (selB [(⟨#[32]⟩ : ByteArray), (⟨#[10]⟩ : ByteArray), (⟨#[37, 32, 120, 32, 46, 32, 39, 32, 121, 10]⟩ : ByteArray), (⟨#[47, 42, 32, 97, 10, 32, 39, 42, 47]⟩ : ByteArray), (⟨#[47, 42, 42, 47, 9]⟩ : ByteArray)] (Int.tmod (wrap64 ((Int.tmod a1 5) + 5)) 5)) bt161.1 bt166.1 true))) else (none)))) else (none)) else (none))) = some r := h
  clear h
  replace H := Option.bind_eq_some_iff.mp H
  obtain ⟨t160, A30, H⟩ := H
  replace H : (if 0 ≤ (Int.tmod (wrap64 ((Int.tmod a1 5) + 5)) 5) then (if (Int.tmod (wrap64 ((Int.tmod a1 5) + 5)) 5) < 5 then (if (wrap64 ((a0.size : Int) + 20)) > 4096 then (some t160) else ((token_Cut.f a0).bind fun bt161 => (if (selB [(⟨#[32]⟩ : ByteArray), (⟨#[10]⟩ : ByteArray), (⟨#[37, 32, 120, 32, 46, 32, 39, 32, 121, 10]⟩ : ByteArray), (⟨#[47, 42, 32, 97, 10, 32, 39, 42, 47]⟩ : ByteArray), (⟨#[47, 42, 42, 47, 9]⟩ : ByteArray)] (Int.tmod (wrap64 ((Int.tmod a1 5) + 5)) 5)).size + a0.size ≤ 9223372036854775807 then ((token_Cut.f ((selB [(⟨#[32]⟩ : ByteArray), (⟨#[10]⟩ : ByteArray), (⟨#[37, 32, 120, 32, 46, 32, 39, 32, 121, 10]⟩ : ByteArray), (⟨#[47, 42, 32, 97, 10, 32, 39, 42, 47]⟩ : ByteArray), (⟨#[47, 42, 42, 47, 9]⟩ : ByteArray)] (Int.tmod (wrap64 ((Int.tmod a1 5) + 5)) 5)) ++ a0)).bind fun bt166 => (if bt161.2.2 = bt166.2.2 then (if (bt161.1.length : Int) = (bt166.1.length : Int) then (if bt161.2.2 = 0 then (spinneylaw05_TokenBlanks.j0 k t160 (selB [(⟨#[32]⟩ : ByteArray), (⟨#[10]⟩ : ByteArray), (⟨#[37, 32, 120, 32, 46, 32, 39, 32, 121, 10]⟩ : ByteArray), (⟨#[47, 42, 32, 97, 10, 32, 39, 42, 47]⟩ : ByteArray), (⟨#[47, 42, 42, 47, 9]⟩ : ByteArray)] (Int.tmod (wrap64 ((Int.tmod a1 5) + 5)) 5)) bt161.1 bt166.1 false) else (spinneylaw05_TokenBlanks.j0 k t160 (selB [(⟨#[32]⟩ : ByteArray), (⟨#[10]⟩ : ByteArray), (⟨#[37, 32, 120, 32, 46, 32, 39, 32, 121, 10]⟩ : ByteArray), (⟨#[47, 42, 32, 97, 10, 32, 39, 42, 47]⟩ : ByteArray), (⟨#[47, 42, 42, 47, 9]⟩ : ByteArray)] (Int.tmod (wrap64 ((Int.tmod a1 5) + 5)) 5)) bt161.1 bt166.1 (bt166.2.1 != (wrap64 (bt161.2.1 + ((selB [(⟨#[32]⟩ : ByteArray), (⟨#[10]⟩ : ByteArray), (⟨#[37, 32, 120, 32, 46, 32, 39, 32, 121, 10]⟩ : ByteArray), (⟨#[47, 42, 32, 97, 10, 32, 39, 42, 47]⟩ : ByteArray), (⟨#[47, 42, 42, 47, 9]⟩ : ByteArray)] (Int.tmod (wrap64 ((Int.tmod a1 5) + 5)) 5)).size : Int)))))) else (spinneylaw05_TokenBlanks.j0 k t160 (selB [(⟨#[32]⟩ : ByteArray), (⟨#[10]⟩ : ByteArray), (⟨#[37, 32, 120, 32, 46, 32, 39, 32, 121, 10]⟩ : ByteArray), (⟨#[47, 42, 32, 97, 10, 32, 39, 42, 47]⟩ : ByteArray), (⟨#[47, 42, 42, 47, 9]⟩ : ByteArray)] (Int.tmod (wrap64 ((Int.tmod a1 5) + 5)) 5)) bt161.1 bt166.1 true)) else (spinneylaw05_TokenBlanks.j0 k t160 (selB [(⟨#[32]⟩ : ByteArray), (⟨#[10]⟩ : ByteArray), (⟨#[37, 32, 120, 32, 46, 32, 39, 32, 121, 10]⟩ : ByteArray), (⟨#[47, 42, 32, 97, 10, 32, 39, 42, 47]⟩ : ByteArray), (⟨#[47, 42, 42, 47, 9]⟩ : ByteArray)] (Int.tmod (wrap64 ((Int.tmod a1 5) + 5)) 5)) bt161.1 bt166.1 true))) else (none)))) else (none)) else (none)) = some r := H
  have A3 := Aside0.mk A30
  clear A30
  obtain ⟨ji4, hji4⟩ : ∃ j_ : Int, (Int.tmod (wrap64 ((Int.tmod a1 5) + 5)) 5) = j_ := ⟨_, rfl⟩
  replace H : (if 0 ≤ (ji4) then (if (ji4) < 5 then (if (wrap64 ((a0.size : Int) + 20)) > 4096 then (some t160) else ((token_Cut.f a0).bind fun bt161 => (if (selB [(⟨#[32]⟩ : ByteArray), (⟨#[10]⟩ : ByteArray), (⟨#[37, 32, 120, 32, 46, 32, 39, 32, 121, 10]⟩ : ByteArray), (⟨#[47, 42, 32, 97, 10, 32, 39, 42, 47]⟩ : ByteArray), (⟨#[47, 42, 42, 47, 9]⟩ : ByteArray)] (ji4)).size + a0.size ≤ 9223372036854775807 then ((token_Cut.f ((selB [(⟨#[32]⟩ : ByteArray), (⟨#[10]⟩ : ByteArray), (⟨#[37, 32, 120, 32, 46, 32, 39, 32, 121, 10]⟩ : ByteArray), (⟨#[47, 42, 32, 97, 10, 32, 39, 42, 47]⟩ : ByteArray), (⟨#[47, 42, 42, 47, 9]⟩ : ByteArray)] (ji4)) ++ a0)).bind fun bt166 => (if bt161.2.2 = bt166.2.2 then (if (bt161.1.length : Int) = (bt166.1.length : Int) then (if bt161.2.2 = 0 then (spinneylaw05_TokenBlanks.j0 k t160 (selB [(⟨#[32]⟩ : ByteArray), (⟨#[10]⟩ : ByteArray), (⟨#[37, 32, 120, 32, 46, 32, 39, 32, 121, 10]⟩ : ByteArray), (⟨#[47, 42, 32, 97, 10, 32, 39, 42, 47]⟩ : ByteArray), (⟨#[47, 42, 42, 47, 9]⟩ : ByteArray)] (ji4)) bt161.1 bt166.1 false) else (spinneylaw05_TokenBlanks.j0 k t160 (selB [(⟨#[32]⟩ : ByteArray), (⟨#[10]⟩ : ByteArray), (⟨#[37, 32, 120, 32, 46, 32, 39, 32, 121, 10]⟩ : ByteArray), (⟨#[47, 42, 32, 97, 10, 32, 39, 42, 47]⟩ : ByteArray), (⟨#[47, 42, 42, 47, 9]⟩ : ByteArray)] (ji4)) bt161.1 bt166.1 (bt166.2.1 != (wrap64 (bt161.2.1 + ((selB [(⟨#[32]⟩ : ByteArray), (⟨#[10]⟩ : ByteArray), (⟨#[37, 32, 120, 32, 46, 32, 39, 32, 121, 10]⟩ : ByteArray), (⟨#[47, 42, 32, 97, 10, 32, 39, 42, 47]⟩ : ByteArray), (⟨#[47, 42, 42, 47, 9]⟩ : ByteArray)] (ji4)).size : Int)))))) else (spinneylaw05_TokenBlanks.j0 k t160 (selB [(⟨#[32]⟩ : ByteArray), (⟨#[10]⟩ : ByteArray), (⟨#[37, 32, 120, 32, 46, 32, 39, 32, 121, 10]⟩ : ByteArray), (⟨#[47, 42, 32, 97, 10, 32, 39, 42, 47]⟩ : ByteArray), (⟨#[47, 42, 42, 47, 9]⟩ : ByteArray)] (ji4)) bt161.1 bt166.1 true)) else (spinneylaw05_TokenBlanks.j0 k t160 (selB [(⟨#[32]⟩ : ByteArray), (⟨#[10]⟩ : ByteArray), (⟨#[37, 32, 120, 32, 46, 32, 39, 32, 121, 10]⟩ : ByteArray), (⟨#[47, 42, 32, 97, 10, 32, 39, 42, 47]⟩ : ByteArray), (⟨#[47, 42, 42, 47, 9]⟩ : ByteArray)] (ji4)) bt161.1 bt166.1 true))) else (none)))) else (none)) else (none)) = some r := by first | (rw [hji4] at H; exact H) | (simp only [hji4] at H ⊢; exact H)
  (try rw [hji4] at A3)
  by_cases c5 : 0 ≤ (ji4)
  · rw [if_pos c5] at H
    have c5b0 : decide (0 ≤ (ji4)) = true := decide_eq_true c5
    clear c5
    by_cases c6 : (ji4) < 5
    · rw [if_pos c6] at H
      have c6b0 : decide ((ji4) < 5) = true := decide_eq_true c6
      clear c6
      by_cases c8 : (wrap64 ((a0.size : Int) + 20)) > 4096
      · rw [if_pos c8] at H
        have c8b0 : decide (4096 < (wrap64 ((a0.size : Int) + 20))) = true := decide_eq_true c8
        clear c8
        obtain rfl := Option.some.inj H
        go_enter Tryd.func5, Tryd.ntmps5
        go_wp2_with (first | (go_at_call 9; (with_reducible refine (spinneylaw05_live.calls  t160 _ A3.out (HT.out.below (by first | exact Below.refl _ _ | (repeat (first | (with_reducible first | exact HB.out | apply below_alloc | apply pw_below_drewN | apply below_drew1 | refine below_set ?_ GE172.out) | exact HB.out))))).mono ?_); rintro e w9 ⟨rfl, hb⟩; have n0_ := Aside0.mk (below_step (by repeat (first | (with_reducible first | exact HB.out | apply below_alloc | apply pw_below_drewN | apply below_drew1) | exact HB.out)) hb); clear HB; have HB := n0_; clear n0_; (try clear hb); (try clear hb2); (try clear hk); (try clear hi); have hixa7 : ∀ j : Int, 0 ≤ j → j < 5 → ∀ W : World, (Instr.index 32 (.agg #[.string (⟨#[32]⟩ : ByteArray), .string (⟨#[10]⟩ : ByteArray), .string (⟨#[37, 32, 120, 32, 46, 32, 39, 32, 121, 10]⟩ : ByteArray), .string (⟨#[47, 42, 32, 97, 10, 32, 39, 42, 47]⟩ : ByteArray), .string (⟨#[47, 42, 42, 47, 9]⟩ : ByteArray)]) (.int .i64 j)).run Tryd.prog W = .ok (.string (selB [(⟨#[32]⟩ : ByteArray), (⟨#[10]⟩ : ByteArray), (⟨#[37, 32, 120, 32, 46, 32, 39, 32, 121, 10]⟩ : ByteArray), (⟨#[47, 42, 32, 97, 10, 32, 39, 42, 47]⟩ : ByteArray), (⟨#[47, 42, 42, 47, 9]⟩ : ByteArray)] j)) W := (by intro j h0 h1 W; obtain rfl | rfl | rfl | rfl | rfl : j = 0 ∨ j = 1 ∨ j = 2 ∨ j = 3 ∨ j = 4 := (by omega); all_goals simp [Instr.index, run_underlying Tryd.underlying32, asIntOf, go_sem, selB]); have hix7 := hixa7 (ji4) (by first | assumption | exact of_decide_eq_true (by assumption) | omega) (by first | assumption | exact of_decide_eq_true (by assumption) | omega); clear hixa7))
        repeat (go_quiet (first | (go_at_call 9; (with_reducible refine (spinneylaw05_live.calls  t160 _ A3.out (HT.out.below (by first | exact Below.refl _ _ | (repeat (first | (with_reducible first | exact HB.out | apply below_alloc | apply pw_below_drewN | apply below_drew1 | refine below_set ?_ GE172.out) | exact HB.out))))).mono ?_); rintro e w9 ⟨rfl, hb⟩; have n0_ := Aside0.mk (below_step (by repeat (first | (with_reducible first | exact HB.out | apply below_alloc | apply pw_below_drewN | apply below_drew1) | exact HB.out)) hb); clear HB; have HB := n0_; clear n0_; (try clear hb); (try clear hb2); (try clear hk); (try clear hi); have hixa7 : ∀ j : Int, 0 ≤ j → j < 5 → ∀ W : World, (Instr.index 32 (.agg #[.string (⟨#[32]⟩ : ByteArray), .string (⟨#[10]⟩ : ByteArray), .string (⟨#[37, 32, 120, 32, 46, 32, 39, 32, 121, 10]⟩ : ByteArray), .string (⟨#[47, 42, 32, 97, 10, 32, 39, 42, 47]⟩ : ByteArray), .string (⟨#[47, 42, 42, 47, 9]⟩ : ByteArray)]) (.int .i64 j)).run Tryd.prog W = .ok (.string (selB [(⟨#[32]⟩ : ByteArray), (⟨#[10]⟩ : ByteArray), (⟨#[37, 32, 120, 32, 46, 32, 39, 32, 121, 10]⟩ : ByteArray), (⟨#[47, 42, 32, 97, 10, 32, 39, 42, 47]⟩ : ByteArray), (⟨#[47, 42, 42, 47, 9]⟩ : ByteArray)] j)) W := (by intro j h0 h1 W; obtain rfl | rfl | rfl | rfl | rfl : j = 0 ∨ j = 1 ∨ j = 2 ∨ j = 3 ∨ j = 4 := (by omega); all_goals simp [Instr.index, run_underlying Tryd.underlying32, asIntOf, go_sem, selB]); have hix7 := hixa7 (ji4) (by first | assumption | exact of_decide_eq_true (by assumption) | omega) (by first | assumption | exact of_decide_eq_true (by assumption) | omega); clear hixa7)); try go_wp2_with (first | (go_at_call 9; (with_reducible refine (spinneylaw05_live.calls  t160 _ A3.out (HT.out.below (by first | exact Below.refl _ _ | (repeat (first | (with_reducible first | exact HB.out | apply below_alloc | apply pw_below_drewN | apply below_drew1 | refine below_set ?_ GE172.out) | exact HB.out))))).mono ?_); rintro e w9 ⟨rfl, hb⟩; have n0_ := Aside0.mk (below_step (by repeat (first | (with_reducible first | exact HB.out | apply below_alloc | apply pw_below_drewN | apply below_drew1) | exact HB.out)) hb); clear HB; have HB := n0_; clear n0_; (try clear hb); (try clear hb2); (try clear hk); (try clear hi); have hixa7 : ∀ j : Int, 0 ≤ j → j < 5 → ∀ W : World, (Instr.index 32 (.agg #[.string (⟨#[32]⟩ : ByteArray), .string (⟨#[10]⟩ : ByteArray), .string (⟨#[37, 32, 120, 32, 46, 32, 39, 32, 121, 10]⟩ : ByteArray), .string (⟨#[47, 42, 32, 97, 10, 32, 39, 42, 47]⟩ : ByteArray), .string (⟨#[47, 42, 42, 47, 9]⟩ : ByteArray)]) (.int .i64 j)).run Tryd.prog W = .ok (.string (selB [(⟨#[32]⟩ : ByteArray), (⟨#[10]⟩ : ByteArray), (⟨#[37, 32, 120, 32, 46, 32, 39, 32, 121, 10]⟩ : ByteArray), (⟨#[47, 42, 32, 97, 10, 32, 39, 42, 47]⟩ : ByteArray), (⟨#[47, 42, 42, 47, 9]⟩ : ByteArray)] j)) W := (by intro j h0 h1 W; obtain rfl | rfl | rfl | rfl | rfl : j = 0 ∨ j = 1 ∨ j = 2 ∨ j = 3 ∨ j = 4 := (by omega); all_goals simp [Instr.index, run_underlying Tryd.underlying32, asIntOf, go_sem, selB]); have hix7 := hixa7 (ji4) (by first | assumption | exact of_decide_eq_true (by assumption) | omega) (by first | assumption | exact of_decide_eq_true (by assumption) | omega); clear hixa7)))
        go_ret
        exact ⟨by first | rfl | (simp [errW_none, errW_some] <;> rfl) | (simp only [← hji4]; first | rfl | (simp [errW_none, errW_some] <;> rfl)) | (simp [*, errW_none, errW_some] <;> rfl), by repeat (first | (with_reducible first | exact HB.out | apply below_alloc | apply pw_below_drewN | apply below_drew1) | exact HB.out)⟩
      · rw [if_neg c8] at H
        have c8b0 : decide (4096 < (wrap64 ((a0.size : Int) + 20))) = false := decide_eq_false c8
        clear c8
        replace H := Option.bind_eq_some_iff.mp H
        obtain ⟨⟨t161, t162, t163⟩, A100, H⟩ := H
        replace H : (if (selB [(⟨#[32]⟩ : ByteArray), (⟨#[10]⟩ : ByteArray), (⟨#[37, 32, 120, 32, 46, 32, 39, 32, 121, 10]⟩ : ByteArray), (⟨#[47, 42, 32, 97, 10, 32, 39, 42, 47]⟩ : ByteArray), (⟨#[47, 42, 42, 47, 9]⟩ : ByteArray)] (ji4)).size + a0.size ≤ 9223372036854775807 then ((token_Cut.f ((selB [(⟨#[32]⟩ : ByteArray), (⟨#[10]⟩ : ByteArray), (⟨#[37, 32, 120, 32, 46, 32, 39, 32, 121, 10]⟩ : ByteArray), (⟨#[47, 42, 32, 97, 10, 32, 39, 42, 47]⟩ : ByteArray), (⟨#[47, 42, 42, 47, 9]⟩ : ByteArray)] (ji4)) ++ a0)).bind fun bt166 => (if t163 = bt166.2.2 then (if (t161.length : Int) = (bt166.1.length : Int) then (if t163 = 0 then (spinneylaw05_TokenBlanks.j0 k t160 (selB [(⟨#[32]⟩ : ByteArray), (⟨#[10]⟩ : ByteArray), (⟨#[37, 32, 120, 32, 46, 32, 39, 32, 121, 10]⟩ : ByteArray), (⟨#[47, 42, 32, 97, 10, 32, 39, 42, 47]⟩ : ByteArray), (⟨#[47, 42, 42, 47, 9]⟩ : ByteArray)] (ji4)) t161 bt166.1 false) else (spinneylaw05_TokenBlanks.j0 k t160 (selB [(⟨#[32]⟩ : ByteArray), (⟨#[10]⟩ : ByteArray), (⟨#[37, 32, 120, 32, 46, 32, 39, 32, 121, 10]⟩ : ByteArray), (⟨#[47, 42, 32, 97, 10, 32, 39, 42, 47]⟩ : ByteArray), (⟨#[47, 42, 42, 47, 9]⟩ : ByteArray)] (ji4)) t161 bt166.1 (bt166.2.1 != (wrap64 (t162 + ((selB [(⟨#[32]⟩ : ByteArray), (⟨#[10]⟩ : ByteArray), (⟨#[37, 32, 120, 32, 46, 32, 39, 32, 121, 10]⟩ : ByteArray), (⟨#[47, 42, 32, 97, 10, 32, 39, 42, 47]⟩ : ByteArray), (⟨#[47, 42, 42, 47, 9]⟩ : ByteArray)] (ji4)).size : Int)))))) else (spinneylaw05_TokenBlanks.j0 k t160 (selB [(⟨#[32]⟩ : ByteArray), (⟨#[10]⟩ : ByteArray), (⟨#[37, 32, 120, 32, 46, 32, 39, 32, 121, 10]⟩ : ByteArray), (⟨#[47, 42, 32, 97, 10, 32, 39, 42, 47]⟩ : ByteArray), (⟨#[47, 42, 42, 47, 9]⟩ : ByteArray)] (ji4)) t161 bt166.1 true)) else (spinneylaw05_TokenBlanks.j0 k t160 (selB [(⟨#[32]⟩ : ByteArray), (⟨#[10]⟩ : ByteArray), (⟨#[37, 32, 120, 32, 46, 32, 39, 32, 121, 10]⟩ : ByteArray), (⟨#[47, 42, 32, 97, 10, 32, 39, 42, 47]⟩ : ByteArray), (⟨#[47, 42, 42, 47, 9]⟩ : ByteArray)] (ji4)) t161 bt166.1 true))) else (none)) = some r := H
        have A10 := Aside0.mk A100
        clear A100
        by_cases c11 : (selB [(⟨#[32]⟩ : ByteArray), (⟨#[10]⟩ : ByteArray), (⟨#[37, 32, 120, 32, 46, 32, 39, 32, 121, 10]⟩ : ByteArray), (⟨#[47, 42, 32, 97, 10, 32, 39, 42, 47]⟩ : ByteArray), (⟨#[47, 42, 42, 47, 9]⟩ : ByteArray)] (ji4)).size + a0.size ≤ 9223372036854775807
        · rw [if_pos c11] at H
          have c11b0 := eq_true c11
          have c11b1 : decide ((selB [(⟨#[32]⟩ : ByteArray), (⟨#[10]⟩ : ByteArray), (⟨#[37, 32, 120, 32, 46, 32, 39, 32, 121, 10]⟩ : ByteArray), (⟨#[47, 42, 32, 97, 10, 32, 39, 42, 47]⟩ : ByteArray), (⟨#[47, 42, 42, 47, 9]⟩ : ByteArray)] (ji4)).size + a0.size ≤ 9223372036854775807) = true := decide_eq_true c11
          try have c11b2 : (9223372036854775807 < (selB [(⟨#[32]⟩ : ByteArray), (⟨#[10]⟩ : ByteArray), (⟨#[37, 32, 120, 32, 46, 32, 39, 32, 121, 10]⟩ : ByteArray), (⟨#[47, 42, 32, 97, 10, 32, 39, 42, 47]⟩ : ByteArray), (⟨#[47, 42, 42, 47, 9]⟩ : ByteArray)] (ji4)).size + a0.size) = False := eq_false (Nat.not_lt.2 c11)
          replace H := Option.bind_eq_some_iff.mp H
          obtain ⟨⟨t166, t167, t168⟩, A120, H⟩ := H
          replace H : (if t163 = t168 then (if (t161.length : Int) = (t166.length : Int) then (if t163 = 0 then (spinneylaw05_TokenBlanks.j0 k t160 (selB [(⟨#[32]⟩ : ByteArray), (⟨#[10]⟩ : ByteArray), (⟨#[37, 32, 120, 32, 46, 32, 39, 32, 121, 10]⟩ : ByteArray), (⟨#[47, 42, 32, 97, 10, 32, 39, 42, 47]⟩ : ByteArray), (⟨#[47, 42, 42, 47, 9]⟩ : ByteArray)] (ji4)) t161 t166 false) else (spinneylaw05_TokenBlanks.j0 k t160 (selB [(⟨#[32]⟩ : ByteArray), (⟨#[10]⟩ : ByteArray), (⟨#[37, 32, 120, 32, 46, 32, 39, 32, 121, 10]⟩ : ByteArray), (⟨#[47, 42, 32, 97, 10, 32, 39, 42, 47]⟩ : ByteArray), (⟨#[47, 42, 42, 47, 9]⟩ : ByteArray)] (ji4)) t161 t166 (t167 != (wrap64 (t162 + ((selB [(⟨#[32]⟩ : ByteArray), (⟨#[10]⟩ : ByteArray), (⟨#[37, 32, 120, 32, 46, 32, 39, 32, 121, 10]⟩ : ByteArray), (⟨#[47, 42, 32, 97, 10, 32, 39, 42, 47]⟩ : ByteArray), (⟨#[47, 42, 42, 47, 9]⟩ : ByteArray)] (ji4)).size : Int)))))) else (spinneylaw05_TokenBlanks.j0 k t160 (selB [(⟨#[32]⟩ : ByteArray), (⟨#[10]⟩ : ByteArray), (⟨#[37, 32, 120, 32, 46, 32, 39, 32, 121, 10]⟩ : ByteArray), (⟨#[47, 42, 32, 97, 10, 32, 39, 42, 47]⟩ : ByteArray), (⟨#[47, 42, 42, 47, 9]⟩ : ByteArray)] (ji4)) t161 t166 true)) else (spinneylaw05_TokenBlanks.j0 k t160 (selB [(⟨#[32]⟩ : ByteArray), (⟨#[10]⟩ : ByteArray), (⟨#[37, 32, 120, 32, 46, 32, 39, 32, 121, 10]⟩ : ByteArray), (⟨#[47, 42, 32, 97, 10, 32, 39, 42, 47]⟩ : ByteArray), (⟨#[47, 42, 42, 47, 9]⟩ : ByteArray)] (ji4)) t161 t166 true)) = some r := H
          have A12 := Aside0.mk A120
          clear A120
          have HC13 := Aside0.mk H
          clear H
          go_enter Tryd.func5, Tryd.ntmps5
          go_upto_region 7 with (first | (go_at_call 9; (with_reducible refine (spinneylaw05_live.calls  t160 _ A3.out (HT.out.below (by first | exact Below.refl _ _ | (repeat (first | (with_reducible first | exact HB.out | apply below_alloc | apply pw_below_drewN | apply below_drew1 | refine below_set ?_ GE172.out) | exact HB.out))))).mono ?_); rintro e w14 ⟨rfl, hb⟩; have n0_ := Aside0.mk (below_step (by repeat (first | (with_reducible first | exact HB.out | apply below_alloc | apply pw_below_drewN | apply below_drew1) | exact HB.out)) hb); clear HB; have HB := n0_; clear n0_; (try clear hb); (try clear hb2); (try clear hk); (try clear hi); have hixa7 : ∀ j : Int, 0 ≤ j → j < 5 → ∀ W : World, (Instr.index 32 (.agg #[.string (⟨#[32]⟩ : ByteArray), .string (⟨#[10]⟩ : ByteArray), .string (⟨#[37, 32, 120, 32, 46, 32, 39, 32, 121, 10]⟩ : ByteArray), .string (⟨#[47, 42, 32, 97, 10, 32, 39, 42, 47]⟩ : ByteArray), .string (⟨#[47, 42, 42, 47, 9]⟩ : ByteArray)]) (.int .i64 j)).run Tryd.prog W = .ok (.string (selB [(⟨#[32]⟩ : ByteArray), (⟨#[10]⟩ : ByteArray), (⟨#[37, 32, 120, 32, 46, 32, 39, 32, 121, 10]⟩ : ByteArray), (⟨#[47, 42, 32, 97, 10, 32, 39, 42, 47]⟩ : ByteArray), (⟨#[47, 42, 42, 47, 9]⟩ : ByteArray)] j)) W := (by intro j h0 h1 W; obtain rfl | rfl | rfl | rfl | rfl : j = 0 ∨ j = 1 ∨ j = 2 ∨ j = 3 ∨ j = 4 := (by omega); all_goals simp [Instr.index, run_underlying Tryd.underlying32, asIntOf, go_sem, selB]); have hix7 := hixa7 (ji4) (by first | assumption | exact of_decide_eq_true (by assumption) | omega) (by first | assumption | exact of_decide_eq_true (by assumption) | omega); clear hixa7) | (go_at_call 10; (with_reducible refine (token_Cut.calls a0 t161 t162 t163 _ A10.out (HT.out.below (by first | exact Below.refl _ _ | (repeat (first | (with_reducible first | exact HB.out | apply below_alloc | apply pw_below_drewN | apply below_drew1 | refine below_set ?_ GE172.out) | exact HB.out))))).mono ?_); rintro e w15 ⟨v164, rfl, ho0, hb⟩; have n0_ := Aside0.mk (Kd.R_lower ho0 (below_size (by repeat (first | (with_reducible first | exact HB.out | apply below_alloc | apply pw_below_drewN | apply below_drew1) | exact HB.out)))); have n1_ := Aside0.mk (below_step (by repeat (first | (with_reducible first | exact HB.out | apply below_alloc | apply pw_below_drewN | apply below_drew1) | exact HB.out)) hb); clear HB; have HO165 := n0_; have HB := n1_; clear n0_ n1_; (try clear hb); (try clear hb2); (try clear hk); (try clear hi); (try clear ho0)) | (go_at_call 10; (with_reducible refine (token_Cut.calls ((selB [(⟨#[32]⟩ : ByteArray), (⟨#[10]⟩ : ByteArray), (⟨#[37, 32, 120, 32, 46, 32, 39, 32, 121, 10]⟩ : ByteArray), (⟨#[47, 42, 32, 97, 10, 32, 39, 42, 47]⟩ : ByteArray), (⟨#[47, 42, 42, 47, 9]⟩ : ByteArray)] (ji4)) ++ a0) t166 t167 t168 _ A12.out (HT.out.below (by first | exact Below.refl _ _ | (repeat (first | (with_reducible first | exact HB.out | apply below_alloc | apply pw_below_drewN | apply below_drew1 | refine below_set ?_ GE172.out) | exact HB.out))))).mono ?_); rintro e w16 ⟨v169, rfl, ho0, hb⟩; have n0_ := Aside0.mk (Kd.R_elder' (by (with_reducible repeat (first | apply Kd.R_alloc | apply Kd.R_drewN | apply Kd.R_drew)); exact HO165.out) (Kd.R_base ho0) hb); have n1_ := Aside0.mk (Kd.R_lower (Kd.R_new' ho0 (Kd.R_lt (by (with_reducible repeat (first | apply Kd.R_alloc | apply Kd.R_drewN | apply Kd.R_drew)); exact HO165.out))) (below_size (by repeat (first | (with_reducible first | exact HB.out | apply below_alloc | apply pw_below_drewN | apply below_drew1) | exact HB.out)))); have n2_ := Aside0.mk (below_step (by repeat (first | (with_reducible first | exact HB.out | apply below_alloc | apply pw_below_drewN | apply below_drew1) | exact HB.out)) hb); clear HO165; clear HB; have HO165 := n0_; have HO170 := n1_; have HB := n2_; clear n0_ n1_ n2_; (try clear hb); (try clear hb2); (try clear hk); (try clear hi); (try clear ho0)))
          repeat (go_quiet (first | (go_at_call 9; (with_reducible refine (spinneylaw05_live.calls  t160 _ A3.out (HT.out.below (by first | exact Below.refl _ _ | (repeat (first | (with_reducible first | exact HB.out | apply below_alloc | apply pw_below_drewN | apply below_drew1 | refine below_set ?_ GE172.out) | exact HB.out))))).mono ?_); rintro e w14 ⟨rfl, hb⟩; have n0_ := Aside0.mk (below_step (by repeat (first | (with_reducible first | exact HB.out | apply below_alloc | apply pw_below_drewN | apply below_drew1) | exact HB.out)) hb); clear HB; have HB := n0_; clear n0_; (try clear hb); (try clear hb2); (try clear hk); (try clear hi); have hixa7 : ∀ j : Int, 0 ≤ j → j < 5 → ∀ W : World, (Instr.index 32 (.agg #[.string (⟨#[32]⟩ : ByteArray), .string (⟨#[10]⟩ : ByteArray), .string (⟨#[37, 32, 120, 32, 46, 32, 39, 32, 121, 10]⟩ : ByteArray), .string (⟨#[47, 42, 32, 97, 10, 32, 39, 42, 47]⟩ : ByteArray), .string (⟨#[47, 42, 42, 47, 9]⟩ : ByteArray)]) (.int .i64 j)).run Tryd.prog W = .ok (.string (selB [(⟨#[32]⟩ : ByteArray), (⟨#[10]⟩ : ByteArray), (⟨#[37, 32, 120, 32, 46, 32, 39, 32, 121, 10]⟩ : ByteArray), (⟨#[47, 42, 32, 97, 10, 32, 39, 42, 47]⟩ : ByteArray), (⟨#[47, 42, 42, 47, 9]⟩ : ByteArray)] j)) W := (by intro j h0 h1 W; obtain rfl | rfl | rfl | rfl | rfl : j = 0 ∨ j = 1 ∨ j = 2 ∨ j = 3 ∨ j = 4 := (by omega); all_goals simp [Instr.index, run_underlying Tryd.underlying32, asIntOf, go_sem, selB]); have hix7 := hixa7 (ji4) (by first | assumption | exact of_decide_eq_true (by assumption) | omega) (by first | assumption | exact of_decide_eq_true (by assumption) | omega); clear hixa7) | (go_at_call 10; (with_reducible refine (token_Cut.calls a0 t161 t162 t163 _ A10.out (HT.out.below (by first | exact Below.refl _ _ | (repeat (first | (with_reducible first | exact HB.out | apply below_alloc | apply pw_below_drewN | apply below_drew1 | refine below_set ?_ GE172.out) | exact HB.out))))).mono ?_); rintro e w15 ⟨v164, rfl, ho0, hb⟩; have n0_ := Aside0.mk (Kd.R_lower ho0 (below_size (by repeat (first | (with_reducible first | exact HB.out | apply below_alloc | apply pw_below_drewN | apply below_drew1) | exact HB.out)))); have n1_ := Aside0.mk (below_step (by repeat (first | (with_reducible first | exact HB.out | apply below_alloc | apply pw_below_drewN | apply below_drew1) | exact HB.out)) hb); clear HB; have HO165 := n0_; have HB := n1_; clear n0_ n1_; (try clear hb); (try clear hb2); (try clear hk); (try clear hi); (try clear ho0)) | (go_at_call 10; (with_reducible refine (token_Cut.calls ((selB [(⟨#[32]⟩ : ByteArray), (⟨#[10]⟩ : ByteArray), (⟨#[37, 32, 120, 32, 46, 32, 39, 32, 121, 10]⟩ : ByteArray), (⟨#[47, 42, 32, 97, 10, 32, 39, 42, 47]⟩ : ByteArray), (⟨#[47, 42, 42, 47, 9]⟩ : ByteArray)] (ji4)) ++ a0) t166 t167 t168 _ A12.out (HT.out.below (by first | exact Below.refl _ _ | (repeat (first | (with_reducible first | exact HB.out | apply below_alloc | apply pw_below_drewN | apply below_drew1 | refine below_set ?_ GE172.out) | exact HB.out))))).mono ?_); rintro e w16 ⟨v169, rfl, ho0, hb⟩; have n0_ := Aside0.mk (Kd.R_elder' (by (with_reducible repeat (first | apply Kd.R_alloc | apply Kd.R_drewN | apply Kd.R_drew)); exact HO165.out) (Kd.R_base ho0) hb); have n1_ := Aside0.mk (Kd.R_lower (Kd.R_new' ho0 (Kd.R_lt (by (with_reducible repeat (first | apply Kd.R_alloc | apply Kd.R_drewN | apply Kd.R_drew)); exact HO165.out))) (below_size (by repeat (first | (with_reducible first | exact HB.out | apply below_alloc | apply pw_below_drewN | apply below_drew1) | exact HB.out)))); have n2_ := Aside0.mk (below_step (by repeat (first | (with_reducible first | exact HB.out | apply below_alloc | apply pw_below_drewN | apply below_drew1) | exact HB.out)) hb); clear HO165; clear HB; have HO165 := n0_; have HO170 := n1_; have HB := n2_; clear n0_ n1_ n2_; (try clear hb); (try clear hb2); (try clear hk); (try clear hi); (try clear ho0))); go_upto_region 7 with (first | (go_at_call 9; (with_reducible refine (spinneylaw05_live.calls  t160 _ A3.out (HT.out.below (by first | exact Below.refl _ _ | (repeat (first | (with_reducible first | exact HB.out | apply below_alloc | apply pw_below_drewN | apply below_drew1 | refine below_set ?_ GE172.out) | exact HB.out))))).mono ?_); rintro e w14 ⟨rfl, hb⟩; have n0_ := Aside0.mk (below_step (by repeat (first | (with_reducible first | exact HB.out | apply below_alloc | apply pw_below_drewN | apply below_drew1) | exact HB.out)) hb); clear HB; have HB := n0_; clear n0_; (try clear hb); (try clear hb2); (try clear hk); (try clear hi); have hixa7 : ∀ j : Int, 0 ≤ j → j < 5 → ∀ W : World, (Instr.index 32 (.agg #[.string (⟨#[32]⟩ : ByteArray), .string (⟨#[10]⟩ : ByteArray), .string (⟨#[37, 32, 120, 32, 46, 32, 39, 32, 121, 10]⟩ : ByteArray), .string (⟨#[47, 42, 32, 97, 10, 32, 39, 42, 47]⟩ : ByteArray), .string (⟨#[47, 42, 42, 47, 9]⟩ : ByteArray)]) (.int .i64 j)).run Tryd.prog W = .ok (.string (selB [(⟨#[32]⟩ : ByteArray), (⟨#[10]⟩ : ByteArray), (⟨#[37, 32, 120, 32, 46, 32, 39, 32, 121, 10]⟩ : ByteArray), (⟨#[47, 42, 32, 97, 10, 32, 39, 42, 47]⟩ : ByteArray), (⟨#[47, 42, 42, 47, 9]⟩ : ByteArray)] j)) W := (by intro j h0 h1 W; obtain rfl | rfl | rfl | rfl | rfl : j = 0 ∨ j = 1 ∨ j = 2 ∨ j = 3 ∨ j = 4 := (by omega); all_goals simp [Instr.index, run_underlying Tryd.underlying32, asIntOf, go_sem, selB]); have hix7 := hixa7 (ji4) (by first | assumption | exact of_decide_eq_true (by assumption) | omega) (by first | assumption | exact of_decide_eq_true (by assumption) | omega); clear hixa7) | (go_at_call 10; (with_reducible refine (token_Cut.calls a0 t161 t162 t163 _ A10.out (HT.out.below (by first | exact Below.refl _ _ | (repeat (first | (with_reducible first | exact HB.out | apply below_alloc | apply pw_below_drewN | apply below_drew1 | refine below_set ?_ GE172.out) | exact HB.out))))).mono ?_); rintro e w15 ⟨v164, rfl, ho0, hb⟩; have n0_ := Aside0.mk (Kd.R_lower ho0 (below_size (by repeat (first | (with_reducible first | exact HB.out | apply below_alloc | apply pw_below_drewN | apply below_drew1) | exact HB.out)))); have n1_ := Aside0.mk (below_step (by repeat (first | (with_reducible first | exact HB.out | apply below_alloc | apply pw_below_drewN | apply below_drew1) | exact HB.out)) hb); clear HB; have HO165 := n0_; have HB := n1_; clear n0_ n1_; (try clear hb); (try clear hb2); (try clear hk); (try clear hi); (try clear ho0)) | (go_at_call 10; (with_reducible refine (token_Cut.calls ((selB [(⟨#[32]⟩ : ByteArray), (⟨#[10]⟩ : ByteArray), (⟨#[37, 32, 120, 32, 46, 32, 39, 32, 121, 10]⟩ : ByteArray), (⟨#[47, 42, 32, 97, 10, 32, 39, 42, 47]⟩ : ByteArray), (⟨#[47, 42, 42, 47, 9]⟩ : ByteArray)] (ji4)) ++ a0) t166 t167 t168 _ A12.out (HT.out.below (by first | exact Below.refl _ _ | (repeat (first | (with_reducible first | exact HB.out | apply below_alloc | apply pw_below_drewN | apply below_drew1 | refine below_set ?_ GE172.out) | exact HB.out))))).mono ?_); rintro e w16 ⟨v169, rfl, ho0, hb⟩; have n0_ := Aside0.mk (Kd.R_elder' (by (with_reducible repeat (first | apply Kd.R_alloc | apply Kd.R_drewN | apply Kd.R_drew)); exact HO165.out) (Kd.R_base ho0) hb); have n1_ := Aside0.mk (Kd.R_lower (Kd.R_new' ho0 (Kd.R_lt (by (with_reducible repeat (first | apply Kd.R_alloc | apply Kd.R_drewN | apply Kd.R_drew)); exact HO165.out))) (below_size (by repeat (first | (with_reducible first | exact HB.out | apply below_alloc | apply pw_below_drewN | apply below_drew1) | exact HB.out)))); have n2_ := Aside0.mk (below_step (by repeat (first | (with_reducible first | exact HB.out | apply below_alloc | apply pw_below_drewN | apply below_drew1) | exact HB.out)) hb); clear HO165; clear HB; have HO165 := n0_; have HO170 := n1_; have HB := n2_; clear n0_ n1_ n2_; (try clear hb); (try clear hb2); (try clear hk); (try clear hi); (try clear ho0))))
          (try simp only [Act.put, List.setIfInBounds_toArray, List.set_cons_zero, List.set_cons_succ])
          go_cut [62] (fun v62 wc => ∃ (kq : Nat) (x62_12 : Bool), v62 = .bool x62_12 ∧ Aside0 (spinneylaw05_TokenBlanks.j0 kq t160 (selB [(⟨#[32]⟩ : ByteArray), (⟨#[10]⟩ : ByteArray), (⟨#[37, 32, 120, 32, 46, 32, 39, 32, 121, 10]⟩ : ByteArray), (⟨#[47, 42, 32, 97, 10, 32, 39, 42, 47]⟩ : ByteArray), (⟨#[47, 42, 42, 47, 9]⟩ : ByteArray)] (ji4)) t161 t166 x62_12 = some r) ∧ Aside0 (kq ≤ k) ∧ Aside0 (Kd.R k30 30 wc w.heap.size (fun k_ => some k_ ≠ (v169 : Value).ownBlock) v164 t161) ∧ Aside0 (Kd.R k30 30 wc w.heap.size (fun k_ => some k_ ≠ (v164 : Value).ownBlock) v169 t166) ∧ Aside0 (Below w.heap.size w wc))
          case first =>
            have H := HC13.out
            clear HC13
            by_cases c17 : t163 = t168
            · rw [if_pos c17] at H
              have c17b0 : (t163 == t168) = true := beq_iff_eq.mpr c17
              have c17b1 : (t163 != t168) = false := bne_eq_false_iff_eq.mpr c17
              clear c17
              (first | rw [c17b0] | (simp only [i64_w, i32_w]; rw [c17b0]) | skip)
              by_cases c18 : (t161.length : Int) = (t166.length : Int)
              · rw [if_pos c18] at H
                have c18b0 : ((t161.length : Int) == (t166.length : Int)) = true := beq_iff_eq.mpr c18
                have c18b1 : ((t161.length : Int) != (t166.length : Int)) = false := bne_eq_false_iff_eq.mpr c18
                have c18b2 : (t161.length == t166.length) = true := by first | simpa using c18 | (simp at c18 ⊢; omega)
                clear c18
                by_cases c19 : t163 = 0
                · rw [if_pos c19] at H
                  have c19b0 : (t163 == 0) = true := beq_iff_eq.mpr c19
                  have c19b1 : (t163 != 0) = false := bne_eq_false_iff_eq.mpr c19
                  clear c19
                  have H' := Aside0.mk H
                  clear H
                  obtain ⟨Ao20, co20, eo20⟩ := Kd.R_slice HO165.out
                  subst eo20
                  obtain ⟨Ao21, co21, eo21⟩ := Kd.R_slice HO170.out
                  subst eo21
                  go_wp2
                  repeat (go_quiet (fail); try go_wp2)
                  go_meet
                  case rel => exact ⟨_, (false), (by first | rfl | (simp; done) | (simp [*]; done)), H', ⟨by first | omega | exact Nat.le_refl _⟩, ⟨by (with_reducible repeat (first | apply Kd.R_alloc | apply Kd.R_drewN | apply Kd.R_drew)); exact Kd.R_mono HO165.out (fun _ hk => hk.2)⟩, ⟨by (with_reducible repeat (first | apply Kd.R_alloc | apply Kd.R_drewN | apply Kd.R_drew)); exact Kd.R_mono HO170.out (fun _ hk => hk.2)⟩, ⟨by repeat (first | (with_reducible first | exact HB.out | apply below_alloc | apply pw_below_drewN | apply below_drew1) | exact HB.out)⟩⟩
                · rw [if_neg c19] at H
                  have c19b0 : (t163 == 0) = false := beq_eq_false_iff_ne.mpr c19
                  have c19b1 : (t163 != 0) = true := bne_iff_ne.mpr c19
                  have H' := Aside0.mk H
                  clear H
                  obtain ⟨Ao22, co22, eo22⟩ := Kd.R_slice HO165.out
                  subst eo22
                  obtain ⟨Ao23, co23, eo23⟩ := Kd.R_slice HO170.out
                  subst eo23
                  go_wp2
                  repeat (go_quiet (fail); try go_wp2)
                  go_meet
                  case rel => exact ⟨_, ((t167 != (wrap64 (t162 + ((selB [(⟨#[32]⟩ : ByteArray), (⟨#[10]⟩ : ByteArray), (⟨#[37, 32, 120, 32, 46, 32, 39, 32, 121, 10]⟩ : ByteArray), (⟨#[47, 42, 32, 97, 10, 32, 39, 42, 47]⟩ : ByteArray), (⟨#[47, 42, 42, 47, 9]⟩ : ByteArray)] (ji4)).size : Int))))), (by first | rfl | (simp; done) | (simp only [← hji4] <;> (first | rfl | simp)) | (simp [*]; done)), H', ⟨by first | omega | exact Nat.le_refl _⟩, ⟨by (with_reducible repeat (first | apply Kd.R_alloc | apply Kd.R_drewN | apply Kd.R_drew)); exact Kd.R_mono HO165.out (fun _ hk => hk.2)⟩, ⟨by (with_reducible repeat (first | apply Kd.R_alloc | apply Kd.R_drewN | apply Kd.R_drew)); exact Kd.R_mono HO170.out (fun _ hk => hk.2)⟩, ⟨by repeat (first | (with_reducible first | exact HB.out | apply below_alloc | apply pw_below_drewN | apply below_drew1) | exact HB.out)⟩⟩
              · rw [if_neg c18] at H
                have c18b0 : ((t161.length : Int) == (t166.length : Int)) = false := beq_eq_false_iff_ne.mpr c18
                have c18b1 : ((t161.length : Int) != (t166.length : Int)) = true := bne_iff_ne.mpr c18
                have c18b2 : (t161.length == t166.length) = false := by first | simpa using c18 | (simp at c18 ⊢; omega)
                have H' := Aside0.mk H
                clear H
                obtain ⟨Ao24, co24, eo24⟩ := Kd.R_slice HO165.out
                subst eo24
                obtain ⟨Ao25, co25, eo25⟩ := Kd.R_slice HO170.out
                subst eo25
                go_wp2
                repeat (go_quiet (fail); try go_wp2)
                go_meet
                case rel => exact ⟨_, (true), (by first | rfl | (simp; done) | (simp [*]; done)), H', ⟨by first | omega | exact Nat.le_refl _⟩, ⟨by (with_reducible repeat (first | apply Kd.R_alloc | apply Kd.R_drewN | apply Kd.R_drew)); exact Kd.R_mono HO165.out (fun _ hk => hk.2)⟩, ⟨by (with_reducible repeat (first | apply Kd.R_alloc | apply Kd.R_drewN | apply Kd.R_drew)); exact Kd.R_mono HO170.out (fun _ hk => hk.2)⟩, ⟨by repeat (first | (with_reducible first | exact HB.out | apply below_alloc | apply pw_below_drewN | apply below_drew1) | exact HB.out)⟩⟩
            · rw [if_neg c17] at H
              have c17b0 : (t163 == t168) = false := beq_eq_false_iff_ne.mpr c17
              have c17b1 : (t163 != t168) = true := bne_iff_ne.mpr c17
              (first | rw [c17b0] | (simp only [i64_w, i32_w]; rw [c17b0]) | skip)
              have H' := Aside0.mk H
              clear H
              go_wp2
              repeat (go_quiet (fail); try go_wp2)
              go_meet
              case rel => exact ⟨_, (true), (by first | rfl | (simp; done) | (simp [*]; done)), H', ⟨by first | omega | exact Nat.le_refl _⟩, ⟨by (with_reducible repeat (first | apply Kd.R_alloc | apply Kd.R_drewN | apply Kd.R_drew)); exact Kd.R_mono HO165.out (fun _ hk => hk.2)⟩, ⟨by (with_reducible repeat (first | apply Kd.R_alloc | apply Kd.R_drewN | apply Kd.R_drew)); exact Kd.R_mono HO170.out (fun _ hk => hk.2)⟩, ⟨by repeat (first | (with_reducible first | exact HB.out | apply below_alloc | apply pw_below_drewN | apply below_drew1) | exact HB.out)⟩⟩
          case rest =>
            clear HC13
            try clear c1
            try clear p2
            try clear c5
            try clear c5b0
            try clear c6
            try clear c6b0
            try clear p6
            try clear c8
            try clear c8b0
            try clear c11
            try clear c11b0
            try clear c11b1
            try clear c11b2
            try clear c17
            try clear c17b0
            try clear c17b1
            try clear c18
            try clear c18b0
            try clear c18b1
            try clear c18b2
            try clear c19
            try clear c19b0
            try clear c19b1
            obtain ⟨kq, x62_12, rfl, HA, HJ12, HO_7, HO_10, HB⟩ := hcut
            cases kq with
            | zero => exact absurd HA.out (by simp [spinneylaw05_TokenBlanks.j0])
            | succ kj12 =>
              have H := HA.out
              clear HA
              simp only [spinneylaw05_TokenBlanks.j0] at H
              by_cases c26 : x62_12 = true
              · subst c26
                have H1 : (none) = some r := by rw [if_pos rfl] at H; exact H
                clear H
                have H := H1
                clear H1
                exact absurd H (by simp)
              · replace c26 := Bool.eq_false_iff.mpr c26
                subst c26
                have H1 : (spinneylaw05_TokenBlanks.l0 kj12 t160 (selB [(⟨#[32]⟩ : ByteArray), (⟨#[10]⟩ : ByteArray), (⟨#[37, 32, 120, 32, 46, 32, 39, 32, 121, 10]⟩ : ByteArray), (⟨#[47, 42, 32, 97, 10, 32, 39, 42, 47]⟩ : ByteArray), (⟨#[47, 42, 42, 47, 9]⟩ : ByteArray)] (ji4)) t161 t166 (t161.length : Int) 0) = some r := by rw [if_neg (show ¬ (false = true) by decide)] at H; exact H
                clear H
                have H := H1
                clear H1
                have H' := Aside0.mk H
                clear H
                obtain ⟨Ao27, co27, eo27⟩ := Kd.R_slice HO_7.out
                subst eo27
                go_wp2
                repeat (go_quiet (fail); try go_wp2)
                go_loopg [65] kj12 (fun kq v65 w' => ∃ (x65_2 : Int), v65 = .int .i64 x65_2 ∧ Aside0 (spinneylaw05_TokenBlanks.l0 kq t160 (selB [(⟨#[32]⟩ : ByteArray), (⟨#[10]⟩ : ByteArray), (⟨#[37, 32, 120, 32, 46, 32, 39, 32, 121, 10]⟩ : ByteArray), (⟨#[47, 42, 32, 97, 10, 32, 39, 42, 47]⟩ : ByteArray), (⟨#[47, 42, 42, 47, 9]⟩ : ByteArray)] (ji4)) t161 t166 (t161.length : Int) x65_2 = some r) ∧ Aside0 (kq ≤ kj12) ∧ Aside0 (Kd.R k30 30 w' w.heap.size (fun k_ => some k_ ≠ (v169 : Value).ownBlock) (.slice Ao27 t161.length co27) t161) ∧ Aside0 (Kd.R k30 30 w' w.heap.size (fun k_ => some k_ ≠ ((.slice Ao27 t161.length co27) : Value).ownBlock) v169 t166) ∧ Aside0 (Below w.heap.size w w'))
                case atStart => exact ⟨(0), (by first | rfl | (simp; done) | (simp [*]; done)), H', ⟨Nat.le_refl _⟩, ⟨by (with_reducible repeat (first | apply Kd.R_alloc | apply Kd.R_drewN | apply Kd.R_drew)); exact HO_7.out⟩, ⟨by (with_reducible repeat (first | apply Kd.R_alloc | apply Kd.R_drewN | apply Kd.R_drew)); exact HO_10.out⟩, ⟨by repeat (first | (with_reducible first | exact HB.out | apply below_alloc | apply pw_below_drewN | apply below_drew1) | exact HB.out)⟩⟩
                case round =>
                  clear H'
                  try clear c1
                  try clear c2
                  try clear p2
                  try clear c5
                  try clear c5b0
                  try clear c6
                  try clear c6b0
                  try clear p6
                  try clear c8
                  try clear c8b0
                  try clear c11
                  try clear c11b0
                  try clear c11b1
                  try clear c11b2
                  try clear c17
                  try clear c17b0
                  try clear c17b1
                  try clear c18
                  try clear c18b0
                  try clear c18b1
                  try clear c18b2
                  try clear c19
                  try clear c19b0
                  try clear c19b1
                  try clear c26
                  try clear p2
                  try clear p6
                  obtain ⟨x65_2, rfl, HA, HK2, HO_7, HO_10, HB⟩ := hrel
                  cases gk with
                  | zero => exact absurd HA.out (by simp [spinneylaw05_TokenBlanks.l0])
                  | succ k2 =>
                    have H := HA.out
                    clear HA
                    simp only [spinneylaw05_TokenBlanks.l0] at H
                    by_cases c28 : x65_2 < (t161.length : Int)
                    · rw [if_pos c28] at H
                      have c28b0 : decide (x65_2 < (t161.length : Int)) = true := decide_eq_true c28
                      clear c28
                      by_cases c29 : 0 ≤ x65_2
                      · rw [if_pos c29] at H
                        have c29b0 : decide (0 ≤ x65_2) = true := decide_eq_true c29
                        clear c29
                        by_cases c30 : x65_2 < (t161.length : Int)
                        · rw [if_pos c30] at H
                          have c30b0 : decide (x65_2 < (t161.length : Int)) = true := decide_eq_true c30
                          clear c30
                          by_cases c31 : x65_2 < (t166.length : Int)
                          · rw [if_pos c31] at H
                            have c31b0 : decide (x65_2 < (t166.length : Int)) = true := decide_eq_true c31
                            clear c31
                            by_cases c32 : (!(((rd_T30 t161 x65_2).f0) == ((rd_T30 t166 x65_2).f0)) || (!((((rd_T30 t161 x65_2).f1).toList) == (((rd_T30 t166 x65_2).f1).toList)) || (!(((rd_T30 t161 x65_2).f2) == ((rd_T30 t166 x65_2).f2)) || (!((wrap64 (((rd_T30 t161 x65_2).f3) + ((selB [(⟨#[32]⟩ : ByteArray), (⟨#[10]⟩ : ByteArray), (⟨#[37, 32, 120, 32, 46, 32, 39, 32, 121, 10]⟩ : ByteArray), (⟨#[47, 42, 32, 97, 10, 32, 39, 42, 47]⟩ : ByteArray), (⟨#[47, 42, 42, 47, 9]⟩ : ByteArray)] (ji4)).size : Int))) == ((rd_T30 t166 x65_2).f3)))))) = true
                            · rw [if_pos c32] at H
                              exact absurd H (by simp)
                            · rw [if_neg c32] at H
                              have c32b0 : (!(((rd_T30 t161 x65_2).f0) == ((rd_T30 t166 x65_2).f0)) || (!((((rd_T30 t161 x65_2).f1).toList) == (((rd_T30 t166 x65_2).f1).toList)) || (!(((rd_T30 t161 x65_2).f2) == ((rd_T30 t166 x65_2).f2)) || (!((wrap64 (((rd_T30 t161 x65_2).f3) + ((selB [(⟨#[32]⟩ : ByteArray), (⟨#[10]⟩ : ByteArray), (⟨#[37, 32, 120, 32, 46, 32, 39, 32, 121, 10]⟩ : ByteArray), (⟨#[47, 42, 32, 97, 10, 32, 39, 42, 47]⟩ : ByteArray), (⟨#[47, 42, 42, 47, 9]⟩ : ByteArray)] (ji4)).size : Int))) == ((rd_T30 t166 x65_2).f3)))))) = false := by simpa using c32
                              clear c32
                              have H' := Aside0.mk H
                              clear H
                              have p171 : 0 ≤ (x65_2 : Int) := of_decide_eq_true (by first | (with_reducible assumption) | assumption)
                              have q171 : x65_2 < (t161.length : Int) := of_decide_eq_true (by first | (with_reducible assumption) | assumption)
                              obtain ⟨ad171, e171, hx171_0, hx171_1, hx171_2, hx171_3⟩ := at_T30 (Kd.R_reads' HO_7.out).2.2 x65_2 p171 q171
                              cases e171
                              replace p171 := eq_true p171
                              replace q171 := eq_true q171
                              go_wp2_with (first | ((with_reducible refine gate_dst (N := 14) rfl ?_); (try (refine gate_guard (by rfl) ?_; dsimp only)); refine box_event ?hg (N := 14) ?hd (cs := #[.int .i64 0, .string (⟨#[]⟩ : ByteArray), .int .i64 0, .int .i64 0]) (t := 30) ?hr ?_; (case hd => rfl); (case hg => rfl); (case hr => first | (go_simp; done) | (go_simp; rfl)); intro gb172 hg w33 hbox hb; (try have hnb171 := box_far hx171_0 hg); (try have hx171_0b := (Below.cell hb (cell_lt hx171_0)).trans hx171_0); (try have hx171_1b := (Below.cell hb (cell_lt hx171_1)).trans hx171_1); (try have hx171_2b := (Below.cell hb (cell_lt hx171_2)).trans hx171_2); (try have hx171_3b := (Below.cell hb (cell_lt hx171_3)).trans hx171_3); (try have NE172_HO_10 := Aside0.mk (box_ne (by (with_reducible repeat (first | apply Kd.R_alloc | apply Kd.R_drewN | apply Kd.R_drew)); exact HO_10.out) hg)); have n0_ := Aside0.mk (Kd.R_below (Kd.R_elderB (by (with_reducible repeat (first | apply Kd.R_alloc | apply Kd.R_drewN | apply Kd.R_drew)); exact HO_7.out) gb172 (Nat.le_of_eq hg.symm)) hb); have n1_ := Aside0.mk (Kd.R_below (Kd.R_elderB (by (with_reducible repeat (first | apply Kd.R_alloc | apply Kd.R_drewN | apply Kd.R_drew)); exact HO_10.out) gb172 (Nat.le_of_eq hg.symm)) hb); have n2_ := Aside0.mk (below_step (by repeat (first | (with_reducible first | exact HB.out | apply below_alloc | apply pw_below_drewN | apply below_drew1) | exact HB.out)) hb); have n3_ := Aside0.mk (hbox); have n4_ := Aside0.mk ((by rw [hg]; exact (below_size (by repeat (first | (with_reducible first | exact HB.out | apply below_alloc | apply pw_below_drewN | apply below_drew1) | exact HB.out))) : w.heap.size ≤ gb172)); have n5_ := Aside0.mk ((by rw [hg]; exact (below_size (by repeat (first | (with_reducible first | exact HB.out | apply below_alloc | apply pw_below_drewN | apply below_drew1) | exact HB.out))) : w.heap.size ≤ gb172)); clear HO_7; clear HO_10; clear HB; have HO_7 := n0_; have HO_10 := n1_; have HB := n2_; have BK172 := n3_; have GW172 := n4_; have GE172 := n5_; clear n0_ n1_ n2_ n3_ n4_ n5_; clear hb hbox hg; have hcz34_0 : w33.cell? ⟨gb172, 0, none⟩ = some (.int .i64 0) := (blk_cell BK172.out 0).trans rfl; have hcz34_1 : w33.cell? ⟨gb172, 1, none⟩ = some (.string (⟨#[]⟩ : ByteArray)) := (blk_cell BK172.out 1).trans rfl; have hcz34_2 : w33.cell? ⟨gb172, 2, none⟩ = some (.int .i64 0) := (blk_cell BK172.out 2).trans rfl; have hcz34_3 : w33.cell? ⟨gb172, 3, none⟩ = some (.int .i64 0) := (blk_cell BK172.out 3).trans rfl; have hfz34_0 := blk_frozen BK172.out 0; have hfz34_1 := blk_frozen BK172.out 1; have hfz34_2 := blk_frozen BK172.out 2; have hfz34_3 := blk_frozen BK172.out 3; obtain ⟨Ao35, co35, eo35⟩ := Kd.R_slice HO_10.out; subst eo35; have p173 : 0 ≤ (x65_2 : Int) := of_decide_eq_true (by first | (with_reducible assumption) | assumption); have q173 : x65_2 < (t166.length : Int) := of_decide_eq_true (by first | (with_reducible assumption) | assumption); obtain ⟨ad173, e173, hx173_0, hx173_1, hx173_2, hx173_3⟩ := at_T30 (Kd.R_reads' HO_10.out).2.2 x65_2 p173 q173; cases e173; have hn173_0 : ad173.block ≠ gb172 := Kd.own_blk ((show _ ≠ _ from by first | exact Kd.R_ne HO_10.out BK172.out (by decide) | exact NE172_HO_10.out)); have hn173_1 : ad173.block ≠ gb172 := Kd.own_blk ((show _ ≠ _ from by first | exact Kd.R_ne HO_10.out BK172.out (by decide) | exact NE172_HO_10.out)); have hn173_2 : ad173.block ≠ gb172 := Kd.own_blk ((show _ ≠ _ from by first | exact Kd.R_ne HO_10.out BK172.out (by decide) | exact NE172_HO_10.out)); have hn173_3 : ad173.block ≠ gb172 := Kd.own_blk ((show _ ≠ _ from by first | exact Kd.R_ne HO_10.out BK172.out (by decide) | exact NE172_HO_10.out)); have hn173_4 : ad173.block ≠ gb172 := Kd.own_blk ((show _ ≠ _ from by first | exact Kd.R_ne HO_10.out BK172.out (by decide) | exact NE172_HO_10.out)); replace hx173_0 := (cell_far (p := ⟨gb172, 0, none⟩) (by first | (rw [add_block]; exact hn173_0) | (show (Addr.add _ _).block ≠ _; rw [add_block]; exact hn173_0) | exact hn173_0) (.int .i64 ((rd_T30 t161 x65_2).f0))).trans hx173_0; replace hx173_1 := (cell_far (p := ⟨gb172, 0, none⟩) (by first | (rw [add_block]; exact hn173_0) | (show (Addr.add _ _).block ≠ _; rw [add_block]; exact hn173_0) | exact hn173_0) (.int .i64 ((rd_T30 t161 x65_2).f0))).trans hx173_1; replace hx173_2 := (cell_far (p := ⟨gb172, 0, none⟩) (by first | (rw [add_block]; exact hn173_0) | (show (Addr.add _ _).block ≠ _; rw [add_block]; exact hn173_0) | exact hn173_0) (.int .i64 ((rd_T30 t161 x65_2).f0))).trans hx173_2; replace hx173_3 := (cell_far (p := ⟨gb172, 0, none⟩) (by first | (rw [add_block]; exact hn173_0) | (show (Addr.add _ _).block ≠ _; rw [add_block]; exact hn173_0) | exact hn173_0) (.int .i64 ((rd_T30 t161 x65_2).f0))).trans hx173_3; replace hx173_0 := (cell_far (p := ⟨gb172, 1, none⟩) (by first | (rw [add_block]; exact hn173_1) | (show (Addr.add _ _).block ≠ _; rw [add_block]; exact hn173_1) | exact hn173_1) (.string ((rd_T30 t161 x65_2).f1))).trans hx173_0; replace hx173_1 := (cell_far (p := ⟨gb172, 1, none⟩) (by first | (rw [add_block]; exact hn173_1) | (show (Addr.add _ _).block ≠ _; rw [add_block]; exact hn173_1) | exact hn173_1) (.string ((rd_T30 t161 x65_2).f1))).trans hx173_1; replace hx173_2 := (cell_far (p := ⟨gb172, 1, none⟩) (by first | (rw [add_block]; exact hn173_1) | (show (Addr.add _ _).block ≠ _; rw [add_block]; exact hn173_1) | exact hn173_1) (.string ((rd_T30 t161 x65_2).f1))).trans hx173_2; replace hx173_3 := (cell_far (p := ⟨gb172, 1, none⟩) (by first | (rw [add_block]; exact hn173_1) | (show (Addr.add _ _).block ≠ _; rw [add_block]; exact hn173_1) | exact hn173_1) (.string ((rd_T30 t161 x65_2).f1))).trans hx173_3; replace hx173_0 := (cell_far (p := ⟨gb172, 2, none⟩) (by first | (rw [add_block]; exact hn173_2) | (show (Addr.add _ _).block ≠ _; rw [add_block]; exact hn173_2) | exact hn173_2) (.int .i64 ((rd_T30 t161 x65_2).f2))).trans hx173_0; replace hx173_1 := (cell_far (p := ⟨gb172, 2, none⟩) (by first | (rw [add_block]; exact hn173_2) | (show (Addr.add _ _).block ≠ _; rw [add_block]; exact hn173_2) | exact hn173_2) (.int .i64 ((rd_T30 t161 x65_2).f2))).trans hx173_1; replace hx173_2 := (cell_far (p := ⟨gb172, 2, none⟩) (by first | (rw [add_block]; exact hn173_2) | (show (Addr.add _ _).block ≠ _; rw [add_block]; exact hn173_2) | exact hn173_2) (.int .i64 ((rd_T30 t161 x65_2).f2))).trans hx173_2; replace hx173_3 := (cell_far (p := ⟨gb172, 2, none⟩) (by first | (rw [add_block]; exact hn173_2) | (show (Addr.add _ _).block ≠ _; rw [add_block]; exact hn173_2) | exact hn173_2) (.int .i64 ((rd_T30 t161 x65_2).f2))).trans hx173_3; replace hx173_0 := (cell_far (p := ⟨gb172, 3, none⟩) (by first | (rw [add_block]; exact hn173_3) | (show (Addr.add _ _).block ≠ _; rw [add_block]; exact hn173_3) | exact hn173_3) (.int .i64 ((rd_T30 t161 x65_2).f3))).trans hx173_0; replace hx173_1 := (cell_far (p := ⟨gb172, 3, none⟩) (by first | (rw [add_block]; exact hn173_3) | (show (Addr.add _ _).block ≠ _; rw [add_block]; exact hn173_3) | exact hn173_3) (.int .i64 ((rd_T30 t161 x65_2).f3))).trans hx173_1; replace hx173_2 := (cell_far (p := ⟨gb172, 3, none⟩) (by first | (rw [add_block]; exact hn173_3) | (show (Addr.add _ _).block ≠ _; rw [add_block]; exact hn173_3) | exact hn173_3) (.int .i64 ((rd_T30 t161 x65_2).f3))).trans hx173_2; replace hx173_3 := (cell_far (p := ⟨gb172, 3, none⟩) (by first | (rw [add_block]; exact hn173_3) | (show (Addr.add _ _).block ≠ _; rw [add_block]; exact hn173_3) | exact hn173_3) (.int .i64 ((rd_T30 t161 x65_2).f3))).trans hx173_3; replace hx173_0 := (cell_far (p := ⟨gb172, 3, none⟩) (by first | (rw [add_block]; exact hn173_4) | (show (Addr.add _ _).block ≠ _; rw [add_block]; exact hn173_4) | exact hn173_4) (.int .i64 (wrap64 (((rd_T30 t161 x65_2).f3) + ((selB [(⟨#[32]⟩ : ByteArray), (⟨#[10]⟩ : ByteArray), (⟨#[37, 32, 120, 32, 46, 32, 39, 32, 121, 10]⟩ : ByteArray), (⟨#[47, 42, 32, 97, 10, 32, 39, 42, 47]⟩ : ByteArray), (⟨#[47, 42, 42, 47, 9]⟩ : ByteArray)] (ji4)).size : Int))))).trans hx173_0; replace hx173_1 := (cell_far (p := ⟨gb172, 3, none⟩) (by first | (rw [add_block]; exact hn173_4) | (show (Addr.add _ _).block ≠ _; rw [add_block]; exact hn173_4) | exact hn173_4) (.int .i64 (wrap64 (((rd_T30 t161 x65_2).f3) + ((selB [(⟨#[32]⟩ : ByteArray), (⟨#[10]⟩ : ByteArray), (⟨#[37, 32, 120, 32, 46, 32, 39, 32, 121, 10]⟩ : ByteArray), (⟨#[47, 42, 32, 97, 10, 32, 39, 42, 47]⟩ : ByteArray), (⟨#[47, 42, 42, 47, 9]⟩ : ByteArray)] (ji4)).size : Int))))).trans hx173_1; replace hx173_2 := (cell_far (p := ⟨gb172, 3, none⟩) (by first | (rw [add_block]; exact hn173_4) | (show (Addr.add _ _).block ≠ _; rw [add_block]; exact hn173_4) | exact hn173_4) (.int .i64 (wrap64 (((rd_T30 t161 x65_2).f3) + ((selB [(⟨#[32]⟩ : ByteArray), (⟨#[10]⟩ : ByteArray), (⟨#[37, 32, 120, 32, 46, 32, 39, 32, 121, 10]⟩ : ByteArray), (⟨#[47, 42, 32, 97, 10, 32, 39, 42, 47]⟩ : ByteArray), (⟨#[47, 42, 42, 47, 9]⟩ : ByteArray)] (ji4)).size : Int))))).trans hx173_2; replace hx173_3 := (cell_far (p := ⟨gb172, 3, none⟩) (by first | (rw [add_block]; exact hn173_4) | (show (Addr.add _ _).block ≠ _; rw [add_block]; exact hn173_4) | exact hn173_4) (.int .i64 (wrap64 (((rd_T30 t161 x65_2).f3) + ((selB [(⟨#[32]⟩ : ByteArray), (⟨#[10]⟩ : ByteArray), (⟨#[37, 32, 120, 32, 46, 32, 39, 32, 121, 10]⟩ : ByteArray), (⟨#[47, 42, 32, 97, 10, 32, 39, 42, 47]⟩ : ByteArray), (⟨#[47, 42, 42, 47, 9]⟩ : ByteArray)] (ji4)).size : Int))))).trans hx173_3; (try have hy173_0 := fun (n_ : Nat) => (show (((((((w33.drewN n_).setCell ⟨gb172, 0, none⟩ (.int .i64 ((rd_T30 t161 x65_2).f0))).setCell ⟨gb172, 1, none⟩ (.string ((rd_T30 t161 x65_2).f1))).setCell ⟨gb172, 2, none⟩ (.int .i64 ((rd_T30 t161 x65_2).f2))).setCell ⟨gb172, 3, none⟩ (.int .i64 ((rd_T30 t161 x65_2).f3))).setCell ⟨gb172, 3, none⟩ (.int .i64 (wrap64 (((rd_T30 t161 x65_2).f3) + ((selB [(⟨#[32]⟩ : ByteArray), (⟨#[10]⟩ : ByteArray), (⟨#[37, 32, 120, 32, 46, 32, 39, 32, 121, 10]⟩ : ByteArray), (⟨#[47, 42, 32, 97, 10, 32, 39, 42, 47]⟩ : ByteArray), (⟨#[47, 42, 42, 47, 9]⟩ : ByteArray)] (ji4)).size : Int)))))).cell? _ = some _ from hx173_0)); (try have hy173_1 := fun (n_ : Nat) => (show (((((((w33.drewN n_).setCell ⟨gb172, 0, none⟩ (.int .i64 ((rd_T30 t161 x65_2).f0))).setCell ⟨gb172, 1, none⟩ (.string ((rd_T30 t161 x65_2).f1))).setCell ⟨gb172, 2, none⟩ (.int .i64 ((rd_T30 t161 x65_2).f2))).setCell ⟨gb172, 3, none⟩ (.int .i64 ((rd_T30 t161 x65_2).f3))).setCell ⟨gb172, 3, none⟩ (.int .i64 (wrap64 (((rd_T30 t161 x65_2).f3) + ((selB [(⟨#[32]⟩ : ByteArray), (⟨#[10]⟩ : ByteArray), (⟨#[37, 32, 120, 32, 46, 32, 39, 32, 121, 10]⟩ : ByteArray), (⟨#[47, 42, 32, 97, 10, 32, 39, 42, 47]⟩ : ByteArray), (⟨#[47, 42, 42, 47, 9]⟩ : ByteArray)] (ji4)).size : Int)))))).cell? _ = some _ from hx173_1)); (try have hy173_2 := fun (n_ : Nat) => (show (((((((w33.drewN n_).setCell ⟨gb172, 0, none⟩ (.int .i64 ((rd_T30 t161 x65_2).f0))).setCell ⟨gb172, 1, none⟩ (.string ((rd_T30 t161 x65_2).f1))).setCell ⟨gb172, 2, none⟩ (.int .i64 ((rd_T30 t161 x65_2).f2))).setCell ⟨gb172, 3, none⟩ (.int .i64 ((rd_T30 t161 x65_2).f3))).setCell ⟨gb172, 3, none⟩ (.int .i64 (wrap64 (((rd_T30 t161 x65_2).f3) + ((selB [(⟨#[32]⟩ : ByteArray), (⟨#[10]⟩ : ByteArray), (⟨#[37, 32, 120, 32, 46, 32, 39, 32, 121, 10]⟩ : ByteArray), (⟨#[47, 42, 32, 97, 10, 32, 39, 42, 47]⟩ : ByteArray), (⟨#[47, 42, 42, 47, 9]⟩ : ByteArray)] (ji4)).size : Int)))))).cell? _ = some _ from hx173_2)); (try have hy173_3 := fun (n_ : Nat) => (show (((((((w33.drewN n_).setCell ⟨gb172, 0, none⟩ (.int .i64 ((rd_T30 t161 x65_2).f0))).setCell ⟨gb172, 1, none⟩ (.string ((rd_T30 t161 x65_2).f1))).setCell ⟨gb172, 2, none⟩ (.int .i64 ((rd_T30 t161 x65_2).f2))).setCell ⟨gb172, 3, none⟩ (.int .i64 ((rd_T30 t161 x65_2).f3))).setCell ⟨gb172, 3, none⟩ (.int .i64 (wrap64 (((rd_T30 t161 x65_2).f3) + ((selB [(⟨#[32]⟩ : ByteArray), (⟨#[10]⟩ : ByteArray), (⟨#[37, 32, 120, 32, 46, 32, 39, 32, 121, 10]⟩ : ByteArray), (⟨#[47, 42, 32, 97, 10, 32, 39, 42, 47]⟩ : ByteArray), (⟨#[47, 42, 42, 47, 9]⟩ : ByteArray)] (ji4)).size : Int)))))).cell? _ = some _ from hx173_3)); clear hn173_0; clear hn173_1; clear hn173_2; clear hn173_3; clear hn173_4; replace p173 := eq_true p173; replace q173 := eq_true q173))
                              repeat (go_quiet (first | ((with_reducible refine gate_dst (N := 14) rfl ?_); (try (refine gate_guard (by rfl) ?_; dsimp only)); refine box_event ?hg (N := 14) ?hd (cs := #[.int .i64 0, .string (⟨#[]⟩ : ByteArray), .int .i64 0, .int .i64 0]) (t := 30) ?hr ?_; (case hd => rfl); (case hg => rfl); (case hr => first | (go_simp; done) | (go_simp; rfl)); intro gb172 hg w33 hbox hb; (try have NE172_HO_10 := Aside0.mk (box_ne (by (with_reducible repeat (first | apply Kd.R_alloc | apply Kd.R_drewN | apply Kd.R_drew)); exact HO_10.out) hg)); have n0_ := Aside0.mk (Kd.R_below (Kd.R_elderB (by (with_reducible repeat (first | apply Kd.R_alloc | apply Kd.R_drewN | apply Kd.R_drew)); exact HO_7.out) gb172 (Nat.le_of_eq hg.symm)) hb); have n1_ := Aside0.mk (Kd.R_below (Kd.R_elderB (by (with_reducible repeat (first | apply Kd.R_alloc | apply Kd.R_drewN | apply Kd.R_drew)); exact HO_10.out) gb172 (Nat.le_of_eq hg.symm)) hb); have n2_ := Aside0.mk (below_step (by repeat (first | (with_reducible first | exact HB.out | apply below_alloc | apply pw_below_drewN | apply below_drew1) | exact HB.out)) hb); have n3_ := Aside0.mk (hbox); have n4_ := Aside0.mk ((by rw [hg]; exact (below_size (by repeat (first | (with_reducible first | exact HB.out | apply below_alloc | apply pw_below_drewN | apply below_drew1) | exact HB.out))) : w.heap.size ≤ gb172)); have n5_ := Aside0.mk ((by rw [hg]; exact (below_size (by repeat (first | (with_reducible first | exact HB.out | apply below_alloc | apply pw_below_drewN | apply below_drew1) | exact HB.out))) : w.heap.size ≤ gb172)); clear HO_7; clear HO_10; clear HB; have HO_7 := n0_; have HO_10 := n1_; have HB := n2_; have BK172 := n3_; have GW172 := n4_; have GE172 := n5_; clear n0_ n1_ n2_ n3_ n4_ n5_; clear hb hbox hg; have hcz34_0 : w33.cell? ⟨gb172, 0, none⟩ = some (.int .i64 0) := (blk_cell BK172.out 0).trans rfl; have hcz34_1 : w33.cell? ⟨gb172, 1, none⟩ = some (.string (⟨#[]⟩ : ByteArray)) := (blk_cell BK172.out 1).trans rfl; have hcz34_2 : w33.cell? ⟨gb172, 2, none⟩ = some (.int .i64 0) := (blk_cell BK172.out 2).trans rfl; have hcz34_3 : w33.cell? ⟨gb172, 3, none⟩ = some (.int .i64 0) := (blk_cell BK172.out 3).trans rfl; have hfz34_0 := blk_frozen BK172.out 0; have hfz34_1 := blk_frozen BK172.out 1; have hfz34_2 := blk_frozen BK172.out 2; have hfz34_3 := blk_frozen BK172.out 3; obtain ⟨Ao35, co35, eo35⟩ := Kd.R_slice HO_10.out; subst eo35; have p173 : 0 ≤ (x65_2 : Int) := of_decide_eq_true (by first | (with_reducible assumption) | assumption); have q173 : x65_2 < (t166.length : Int) := of_decide_eq_true (by first | (with_reducible assumption) | assumption); obtain ⟨ad173, e173, hx173_0, hx173_1, hx173_2, hx173_3⟩ := at_T30 (Kd.R_reads' HO_10.out).2.2 x65_2 p173 q173; cases e173; have hn173_0 : ad173.block ≠ gb172 := Kd.own_blk ((show _ ≠ _ from by first | exact Kd.R_ne HO_10.out BK172.out (by decide) | exact NE172_HO_10.out)); have hn173_1 : ad173.block ≠ gb172 := Kd.own_blk ((show _ ≠ _ from by first | exact Kd.R_ne HO_10.out BK172.out (by decide) | exact NE172_HO_10.out)); have hn173_2 : ad173.block ≠ gb172 := Kd.own_blk ((show _ ≠ _ from by first | exact Kd.R_ne HO_10.out BK172.out (by decide) | exact NE172_HO_10.out)); have hn173_3 : ad173.block ≠ gb172 := Kd.own_blk ((show _ ≠ _ from by first | exact Kd.R_ne HO_10.out BK172.out (by decide) | exact NE172_HO_10.out)); have hn173_4 : ad173.block ≠ gb172 := Kd.own_blk ((show _ ≠ _ from by first | exact Kd.R_ne HO_10.out BK172.out (by decide) | exact NE172_HO_10.out)); replace hx173_0 := (cell_far (p := ⟨gb172, 0, none⟩) (by first | (rw [add_block]; exact hn173_0) | (show (Addr.add _ _).block ≠ _; rw [add_block]; exact hn173_0) | exact hn173_0) (.int .i64 ((rd_T30 t161 x65_2).f0))).trans hx173_0; replace hx173_1 := (cell_far (p := ⟨gb172, 0, none⟩) (by first | (rw [add_block]; exact hn173_0) | (show (Addr.add _ _).block ≠ _; rw [add_block]; exact hn173_0) | exact hn173_0) (.int .i64 ((rd_T30 t161 x65_2).f0))).trans hx173_1; replace hx173_2 := (cell_far (p := ⟨gb172, 0, none⟩) (by first | (rw [add_block]; exact hn173_0) | (show (Addr.add _ _).block ≠ _; rw [add_block]; exact hn173_0) | exact hn173_0) (.int .i64 ((rd_T30 t161 x65_2).f0))).trans hx173_2; replace hx173_3 := (cell_far (p := ⟨gb172, 0, none⟩) (by first | (rw [add_block]; exact hn173_0) | (show (Addr.add _ _).block ≠ _; rw [add_block]; exact hn173_0) | exact hn173_0) (.int .i64 ((rd_T30 t161 x65_2).f0))).trans hx173_3; replace hx173_0 := (cell_far (p := ⟨gb172, 1, none⟩) (by first | (rw [add_block]; exact hn173_1) | (show (Addr.add _ _).block ≠ _; rw [add_block]; exact hn173_1) | exact hn173_1) (.string ((rd_T30 t161 x65_2).f1))).trans hx173_0; replace hx173_1 := (cell_far (p := ⟨gb172, 1, none⟩) (by first | (rw [add_block]; exact hn173_1) | (show (Addr.add _ _).block ≠ _; rw [add_block]; exact hn173_1) | exact hn173_1) (.string ((rd_T30 t161 x65_2).f1))).trans hx173_1; replace hx173_2 := (cell_far (p := ⟨gb172, 1, none⟩) (by first | (rw [add_block]; exact hn173_1) | (show (Addr.add _ _).block ≠ _; rw [add_block]; exact hn173_1) | exact hn173_1) (.string ((rd_T30 t161 x65_2).f1))).trans hx173_2; replace hx173_3 := (cell_far (p := ⟨gb172, 1, none⟩) (by first | (rw [add_block]; exact hn173_1) | (show (Addr.add _ _).block ≠ _; rw [add_block]; exact hn173_1) | exact hn173_1) (.string ((rd_T30 t161 x65_2).f1))).trans hx173_3; replace hx173_0 := (cell_far (p := ⟨gb172, 2, none⟩) (by first | (rw [add_block]; exact hn173_2) | (show (Addr.add _ _).block ≠ _; rw [add_block]; exact hn173_2) | exact hn173_2) (.int .i64 ((rd_T30 t161 x65_2).f2))).trans hx173_0; replace hx173_1 := (cell_far (p := ⟨gb172, 2, none⟩) (by first | (rw [add_block]; exact hn173_2) | (show (Addr.add _ _).block ≠ _; rw [add_block]; exact hn173_2) | exact hn173_2) (.int .i64 ((rd_T30 t161 x65_2).f2))).trans hx173_1; replace hx173_2 := (cell_far (p := ⟨gb172, 2, none⟩) (by first | (rw [add_block]; exact hn173_2) | (show (Addr.add _ _).block ≠ _; rw [add_block]; exact hn173_2) | exact hn173_2) (.int .i64 ((rd_T30 t161 x65_2).f2))).trans hx173_2; replace hx173_3 := (cell_far (p := ⟨gb172, 2, none⟩) (by first | (rw [add_block]; exact hn173_2) | (show (Addr.add _ _).block ≠ _; rw [add_block]; exact hn173_2) | exact hn173_2) (.int .i64 ((rd_T30 t161 x65_2).f2))).trans hx173_3; replace hx173_0 := (cell_far (p := ⟨gb172, 3, none⟩) (by first | (rw [add_block]; exact hn173_3) | (show (Addr.add _ _).block ≠ _; rw [add_block]; exact hn173_3) | exact hn173_3) (.int .i64 ((rd_T30 t161 x65_2).f3))).trans hx173_0; replace hx173_1 := (cell_far (p := ⟨gb172, 3, none⟩) (by first | (rw [add_block]; exact hn173_3) | (show (Addr.add _ _).block ≠ _; rw [add_block]; exact hn173_3) | exact hn173_3) (.int .i64 ((rd_T30 t161 x65_2).f3))).trans hx173_1; replace hx173_2 := (cell_far (p := ⟨gb172, 3, none⟩) (by first | (rw [add_block]; exact hn173_3) | (show (Addr.add _ _).block ≠ _; rw [add_block]; exact hn173_3) | exact hn173_3) (.int .i64 ((rd_T30 t161 x65_2).f3))).trans hx173_2; replace hx173_3 := (cell_far (p := ⟨gb172, 3, none⟩) (by first | (rw [add_block]; exact hn173_3) | (show (Addr.add _ _).block ≠ _; rw [add_block]; exact hn173_3) | exact hn173_3) (.int .i64 ((rd_T30 t161 x65_2).f3))).trans hx173_3; replace hx173_0 := (cell_far (p := ⟨gb172, 3, none⟩) (by first | (rw [add_block]; exact hn173_4) | (show (Addr.add _ _).block ≠ _; rw [add_block]; exact hn173_4) | exact hn173_4) (.int .i64 (wrap64 (((rd_T30 t161 x65_2).f3) + ((selB [(⟨#[32]⟩ : ByteArray), (⟨#[10]⟩ : ByteArray), (⟨#[37, 32, 120, 32, 46, 32, 39, 32, 121, 10]⟩ : ByteArray), (⟨#[47, 42, 32, 97, 10, 32, 39, 42, 47]⟩ : ByteArray), (⟨#[47, 42, 42, 47, 9]⟩ : ByteArray)] (ji4)).size : Int))))).trans hx173_0; replace hx173_1 := (cell_far (p := ⟨gb172, 3, none⟩) (by first | (rw [add_block]; exact hn173_4) | (show (Addr.add _ _).block ≠ _; rw [add_block]; exact hn173_4) | exact hn173_4) (.int .i64 (wrap64 (((rd_T30 t161 x65_2).f3) + ((selB [(⟨#[32]⟩ : ByteArray), (⟨#[10]⟩ : ByteArray), (⟨#[37, 32, 120, 32, 46, 32, 39, 32, 121, 10]⟩ : ByteArray), (⟨#[47, 42, 32, 97, 10, 32, 39, 42, 47]⟩ : ByteArray), (⟨#[47, 42, 42, 47, 9]⟩ : ByteArray)] (ji4)).size : Int))))).trans hx173_1; replace hx173_2 := (cell_far (p := ⟨gb172, 3, none⟩) (by first | (rw [add_block]; exact hn173_4) | (show (Addr.add _ _).block ≠ _; rw [add_block]; exact hn173_4) | exact hn173_4) (.int .i64 (wrap64 (((rd_T30 t161 x65_2).f3) + ((selB [(⟨#[32]⟩ : ByteArray), (⟨#[10]⟩ : ByteArray), (⟨#[37, 32, 120, 32, 46, 32, 39, 32, 121, 10]⟩ : ByteArray), (⟨#[47, 42, 32, 97, 10, 32, 39, 42, 47]⟩ : ByteArray), (⟨#[47, 42, 42, 47, 9]⟩ : ByteArray)] (ji4)).size : Int))))).trans hx173_2; replace hx173_3 := (cell_far (p := ⟨gb172, 3, none⟩) (by first | (rw [add_block]; exact hn173_4) | (show (Addr.add _ _).block ≠ _; rw [add_block]; exact hn173_4) | exact hn173_4) (.int .i64 (wrap64 (((rd_T30 t161 x65_2).f3) + ((selB [(⟨#[32]⟩ : ByteArray), (⟨#[10]⟩ : ByteArray), (⟨#[37, 32, 120, 32, 46, 32, 39, 32, 121, 10]⟩ : ByteArray), (⟨#[47, 42, 32, 97, 10, 32, 39, 42, 47]⟩ : ByteArray), (⟨#[47, 42, 42, 47, 9]⟩ : ByteArray)] (ji4)).size : Int))))).trans hx173_3; (try have hy173_0 := fun (n_ : Nat) => (show (((((((w33.drewN n_).setCell ⟨gb172, 0, none⟩ (.int .i64 ((rd_T30 t161 x65_2).f0))).setCell ⟨gb172, 1, none⟩ (.string ((rd_T30 t161 x65_2).f1))).setCell ⟨gb172, 2, none⟩ (.int .i64 ((rd_T30 t161 x65_2).f2))).setCell ⟨gb172, 3, none⟩ (.int .i64 ((rd_T30 t161 x65_2).f3))).setCell ⟨gb172, 3, none⟩ (.int .i64 (wrap64 (((rd_T30 t161 x65_2).f3) + ((selB [(⟨#[32]⟩ : ByteArray), (⟨#[10]⟩ : ByteArray), (⟨#[37, 32, 120, 32, 46, 32, 39, 32, 121, 10]⟩ : ByteArray), (⟨#[47, 42, 32, 97, 10, 32, 39, 42, 47]⟩ : ByteArray), (⟨#[47, 42, 42, 47, 9]⟩ : ByteArray)] (ji4)).size : Int)))))).cell? _ = some _ from hx173_0)); (try have hy173_1 := fun (n_ : Nat) => (show (((((((w33.drewN n_).setCell ⟨gb172, 0, none⟩ (.int .i64 ((rd_T30 t161 x65_2).f0))).setCell ⟨gb172, 1, none⟩ (.string ((rd_T30 t161 x65_2).f1))).setCell ⟨gb172, 2, none⟩ (.int .i64 ((rd_T30 t161 x65_2).f2))).setCell ⟨gb172, 3, none⟩ (.int .i64 ((rd_T30 t161 x65_2).f3))).setCell ⟨gb172, 3, none⟩ (.int .i64 (wrap64 (((rd_T30 t161 x65_2).f3) + ((selB [(⟨#[32]⟩ : ByteArray), (⟨#[10]⟩ : ByteArray), (⟨#[37, 32, 120, 32, 46, 32, 39, 32, 121, 10]⟩ : ByteArray), (⟨#[47, 42, 32, 97, 10, 32, 39, 42, 47]⟩ : ByteArray), (⟨#[47, 42, 42, 47, 9]⟩ : ByteArray)] (ji4)).size : Int)))))).cell? _ = some _ from hx173_1)); (try have hy173_2 := fun (n_ : Nat) => (show (((((((w33.drewN n_).setCell ⟨gb172, 0, none⟩ (.int .i64 ((rd_T30 t161 x65_2).f0))).setCell ⟨gb172, 1, none⟩ (.string ((rd_T30 t161 x65_2).f1))).setCell ⟨gb172, 2, none⟩ (.int .i64 ((rd_T30 t161 x65_2).f2))).setCell ⟨gb172, 3, none⟩ (.int .i64 ((rd_T30 t161 x65_2).f3))).setCell ⟨gb172, 3, none⟩ (.int .i64 (wrap64 (((rd_T30 t161 x65_2).f3) + ((selB [(⟨#[32]⟩ : ByteArray), (⟨#[10]⟩ : ByteArray), (⟨#[37, 32, 120, 32, 46, 32, 39, 32, 121, 10]⟩ : ByteArray), (⟨#[47, 42, 32, 97, 10, 32, 39, 42, 47]⟩ : ByteArray), (⟨#[47, 42, 42, 47, 9]⟩ : ByteArray)] (ji4)).size : Int)))))).cell? _ = some _ from hx173_2)); (try have hy173_3 := fun (n_ : Nat) => (show (((((((w33.drewN n_).setCell ⟨gb172, 0, none⟩ (.int .i64 ((rd_T30 t161 x65_2).f0))).setCell ⟨gb172, 1, none⟩ (.string ((rd_T30 t161 x65_2).f1))).setCell ⟨gb172, 2, none⟩ (.int .i64 ((rd_T30 t161 x65_2).f2))).setCell ⟨gb172, 3, none⟩ (.int .i64 ((rd_T30 t161 x65_2).f3))).setCell ⟨gb172, 3, none⟩ (.int .i64 (wrap64 (((rd_T30 t161 x65_2).f3) + ((selB [(⟨#[32]⟩ : ByteArray), (⟨#[10]⟩ : ByteArray), (⟨#[37, 32, 120, 32, 46, 32, 39, 32, 121, 10]⟩ : ByteArray), (⟨#[47, 42, 32, 97, 10, 32, 39, 42, 47]⟩ : ByteArray), (⟨#[47, 42, 42, 47, 9]⟩ : ByteArray)] (ji4)).size : Int)))))).cell? _ = some _ from hx173_3)); clear hn173_0; clear hn173_1; clear hn173_2; clear hn173_3; clear hn173_4; replace p173 := eq_true p173; replace q173 := eq_true q173)); try go_wp2_with (first | ((with_reducible refine gate_dst (N := 14) rfl ?_); (try (refine gate_guard (by rfl) ?_; dsimp only)); refine box_event ?hg (N := 14) ?hd (cs := #[.int .i64 0, .string (⟨#[]⟩ : ByteArray), .int .i64 0, .int .i64 0]) (t := 30) ?hr ?_; (case hd => rfl); (case hg => rfl); (case hr => first | (go_simp; done) | (go_simp; rfl)); intro gb172 hg w33 hbox hb; (try have NE172_HO_10 := Aside0.mk (box_ne (by (with_reducible repeat (first | apply Kd.R_alloc | apply Kd.R_drewN | apply Kd.R_drew)); exact HO_10.out) hg)); have n0_ := Aside0.mk (Kd.R_below (Kd.R_elderB (by (with_reducible repeat (first | apply Kd.R_alloc | apply Kd.R_drewN | apply Kd.R_drew)); exact HO_7.out) gb172 (Nat.le_of_eq hg.symm)) hb); have n1_ := Aside0.mk (Kd.R_below (Kd.R_elderB (by (with_reducible repeat (first | apply Kd.R_alloc | apply Kd.R_drewN | apply Kd.R_drew)); exact HO_10.out) gb172 (Nat.le_of_eq hg.symm)) hb); have n2_ := Aside0.mk (below_step (by repeat (first | (with_reducible first | exact HB.out | apply below_alloc | apply pw_below_drewN | apply below_drew1) | exact HB.out)) hb); have n3_ := Aside0.mk (hbox); have n4_ := Aside0.mk ((by rw [hg]; exact (below_size (by repeat (first | (with_reducible first | exact HB.out | apply below_alloc | apply pw_below_drewN | apply below_drew1) | exact HB.out))) : w.heap.size ≤ gb172)); have n5_ := Aside0.mk ((by rw [hg]; exact (below_size (by repeat (first | (with_reducible first | exact HB.out | apply below_alloc | apply pw_below_drewN | apply below_drew1) | exact HB.out))) : w.heap.size ≤ gb172)); clear HO_7; clear HO_10; clear HB; have HO_7 := n0_; have HO_10 := n1_; have HB := n2_; have BK172 := n3_; have GW172 := n4_; have GE172 := n5_; clear n0_ n1_ n2_ n3_ n4_ n5_; clear hb hbox hg; have hcz34_0 : w33.cell? ⟨gb172, 0, none⟩ = some (.int .i64 0) := (blk_cell BK172.out 0).trans rfl; have hcz34_1 : w33.cell? ⟨gb172, 1, none⟩ = some (.string (⟨#[]⟩ : ByteArray)) := (blk_cell BK172.out 1).trans rfl; have hcz34_2 : w33.cell? ⟨gb172, 2, none⟩ = some (.int .i64 0) := (blk_cell BK172.out 2).trans rfl; have hcz34_3 : w33.cell? ⟨gb172, 3, none⟩ = some (.int .i64 0) := (blk_cell BK172.out 3).trans rfl; have hfz34_0 := blk_frozen BK172.out 0; have hfz34_1 := blk_frozen BK172.out 1; have hfz34_2 := blk_frozen BK172.out 2; have hfz34_3 := blk_frozen BK172.out 3; obtain ⟨Ao35, co35, eo35⟩ := Kd.R_slice HO_10.out; subst eo35; have p173 : 0 ≤ (x65_2 : Int) := of_decide_eq_true (by first | (with_reducible assumption) | assumption); have q173 : x65_2 < (t166.length : Int) := of_decide_eq_true (by first | (with_reducible assumption) | assumption); obtain ⟨ad173, e173, hx173_0, hx173_1, hx173_2, hx173_3⟩ := at_T30 (Kd.R_reads' HO_10.out).2.2 x65_2 p173 q173; cases e173; have hn173_0 : ad173.block ≠ gb172 := Kd.own_blk ((show _ ≠ _ from by first | exact Kd.R_ne HO_10.out BK172.out (by decide) | exact NE172_HO_10.out)); have hn173_1 : ad173.block ≠ gb172 := Kd.own_blk ((show _ ≠ _ from by first | exact Kd.R_ne HO_10.out BK172.out (by decide) | exact NE172_HO_10.out)); have hn173_2 : ad173.block ≠ gb172 := Kd.own_blk ((show _ ≠ _ from by first | exact Kd.R_ne HO_10.out BK172.out (by decide) | exact NE172_HO_10.out)); have hn173_3 : ad173.block ≠ gb172 := Kd.own_blk ((show _ ≠ _ from by first | exact Kd.R_ne HO_10.out BK172.out (by decide) | exact NE172_HO_10.out)); have hn173_4 : ad173.block ≠ gb172 := Kd.own_blk ((show _ ≠ _ from by first | exact Kd.R_ne HO_10.out BK172.out (by decide) | exact NE172_HO_10.out)); replace hx173_0 := (cell_far (p := ⟨gb172, 0, none⟩) (by first | (rw [add_block]; exact hn173_0) | (show (Addr.add _ _).block ≠ _; rw [add_block]; exact hn173_0) | exact hn173_0) (.int .i64 ((rd_T30 t161 x65_2).f0))).trans hx173_0; replace hx173_1 := (cell_far (p := ⟨gb172, 0, none⟩) (by first | (rw [add_block]; exact hn173_0) | (show (Addr.add _ _).block ≠ _; rw [add_block]; exact hn173_0) | exact hn173_0) (.int .i64 ((rd_T30 t161 x65_2).f0))).trans hx173_1; replace hx173_2 := (cell_far (p := ⟨gb172, 0, none⟩) (by first | (rw [add_block]; exact hn173_0) | (show (Addr.add _ _).block ≠ _; rw [add_block]; exact hn173_0) | exact hn173_0) (.int .i64 ((rd_T30 t161 x65_2).f0))).trans hx173_2; replace hx173_3 := (cell_far (p := ⟨gb172, 0, none⟩) (by first | (rw [add_block]; exact hn173_0) | (show (Addr.add _ _).block ≠ _; rw [add_block]; exact hn173_0) | exact hn173_0) (.int .i64 ((rd_T30 t161 x65_2).f0))).trans hx173_3; replace hx173_0 := (cell_far (p := ⟨gb172, 1, none⟩) (by first | (rw [add_block]; exact hn173_1) | (show (Addr.add _ _).block ≠ _; rw [add_block]; exact hn173_1) | exact hn173_1) (.string ((rd_T30 t161 x65_2).f1))).trans hx173_0; replace hx173_1 := (cell_far (p := ⟨gb172, 1, none⟩) (by first | (rw [add_block]; exact hn173_1) | (show (Addr.add _ _).block ≠ _; rw [add_block]; exact hn173_1) | exact hn173_1) (.string ((rd_T30 t161 x65_2).f1))).trans hx173_1; replace hx173_2 := (cell_far (p := ⟨gb172, 1, none⟩) (by first | (rw [add_block]; exact hn173_1) | (show (Addr.add _ _).block ≠ _; rw [add_block]; exact hn173_1) | exact hn173_1) (.string ((rd_T30 t161 x65_2).f1))).trans hx173_2; replace hx173_3 := (cell_far (p := ⟨gb172, 1, none⟩) (by first | (rw [add_block]; exact hn173_1) | (show (Addr.add _ _).block ≠ _; rw [add_block]; exact hn173_1) | exact hn173_1) (.string ((rd_T30 t161 x65_2).f1))).trans hx173_3; replace hx173_0 := (cell_far (p := ⟨gb172, 2, none⟩) (by first | (rw [add_block]; exact hn173_2) | (show (Addr.add _ _).block ≠ _; rw [add_block]; exact hn173_2) | exact hn173_2) (.int .i64 ((rd_T30 t161 x65_2).f2))).trans hx173_0; replace hx173_1 := (cell_far (p := ⟨gb172, 2, none⟩) (by first | (rw [add_block]; exact hn173_2) | (show (Addr.add _ _).block ≠ _; rw [add_block]; exact hn173_2) | exact hn173_2) (.int .i64 ((rd_T30 t161 x65_2).f2))).trans hx173_1; replace hx173_2 := (cell_far (p := ⟨gb172, 2, none⟩) (by first | (rw [add_block]; exact hn173_2) | (show (Addr.add _ _).block ≠ _; rw [add_block]; exact hn173_2) | exact hn173_2) (.int .i64 ((rd_T30 t161 x65_2).f2))).trans hx173_2; replace hx173_3 := (cell_far (p := ⟨gb172, 2, none⟩) (by first | (rw [add_block]; exact hn173_2) | (show (Addr.add _ _).block ≠ _; rw [add_block]; exact hn173_2) | exact hn173_2) (.int .i64 ((rd_T30 t161 x65_2).f2))).trans hx173_3; replace hx173_0 := (cell_far (p := ⟨gb172, 3, none⟩) (by first | (rw [add_block]; exact hn173_3) | (show (Addr.add _ _).block ≠ _; rw [add_block]; exact hn173_3) | exact hn173_3) (.int .i64 ((rd_T30 t161 x65_2).f3))).trans hx173_0; replace hx173_1 := (cell_far (p := ⟨gb172, 3, none⟩) (by first | (rw [add_block]; exact hn173_3) | (show (Addr.add _ _).block ≠ _; rw [add_block]; exact hn173_3) | exact hn173_3) (.int .i64 ((rd_T30 t161 x65_2).f3))).trans hx173_1; replace hx173_2 := (cell_far (p := ⟨gb172, 3, none⟩) (by first | (rw [add_block]; exact hn173_3) | (show (Addr.add _ _).block ≠ _; rw [add_block]; exact hn173_3) | exact hn173_3) (.int .i64 ((rd_T30 t161 x65_2).f3))).trans hx173_2; replace hx173_3 := (cell_far (p := ⟨gb172, 3, none⟩) (by first | (rw [add_block]; exact hn173_3) | (show (Addr.add _ _).block ≠ _; rw [add_block]; exact hn173_3) | exact hn173_3) (.int .i64 ((rd_T30 t161 x65_2).f3))).trans hx173_3; replace hx173_0 := (cell_far (p := ⟨gb172, 3, none⟩) (by first | (rw [add_block]; exact hn173_4) | (show (Addr.add _ _).block ≠ _; rw [add_block]; exact hn173_4) | exact hn173_4) (.int .i64 (wrap64 (((rd_T30 t161 x65_2).f3) + ((selB [(⟨#[32]⟩ : ByteArray), (⟨#[10]⟩ : ByteArray), (⟨#[37, 32, 120, 32, 46, 32, 39, 32, 121, 10]⟩ : ByteArray), (⟨#[47, 42, 32, 97, 10, 32, 39, 42, 47]⟩ : ByteArray), (⟨#[47, 42, 42, 47, 9]⟩ : ByteArray)] (ji4)).size : Int))))).trans hx173_0; replace hx173_1 := (cell_far (p := ⟨gb172, 3, none⟩) (by first | (rw [add_block]; exact hn173_4) | (show (Addr.add _ _).block ≠ _; rw [add_block]; exact hn173_4) | exact hn173_4) (.int .i64 (wrap64 (((rd_T30 t161 x65_2).f3) + ((selB [(⟨#[32]⟩ : ByteArray), (⟨#[10]⟩ : ByteArray), (⟨#[37, 32, 120, 32, 46, 32, 39, 32, 121, 10]⟩ : ByteArray), (⟨#[47, 42, 32, 97, 10, 32, 39, 42, 47]⟩ : ByteArray), (⟨#[47, 42, 42, 47, 9]⟩ : ByteArray)] (ji4)).size : Int))))).trans hx173_1; replace hx173_2 := (cell_far (p := ⟨gb172, 3, none⟩) (by first | (rw [add_block]; exact hn173_4) | (show (Addr.add _ _).block ≠ _; rw [add_block]; exact hn173_4) | exact hn173_4) (.int .i64 (wrap64 (((rd_T30 t161 x65_2).f3) + ((selB [(⟨#[32]⟩ : ByteArray), (⟨#[10]⟩ : ByteArray), (⟨#[37, 32, 120, 32, 46, 32, 39, 32, 121, 10]⟩ : ByteArray), (⟨#[47, 42, 32, 97, 10, 32, 39, 42, 47]⟩ : ByteArray), (⟨#[47, 42, 42, 47, 9]⟩ : ByteArray)] (ji4)).size : Int))))).trans hx173_2; replace hx173_3 := (cell_far (p := ⟨gb172, 3, none⟩) (by first | (rw [add_block]; exact hn173_4) | (show (Addr.add _ _).block ≠ _; rw [add_block]; exact hn173_4) | exact hn173_4) (.int .i64 (wrap64 (((rd_T30 t161 x65_2).f3) + ((selB [(⟨#[32]⟩ : ByteArray), (⟨#[10]⟩ : ByteArray), (⟨#[37, 32, 120, 32, 46, 32, 39, 32, 121, 10]⟩ : ByteArray), (⟨#[47, 42, 32, 97, 10, 32, 39, 42, 47]⟩ : ByteArray), (⟨#[47, 42, 42, 47, 9]⟩ : ByteArray)] (ji4)).size : Int))))).trans hx173_3; (try have hy173_0 := fun (n_ : Nat) => (show (((((((w33.drewN n_).setCell ⟨gb172, 0, none⟩ (.int .i64 ((rd_T30 t161 x65_2).f0))).setCell ⟨gb172, 1, none⟩ (.string ((rd_T30 t161 x65_2).f1))).setCell ⟨gb172, 2, none⟩ (.int .i64 ((rd_T30 t161 x65_2).f2))).setCell ⟨gb172, 3, none⟩ (.int .i64 ((rd_T30 t161 x65_2).f3))).setCell ⟨gb172, 3, none⟩ (.int .i64 (wrap64 (((rd_T30 t161 x65_2).f3) + ((selB [(⟨#[32]⟩ : ByteArray), (⟨#[10]⟩ : ByteArray), (⟨#[37, 32, 120, 32, 46, 32, 39, 32, 121, 10]⟩ : ByteArray), (⟨#[47, 42, 32, 97, 10, 32, 39, 42, 47]⟩ : ByteArray), (⟨#[47, 42, 42, 47, 9]⟩ : ByteArray)] (ji4)).size : Int)))))).cell? _ = some _ from hx173_0)); (try have hy173_1 := fun (n_ : Nat) => (show (((((((w33.drewN n_).setCell ⟨gb172, 0, none⟩ (.int .i64 ((rd_T30 t161 x65_2).f0))).setCell ⟨gb172, 1, none⟩ (.string ((rd_T30 t161 x65_2).f1))).setCell ⟨gb172, 2, none⟩ (.int .i64 ((rd_T30 t161 x65_2).f2))).setCell ⟨gb172, 3, none⟩ (.int .i64 ((rd_T30 t161 x65_2).f3))).setCell ⟨gb172, 3, none⟩ (.int .i64 (wrap64 (((rd_T30 t161 x65_2).f3) + ((selB [(⟨#[32]⟩ : ByteArray), (⟨#[10]⟩ : ByteArray), (⟨#[37, 32, 120, 32, 46, 32, 39, 32, 121, 10]⟩ : ByteArray), (⟨#[47, 42, 32, 97, 10, 32, 39, 42, 47]⟩ : ByteArray), (⟨#[47, 42, 42, 47, 9]⟩ : ByteArray)] (ji4)).size : Int)))))).cell? _ = some _ from hx173_1)); (try have hy173_2 := fun (n_ : Nat) => (show (((((((w33.drewN n_).setCell ⟨gb172, 0, none⟩ (.int .i64 ((rd_T30 t161 x65_2).f0))).setCell ⟨gb172, 1, none⟩ (.string ((rd_T30 t161 x65_2).f1))).setCell ⟨gb172, 2, none⟩ (.int .i64 ((rd_T30 t161 x65_2).f2))).setCell ⟨gb172, 3, none⟩ (.int .i64 ((rd_T30 t161 x65_2).f3))).setCell ⟨gb172, 3, none⟩ (.int .i64 (wrap64 (((rd_T30 t161 x65_2).f3) + ((selB [(⟨#[32]⟩ : ByteArray), (⟨#[10]⟩ : ByteArray), (⟨#[37, 32, 120, 32, 46, 32, 39, 32, 121, 10]⟩ : ByteArray), (⟨#[47, 42, 32, 97, 10, 32, 39, 42, 47]⟩ : ByteArray), (⟨#[47, 42, 42, 47, 9]⟩ : ByteArray)] (ji4)).size : Int)))))).cell? _ = some _ from hx173_2)); (try have hy173_3 := fun (n_ : Nat) => (show (((((((w33.drewN n_).setCell ⟨gb172, 0, none⟩ (.int .i64 ((rd_T30 t161 x65_2).f0))).setCell ⟨gb172, 1, none⟩ (.string ((rd_T30 t161 x65_2).f1))).setCell ⟨gb172, 2, none⟩ (.int .i64 ((rd_T30 t161 x65_2).f2))).setCell ⟨gb172, 3, none⟩ (.int .i64 ((rd_T30 t161 x65_2).f3))).setCell ⟨gb172, 3, none⟩ (.int .i64 (wrap64 (((rd_T30 t161 x65_2).f3) + ((selB [(⟨#[32]⟩ : ByteArray), (⟨#[10]⟩ : ByteArray), (⟨#[37, 32, 120, 32, 46, 32, 39, 32, 121, 10]⟩ : ByteArray), (⟨#[47, 42, 32, 97, 10, 32, 39, 42, 47]⟩ : ByteArray), (⟨#[47, 42, 42, 47, 9]⟩ : ByteArray)] (ji4)).size : Int)))))).cell? _ = some _ from hx173_3)); clear hn173_0; clear hn173_1; clear hn173_2; clear hn173_3; clear hn173_4; replace p173 := eq_true p173; replace q173 := eq_true q173)))
                              go_roundg k2
                              case measure => have := HJ12.out; have := HK2.out; omega
                              case rel => exact ⟨(wrap64 (x65_2 + 1)), (by first | rfl | (simp; done) | (simp [*]; done)), H', ⟨by have := HJ12.out; have := HK2.out; omega⟩, ⟨by (with_reducible repeat (first | apply Kd.R_alloc | apply Kd.R_drewN | apply Kd.R_drew)); exact Kd.R_mono (Kd.R_far (p := ⟨gb172, 3, none⟩) (Kd.R_far (p := ⟨gb172, 3, none⟩) (Kd.R_far (p := ⟨gb172, 2, none⟩) (Kd.R_far (p := ⟨gb172, 1, none⟩) (Kd.R_far (p := ⟨gb172, 0, none⟩) (Kd.R_mono HO_7.out (fun k_ hk => (⟨hk, hk.2⟩ : _ ∧ k_ ≠ gb172))) (fun _ hk => hk.2) (.int .i64 ((rd_T30 t161 x65_2).f0))) (fun _ hk => hk.2) (.string ((rd_T30 t161 x65_2).f1))) (fun _ hk => hk.2) (.int .i64 ((rd_T30 t161 x65_2).f2))) (fun _ hk => hk.2) (.int .i64 ((rd_T30 t161 x65_2).f3))) (fun _ hk => hk.2) (.int .i64 (wrap64 (((rd_T30 t161 x65_2).f3) + ((selB [(⟨#[32]⟩ : ByteArray), (⟨#[10]⟩ : ByteArray), (⟨#[37, 32, 120, 32, 46, 32, 39, 32, 121, 10]⟩ : ByteArray), (⟨#[47, 42, 32, 97, 10, 32, 39, 42, 47]⟩ : ByteArray), (⟨#[47, 42, 42, 47, 9]⟩ : ByteArray)] (ji4)).size : Int))))) (fun _ hk => hk.1.1)⟩, ⟨by (with_reducible repeat (first | apply Kd.R_alloc | apply Kd.R_drewN | apply Kd.R_drew)); exact Kd.R_mono (Kd.R_far (p := ⟨gb172, 3, none⟩) (Kd.R_far (p := ⟨gb172, 3, none⟩) (Kd.R_far (p := ⟨gb172, 2, none⟩) (Kd.R_far (p := ⟨gb172, 1, none⟩) (Kd.R_far (p := ⟨gb172, 0, none⟩) (Kd.R_mono HO_10.out (fun k_ hk => (⟨hk, hk.2⟩ : _ ∧ k_ ≠ gb172))) (fun _ hk => hk.2) (.int .i64 ((rd_T30 t161 x65_2).f0))) (fun _ hk => hk.2) (.string ((rd_T30 t161 x65_2).f1))) (fun _ hk => hk.2) (.int .i64 ((rd_T30 t161 x65_2).f2))) (fun _ hk => hk.2) (.int .i64 ((rd_T30 t161 x65_2).f3))) (fun _ hk => hk.2) (.int .i64 (wrap64 (((rd_T30 t161 x65_2).f3) + ((selB [(⟨#[32]⟩ : ByteArray), (⟨#[10]⟩ : ByteArray), (⟨#[37, 32, 120, 32, 46, 32, 39, 32, 121, 10]⟩ : ByteArray), (⟨#[47, 42, 32, 97, 10, 32, 39, 42, 47]⟩ : ByteArray), (⟨#[47, 42, 42, 47, 9]⟩ : ByteArray)] (ji4)).size : Int))))) (fun _ hk => hk.1.1)⟩, ⟨by repeat (first | (with_reducible first | exact HB.out | apply below_alloc | apply pw_below_drewN | apply below_drew1 | refine below_set ?_ GE172.out) | exact HB.out)⟩⟩
                          · rw [if_neg c31] at H
                            exact absurd H (by simp)
                        · rw [if_neg c30] at H
                          exact absurd H (by simp)
                      · rw [if_neg c29] at H
                        exact absurd H (by simp)
                    · rw [if_neg c28] at H
                      have c28b0 : decide (x65_2 < (t161.length : Int)) = false := decide_eq_false c28
                      clear c28
                      obtain rfl := Option.some.inj H
                      go_wp2
                      repeat (go_quiet (fail); try go_wp2)
                      go_ret
                      exact ⟨by first | rfl | (simp [errW_none, errW_some] <;> rfl) | (simp only [← hji4]; first | rfl | (simp [errW_none, errW_some] <;> rfl)) | (simp [*, errW_none, errW_some] <;> rfl), by repeat (first | (with_reducible first | exact HB.out | apply below_alloc | apply pw_below_drewN | apply below_drew1) | exact HB.out)⟩
        · rw [if_neg c11] at H
          exact absurd H (by simp)
    · rw [if_neg c6] at H
      exact absurd H (by simp)
  · rw [if_neg c5] at H
    exact absurd H (by simp)

/-- THE ONE PURE STATEMENT of spinneylaw05_TokenBlanks: yours. -/
def spinneylaw05_TokenBlanks.Pure : Prop := ∀ (a0 : ByteArray) (a1 : Int), a0.size ≤ 140737488351232 → (Lit.int .i64 a1).wf = true → ∃ k, spinneylaw05_TokenBlanks.f k a0 a1 = some true
theorem spinneylaw05_TokenBlanks.walk (P : spinneylaw05_TokenBlanks.Pure) (a0 : ByteArray) (a1 : Int) (w : World) (w0 : a0.size ≤ 140737488351232) (w1 : (Lit.int .i64 a1).wf = true) (hT : Tabs w) :
    Calls Tryd.prog 5 #[.string a0, .int .i64 a1] w fun e w' => e = .returned (.bool true) ∧ Below w.heap.size w w' := by
  have HT := Aside0.mk hT
  clear hT
  obtain ⟨k, h⟩ := P a0 a1 w0 w1
  refine (spinneylaw05_TokenBlanks.calls k a0 a1 true w h (HT.out.below (by first | exact Below.refl _ _ | (repeat (first | (with_reducible first | exact HB.out | apply below_alloc | apply pw_below_drewN | apply below_drew1 | refine below_set ?_ GE172.out) | exact HB.out))))).mono ?_
  rintro e w' ⟨rfl, hd⟩
  exact ⟨rfl, hd⟩

/-! ### spinneyref05_Same: function 12 -/
def spinneyref05_Same.l0 : Nat → List (S30) → List (S30) → Int → Int → Option (Bool)
  | 0, _, _, _, _ => none
  | k + 1, x0, x1, x12, x13 => if x13 < x12 then (if 0 ≤ x13 then (if x13 < (x0.length : Int) then (if x13 < (x1.length : Int) then (if (!(((rd_T30 x0 x13).f0) == ((rd_T30 x1 x13).f0)) || (!((((rd_T30 x0 x13).f1).toList) == (((rd_T30 x1 x13).f1).toList)) || (!(((rd_T30 x0 x13).f2) == ((rd_T30 x1 x13).f2)) || (!(((rd_T30 x0 x13).f3) == ((rd_T30 x1 x13).f3)))))) = true then (some false) else (spinneyref05_Same.l0 k x0 x1 x12 (wrap64 (x13 + 1)))) else (none)) else (none)) else (none)) else (some true)
def spinneyref05_Same.f (k : Nat) (l0 : List (S30)) (l1 : List (S30)) : Option (Bool) := if (l0.length : Int) = (l1.length : Int) then (spinneyref05_Same.l0 k l0 l1 (l0.length : Int) 0) else (some false)
theorem spinneyref05_Same.mono_l : ∀ k, (∀ y0 y1 y2 y3, LeO (spinneyref05_Same.l0 k y0 y1 y2 y3) (spinneyref05_Same.l0 (k + 1) y0 y1 y2 y3))
  | 0 => fun _ _ _ _ r h => by simp [spinneyref05_Same.l0] at h
  | k + 1 => by
    have ih0 := spinneyref05_Same.mono_l k
    · intro y0 y1 y2 y3
      unfold spinneyref05_Same.l0
      repeat' first
      | (with_reducible exact ih0 _ _ _ _)
      | (with_reducible exact LeO.refl _)
      | (with_reducible exact LeO.none _)
      | (with_reducible refine LeO.ite ?_ ?_)
      | (with_reducible refine LeO.bind ?_ (fun _ => ?_))
      | exact ih0 _ _ _ _
      | exact LeO.none _
      | refine LeO.ite ?_ ?_
      | refine LeO.bind ?_ (fun _ => ?_)
theorem spinneyref05_Same.mono : ∀ a0 a1 k, LeO (spinneyref05_Same.f k a0 a1) (spinneyref05_Same.f (k + 1) a0 a1) := by
  intro a0 a1 k
  have ih0 := spinneyref05_Same.mono_l k
  unfold spinneyref05_Same.f
  repeat' first
      | (with_reducible exact ih0 _ _ _ _)
      | (with_reducible exact LeO.refl _)
      | (with_reducible exact LeO.none _)
      | (with_reducible refine LeO.ite ?_ ?_)
      | (with_reducible refine LeO.bind ?_ (fun _ => ?_))
      | exact ih0 _ _ _ _
      | exact LeO.none _
      | refine LeO.ite ?_ ?_
      | refine LeO.bind ?_ (fun _ => ?_)
set_option maxHeartbeats 8000000 in
set_option maxRecDepth 100000 in
theorem spinneyref05_Same.calls (k : Nat) (A0 : Option Addr) (c0 : Nat) (l0 : List (S30)) (A1 : Option Addr) (c1 : Nat) (l1 : List (S30)) (r : Bool) (w : World) (hr0 : Kd.C k30 w A0 l0.length l0) (hc0 : l0.length ≤ c0) (hr1 : Kd.C k30 w A1 l1.length l1) (hc1 : l1.length ≤ c1) (h : spinneyref05_Same.f k l0 l1 = some r) :
    Calls Tryd.prog 12 #[.slice A0 l0.length c0, .slice A1 l1.length c1] w fun e w' => e = .returned (.bool r) ∧ Drawn0 w w' := by
  have hu30 := Tryd.underlying30
  have HR0 := Aside0.mk hr0
  have HC0 := Aside0.mk hc0
  clear hr0 hc0
  have HR1 := Aside0.mk hr1
  have HC1 := Aside0.mk hc1
  clear hr1 hc1
  have H : (if (l0.length : Int) = (l1.length : Int) then (spinneyref05_Same.l0 k l0 l1 (l0.length : Int) 0) else (some false)) = some r := h
  clear h
  by_cases c3 : (l0.length : Int) = (l1.length : Int)
  · rw [if_pos c3] at H
    have c3b0 : ((l0.length : Int) == (l1.length : Int)) = true := beq_iff_eq.mpr c3
    have c3b1 : ((l0.length : Int) != (l1.length : Int)) = false := bne_eq_false_iff_eq.mpr c3
    have c3b2 : (l0.length == l1.length) = true := by first | simpa using c3 | (simp at c3 ⊢; omega)
    clear c3
    have H' := Aside0.mk H
    clear H
    go_enter Tryd.func12, Tryd.ntmps12
    go_wp2
    repeat (go_quiet (fail); try go_wp2)
    go_loopg [13] k (fun kq v13 w' => ∃ (x13_1 : Int), v13 = .int .i64 x13_1 ∧ Aside0 (spinneyref05_Same.l0 kq l0 l1 (l0.length : Int) x13_1 = some r) ∧ Aside0 (kq ≤ k) ∧ Drawn0 w w')
    case atStart => exact ⟨(0), (by first | rfl | (simp; done) | (simp [*]; done)), H', ⟨Nat.le_refl _⟩, by repeat (first | exact Drawn0.refl _ | apply Drawn0.step)⟩
    case round =>
      clear H'
      try clear c1
      try clear p2
      try clear c3
      try clear c3b0
      try clear c3b1
      try clear c3b2
      obtain ⟨x13_1, rfl, HA, HK1, ⟨m1, rfl⟩⟩ := hrel
      cases gk with
      | zero => exact absurd HA.out (by simp [spinneyref05_Same.l0])
      | succ k1 =>
        have H := HA.out
        clear HA
        simp only [spinneyref05_Same.l0] at H
        by_cases c4 : x13_1 < (l0.length : Int)
        · rw [if_pos c4] at H
          have c4b0 : decide (x13_1 < (l0.length : Int)) = true := decide_eq_true c4
          clear c4
          by_cases c5 : 0 ≤ x13_1
          · rw [if_pos c5] at H
            have c5b0 : decide (0 ≤ x13_1) = true := decide_eq_true c5
            clear c5
            by_cases c6 : x13_1 < (l0.length : Int)
            · rw [if_pos c6] at H
              have c6b0 : decide (x13_1 < (l0.length : Int)) = true := decide_eq_true c6
              clear c6
              by_cases c7 : x13_1 < (l1.length : Int)
              · rw [if_pos c7] at H
                have c7b0 : decide (x13_1 < (l1.length : Int)) = true := decide_eq_true c7
                clear c7
                by_cases c8 : (!(((rd_T30 l0 x13_1).f0) == ((rd_T30 l1 x13_1).f0)) || (!((((rd_T30 l0 x13_1).f1).toList) == (((rd_T30 l1 x13_1).f1).toList)) || (!(((rd_T30 l0 x13_1).f2) == ((rd_T30 l1 x13_1).f2)) || (!(((rd_T30 l0 x13_1).f3) == ((rd_T30 l1 x13_1).f3)))))) = true
                · rw [if_pos c8] at H
                  have c8b0 : (!(((rd_T30 l0 x13_1).f0) == ((rd_T30 l1 x13_1).f0)) || (!((((rd_T30 l0 x13_1).f1).toList) == (((rd_T30 l1 x13_1).f1).toList)) || (!(((rd_T30 l0 x13_1).f2) == ((rd_T30 l1 x13_1).f2)) || (!(((rd_T30 l0 x13_1).f3) == ((rd_T30 l1 x13_1).f3)))))) = true := c8
                  clear c8
                  obtain rfl := Option.some.inj H
                  have p174 : 0 ≤ (x13_1 : Int) := of_decide_eq_true (by first | (with_reducible assumption) | assumption)
                  have q174 : x13_1 < (l0.length : Int) := of_decide_eq_true (by first | (with_reducible assumption) | assumption)
                  obtain ⟨ad174, e174, hx174_0, hx174_1, hx174_2, hx174_3⟩ := at_T30 HR0.out x13_1 p174 q174
                  cases e174
                  replace p174 := eq_true p174
                  replace q174 := eq_true q174
                  have p175 : 0 ≤ (x13_1 : Int) := of_decide_eq_true (by first | (with_reducible assumption) | assumption)
                  have q175 : x13_1 < (l1.length : Int) := of_decide_eq_true (by first | (with_reducible assumption) | assumption)
                  obtain ⟨ad175, e175, hx175_0, hx175_1, hx175_2, hx175_3⟩ := at_T30 HR1.out x13_1 p175 q175
                  cases e175
                  replace p175 := eq_true p175
                  replace q175 := eq_true q175
                  go_wp2
                  repeat (go_quiet (fail); try go_wp2)
                  go_ret
                  exact ⟨by first | rfl | (simp; done) | (simp [*]; done), by repeat (first | exact Drawn0.refl _ | apply Drawn0.step)⟩
                · rw [if_neg c8] at H
                  have c8b0 : (!(((rd_T30 l0 x13_1).f0) == ((rd_T30 l1 x13_1).f0)) || (!((((rd_T30 l0 x13_1).f1).toList) == (((rd_T30 l1 x13_1).f1).toList)) || (!(((rd_T30 l0 x13_1).f2) == ((rd_T30 l1 x13_1).f2)) || (!(((rd_T30 l0 x13_1).f3) == ((rd_T30 l1 x13_1).f3)))))) = false := by simpa using c8
                  clear c8
                  have H' := Aside0.mk H
                  clear H
                  have p174 : 0 ≤ (x13_1 : Int) := of_decide_eq_true (by first | (with_reducible assumption) | assumption)
                  have q174 : x13_1 < (l0.length : Int) := of_decide_eq_true (by first | (with_reducible assumption) | assumption)
                  obtain ⟨ad174, e174, hx174_0, hx174_1, hx174_2, hx174_3⟩ := at_T30 HR0.out x13_1 p174 q174
                  cases e174
                  replace p174 := eq_true p174
                  replace q174 := eq_true q174
                  have p175 : 0 ≤ (x13_1 : Int) := of_decide_eq_true (by first | (with_reducible assumption) | assumption)
                  have q175 : x13_1 < (l1.length : Int) := of_decide_eq_true (by first | (with_reducible assumption) | assumption)
                  obtain ⟨ad175, e175, hx175_0, hx175_1, hx175_2, hx175_3⟩ := at_T30 HR1.out x13_1 p175 q175
                  cases e175
                  replace p175 := eq_true p175
                  replace q175 := eq_true q175
                  go_wp2
                  repeat (go_quiet (fail); try go_wp2)
                  go_roundg k1
                  case measure => have := HK1.out; omega
                  case rel => exact ⟨(wrap64 (x13_1 + 1)), (by first | rfl | (simp; done) | (simp [*]; done)), H', ⟨by have := HK1.out; omega⟩, by repeat (first | exact Drawn0.refl _ | apply Drawn0.step)⟩
              · rw [if_neg c7] at H
                exact absurd H (by simp)
            · rw [if_neg c6] at H
              exact absurd H (by simp)
          · rw [if_neg c5] at H
            exact absurd H (by simp)
        · rw [if_neg c4] at H
          have c4b0 : decide (x13_1 < (l0.length : Int)) = false := decide_eq_false c4
          clear c4
          obtain rfl := Option.some.inj H
          go_wp2
          repeat (go_quiet (fail); try go_wp2)
          go_ret
          exact ⟨by first | rfl | (simp; done) | (simp [*]; done), by repeat (first | exact Drawn0.refl _ | apply Drawn0.step)⟩
  · rw [if_neg c3] at H
    have c3b0 : ((l0.length : Int) == (l1.length : Int)) = false := beq_eq_false_iff_ne.mpr c3
    have c3b1 : ((l0.length : Int) != (l1.length : Int)) = true := bne_iff_ne.mpr c3
    have c3b2 : (l0.length == l1.length) = false := by first | simpa using c3 | (simp at c3 ⊢; omega)
    obtain rfl := Option.some.inj H
    go_enter Tryd.func12, Tryd.ntmps12
    go_wp2
    repeat (go_quiet (fail); try go_wp2)
    go_ret
    exact ⟨by first | rfl | (simp; done) | (simp [*]; done), by repeat (first | exact Drawn0.refl _ | apply Drawn0.step)⟩

/-! ### spinneylaw05_TokenJoins: function 7 -/
mutual
def spinneylaw05_TokenJoins.j0 : Nat → ByteArray → ByteArray → Bool → List (S30) → List (S30) → Bool → Option (Bool)
  | 0, _, _, _, _, _, _ => none
  | k + 1, x0, x1, x5, x6, x9, x51 => if x51 = true then (some x5) else (if x0.size + 1 ≤ 9223372036854775807 then (if (x0 ++ (⟨#[10]⟩ : ByteArray)).size + x1.size ≤ 9223372036854775807 then ((token_Cut.f ((x0 ++ (⟨#[10]⟩ : ByteArray)) ++ x1)).bind fun bt187 => (if 0 ≤ (wrap64 ((x6.length : Int) - 1)) then (if (wrap64 ((x6.length : Int) - 1)) ≤ (x6.length : Int) then ((some (x6.take ((wrap64 ((x6.length : Int) - 1)) : Int).toNat : List (S30))).bind fun y192 => (if ([] : List (S30)).length + y192.length < 3518437208883 then (spinneylaw05_TokenJoins.l0 k x0 x5 bt187.1 bt187.2.2 (([] : List (S30)) ++ y192) x9 (x9.length : Int) 0) else (none))) else (none)) else (none))) else (none)) else (none))
def spinneylaw05_TokenJoins.l0 : Nat → ByteArray → Bool → List (S30) → Int → List (S30) → List (S30) → Int → Int → Option (Bool)
  | 0, _, _, _, _, _, _, _, _ => none
  | k + 1, x0, x5, x12, x14, x15, x68, x69, x70 => if x70 < x69 then (if 0 ≤ x70 then (if x70 < (x68.length : Int) then (if x15.length < 3518437208883 then (spinneylaw05_TokenJoins.l0 k x0 x5 x12 x14 (x15 ++ [(⟨(rd_T30 x68 x70).f0, (rd_T30 x68 x70).f1, (rd_T30 x68 x70).f2, wrap64 (((rd_T30 x68 x70).f3) + (wrap64 ((x0.size : Int) + 1)))⟩ : S30)]) x68 x69 (wrap64 (x70 + 1))) else (none)) else (none)) else (none)) else (if x5 = true then (if x14 = 0 then ((spinneyref05_Same.f k x12 x15).bind fun t204 => (some t204)) else (none)) else (none))
end
def spinneylaw05_TokenJoins.f (k : Nat) (a0 : ByteArray) (a1 : ByteArray) : Option (Bool) := (spinneylaw05_live.f).bind fun t176 => ((token_Cut.f a0).bind fun bt177 => ((token_Cut.f a1).bind fun bt182 => (if bt177.2.2 = 0 then (if bt182.2.2 = 0 then (if (a0.size : Int) > 2000 then (spinneylaw05_TokenJoins.j0 k a0 a1 t176 bt177.1 bt182.1 true) else (if (a1.size : Int) > 2000 then (spinneylaw05_TokenJoins.j0 k a0 a1 t176 bt177.1 bt182.1 true) else (spinneylaw05_TokenJoins.j0 k a0 a1 t176 bt177.1 bt182.1 ((bt177.1.length : Int) == 0)))) else (spinneylaw05_TokenJoins.j0 k a0 a1 t176 bt177.1 bt182.1 true)) else (spinneylaw05_TokenJoins.j0 k a0 a1 t176 bt177.1 bt182.1 true))))
theorem spinneylaw05_TokenJoins.mono_l : ∀ k, (∀ y0 y1 y2 y3 y4 y5, LeO (spinneylaw05_TokenJoins.j0 k y0 y1 y2 y3 y4 y5) (spinneylaw05_TokenJoins.j0 (k + 1) y0 y1 y2 y3 y4 y5)) ∧ (∀ y0 y1 y2 y3 y4 y5 y6 y7, LeO (spinneylaw05_TokenJoins.l0 k y0 y1 y2 y3 y4 y5 y6 y7) (spinneylaw05_TokenJoins.l0 (k + 1) y0 y1 y2 y3 y4 y5 y6 y7))
  | 0 => ⟨fun _ _ _ _ _ _ r h => by simp [spinneylaw05_TokenJoins.j0] at h, fun _ _ _ _ _ _ _ _ r h => by simp [spinneylaw05_TokenJoins.l0] at h⟩
  | k + 1 => by
    obtain ⟨ih0, ih1⟩ := spinneylaw05_TokenJoins.mono_l k
    refine ⟨?_, ?_⟩
    · intro y0 y1 y2 y3 y4 y5
      unfold spinneylaw05_TokenJoins.j0
      repeat' first
      | (with_reducible exact ih0 _ _ _ _ _ _)
      | (with_reducible exact ih1 _ _ _ _ _ _ _ _)
      | (with_reducible exact spinneyref05_Same.mono _ _ _)
      | (with_reducible exact LeO.refl _)
      | (with_reducible exact LeO.none _)
      | (with_reducible refine LeO.ite ?_ ?_)
      | (with_reducible refine LeO.bind ?_ (fun _ => ?_))
      | exact ih0 _ _ _ _ _ _
      | exact ih1 _ _ _ _ _ _ _ _
      | exact spinneyref05_Same.mono _ _ _
      | exact LeO.none _
      | refine LeO.ite ?_ ?_
      | refine LeO.bind ?_ (fun _ => ?_)
    · intro y0 y1 y2 y3 y4 y5 y6 y7
      unfold spinneylaw05_TokenJoins.l0
      repeat' first
      | (with_reducible exact ih0 _ _ _ _ _ _)
      | (with_reducible exact ih1 _ _ _ _ _ _ _ _)
      | (with_reducible exact spinneyref05_Same.mono _ _ _)
      | (with_reducible exact LeO.refl _)
      | (with_reducible exact LeO.none _)
      | (with_reducible refine LeO.ite ?_ ?_)
      | (with_reducible refine LeO.bind ?_ (fun _ => ?_))
      | exact ih0 _ _ _ _ _ _
      | exact ih1 _ _ _ _ _ _ _ _
      | exact spinneyref05_Same.mono _ _ _
      | exact LeO.none _
      | refine LeO.ite ?_ ?_
      | refine LeO.bind ?_ (fun _ => ?_)
theorem spinneylaw05_TokenJoins.mono : ∀ a0 a1 k, LeO (spinneylaw05_TokenJoins.f k a0 a1) (spinneylaw05_TokenJoins.f (k + 1) a0 a1) := by
  intro a0 a1 k
  obtain ⟨ih0, ih1⟩ := spinneylaw05_TokenJoins.mono_l k
  unfold spinneylaw05_TokenJoins.f
  repeat' first
      | (with_reducible exact ih0 _ _ _ _ _ _)
      | (with_reducible exact ih1 _ _ _ _ _ _ _ _)
      | (with_reducible exact spinneyref05_Same.mono _ _ _)
      | (with_reducible exact LeO.refl _)
      | (with_reducible exact LeO.none _)
      | (with_reducible refine LeO.ite ?_ ?_)
      | (with_reducible refine LeO.bind ?_ (fun _ => ?_))
      | exact ih0 _ _ _ _ _ _
      | exact ih1 _ _ _ _ _ _ _ _
      | exact spinneyref05_Same.mono _ _ _
      | exact LeO.none _
      | refine LeO.ite ?_ ?_
      | refine LeO.bind ?_ (fun _ => ?_)
set_option maxHeartbeats 8000000 in
set_option maxRecDepth 100000 in
theorem spinneylaw05_TokenJoins.calls (k : Nat) (a0 : ByteArray) (a1 : ByteArray) (r : Bool) (w : World) (h : spinneylaw05_TokenJoins.f k a0 a1 = some r) (hT : Tabs w) :
    Calls Tryd.prog 7 #[.string a0, .string a1] w fun e w' => e = .returned (.bool r) ∧ Below w.heap.size w w' := by
  have HT := Aside0.mk hT
  clear hT
  have hu30 := Tryd.underlying30
  have HB := Aside0.mk (Below.refl w.heap.size w)
  have H : ((spinneylaw05_live.f).bind fun t176 => ((token_Cut.f a0).bind fun bt177 => ((token_Cut.f a1).bind fun bt182 => (if bt177.2.2 = 0 then (if bt182.2.2 = 0 then (if (a0.size : Int) > 2000 then (spinneylaw05_TokenJoins.j0 k a0 a1 t176 bt177.1 bt182.1 true) else (if (a1.size : Int) > 2000 then (spinneylaw05_TokenJoins.j0 k a0 a1 t176 bt177.1 bt182.1 true) else (spinneylaw05_TokenJoins.j0 k a0 a1 t176 bt177.1 bt182.1 ((bt177.1.length : Int) == 0)))) else (spinneylaw05_TokenJoins.j0 k a0 a1 t176 bt177.1 bt182.1 true)) else (spinneylaw05_TokenJoins.j0 k a0 a1 t176 bt177.1 bt182.1 true))))) = some r := h
  clear h
  replace H := Option.bind_eq_some_iff.mp H
  obtain ⟨t176, A30, H⟩ := H
  replace H : ((token_Cut.f a0).bind fun bt177 => ((token_Cut.f a1).bind fun bt182 => (if bt177.2.2 = 0 then (if bt182.2.2 = 0 then (if (a0.size : Int) > 2000 then (spinneylaw05_TokenJoins.j0 k a0 a1 t176 bt177.1 bt182.1 true) else (if (a1.size : Int) > 2000 then (spinneylaw05_TokenJoins.j0 k a0 a1 t176 bt177.1 bt182.1 true) else (spinneylaw05_TokenJoins.j0 k a0 a1 t176 bt177.1 bt182.1 ((bt177.1.length : Int) == 0)))) else (spinneylaw05_TokenJoins.j0 k a0 a1 t176 bt177.1 bt182.1 true)) else (spinneylaw05_TokenJoins.j0 k a0 a1 t176 bt177.1 bt182.1 true)))) = some r := H
  have A3 := Aside0.mk A30
  clear A30
  replace H := Option.bind_eq_some_iff.mp H
  obtain ⟨⟨t177, t178, t179⟩, A40, H⟩ := H
  replace H : ((token_Cut.f a1).bind fun bt182 => (if t179 = 0 then (if bt182.2.2 = 0 then (if (a0.size : Int) > 2000 then (spinneylaw05_TokenJoins.j0 k a0 a1 t176 t177 bt182.1 true) else (if (a1.size : Int) > 2000 then (spinneylaw05_TokenJoins.j0 k a0 a1 t176 t177 bt182.1 true) else (spinneylaw05_TokenJoins.j0 k a0 a1 t176 t177 bt182.1 ((t177.length : Int) == 0)))) else (spinneylaw05_TokenJoins.j0 k a0 a1 t176 t177 bt182.1 true)) else (spinneylaw05_TokenJoins.j0 k a0 a1 t176 t177 bt182.1 true))) = some r := H
  have A4 := Aside0.mk A40
  clear A40
  replace H := Option.bind_eq_some_iff.mp H
  obtain ⟨⟨t182, t183, t184⟩, A50, H⟩ := H
  replace H : (if t179 = 0 then (if t184 = 0 then (if (a0.size : Int) > 2000 then (spinneylaw05_TokenJoins.j0 k a0 a1 t176 t177 t182 true) else (if (a1.size : Int) > 2000 then (spinneylaw05_TokenJoins.j0 k a0 a1 t176 t177 t182 true) else (spinneylaw05_TokenJoins.j0 k a0 a1 t176 t177 t182 ((t177.length : Int) == 0)))) else (spinneylaw05_TokenJoins.j0 k a0 a1 t176 t177 t182 true)) else (spinneylaw05_TokenJoins.j0 k a0 a1 t176 t177 t182 true)) = some r := H
  have A5 := Aside0.mk A50
  clear A50
  have HC6 := Aside0.mk H
  clear H
  go_enter Tryd.func7, Tryd.ntmps7
  go_upto_region 4 with (first | ((with_reducible refine gate_callee (f := 9) rfl ?_); refine goesL_ (some 18) rfl rfl Tryd.func9 (by kernel_rfl) rfl #[] rfl (by (try simp only [List.map_toArray, List.map_cons, List.map_nil]); first | done | rfl | (simp only [List.length_drop, List.length_take]; rfl)) ?_; (with_reducible refine (spinneylaw05_live.calls  t176 _ A3.out (HT.out.below (by first | exact Below.refl _ _ | (repeat (first | (with_reducible first | exact HB.out | apply below_alloc | apply pw_below_drewN | apply below_drew1 | refine below_set ?_ GE200.out) | exact HB.out))))).mono ?_); rintro e w7 ⟨rfl, hb⟩; refine ⟨_, rfl, ?_⟩; have n0_ := Aside0.mk (below_step (by repeat (first | (with_reducible first | exact HB.out | apply below_alloc | apply pw_below_drewN | apply below_drew1) | exact HB.out)) hb); clear HB; have HB := n0_; clear n0_; (try clear hb); (try clear hb2); (try clear hk); (try clear hi)) | ((with_reducible refine gate_callee (f := 10) rfl ?_); refine goesL_ (some 21) rfl rfl Tryd.func10 (by kernel_rfl) rfl #[.string a0] rfl (by (try simp only [List.map_toArray, List.map_cons, List.map_nil]); first | done | rfl | (simp only [List.length_drop, List.length_take]; rfl)) ?_; (with_reducible refine (token_Cut.calls a0 t177 t178 t179 _ A4.out (HT.out.below (by first | exact Below.refl _ _ | (repeat (first | (with_reducible first | exact HB.out | apply below_alloc | apply pw_below_drewN | apply below_drew1 | refine below_set ?_ GE200.out) | exact HB.out))))).mono ?_); rintro e w8 ⟨v180, rfl, ho0, hb⟩; refine ⟨_, rfl, ?_⟩; have n0_ := Aside0.mk (Kd.R_lower ho0 (below_size (by repeat (first | (with_reducible first | exact HB.out | apply below_alloc | apply pw_below_drewN | apply below_drew1) | exact HB.out)))); have n1_ := Aside0.mk (below_step (by repeat (first | (with_reducible first | exact HB.out | apply below_alloc | apply pw_below_drewN | apply below_drew1) | exact HB.out)) hb); clear HB; have HO181 := n0_; have HB := n1_; clear n0_ n1_; (try clear hb); (try clear hb2); (try clear hk); (try clear hi); (try clear ho0)) | ((with_reducible refine gate_callee (f := 10) rfl ?_); refine goesL_ (some 27) rfl rfl Tryd.func10 (by kernel_rfl) rfl #[.string a1] rfl (by (try simp only [List.map_toArray, List.map_cons, List.map_nil]); first | done | rfl | (simp only [List.length_drop, List.length_take]; rfl)) ?_; (with_reducible refine (token_Cut.calls a1 t182 t183 t184 _ A5.out (HT.out.below (by first | exact Below.refl _ _ | (repeat (first | (with_reducible first | exact HB.out | apply below_alloc | apply pw_below_drewN | apply below_drew1 | refine below_set ?_ GE200.out) | exact HB.out))))).mono ?_); rintro e w9 ⟨v185, rfl, ho0, hb⟩; refine ⟨_, rfl, ?_⟩; have n0_ := Aside0.mk (Kd.R_elder' (by (with_reducible repeat (first | apply Kd.R_alloc | apply Kd.R_drewN | apply Kd.R_drew)); exact HO181.out) (Kd.R_base ho0) hb); have n1_ := Aside0.mk (Kd.R_lower (Kd.R_new' ho0 (Kd.R_lt (by (with_reducible repeat (first | apply Kd.R_alloc | apply Kd.R_drewN | apply Kd.R_drew)); exact HO181.out))) (below_size (by repeat (first | (with_reducible first | exact HB.out | apply below_alloc | apply pw_below_drewN | apply below_drew1) | exact HB.out)))); have n2_ := Aside0.mk (below_step (by repeat (first | (with_reducible first | exact HB.out | apply below_alloc | apply pw_below_drewN | apply below_drew1) | exact HB.out)) hb); clear HO181; clear HB; have HO181 := n0_; have HO186 := n1_; have HB := n2_; clear n0_ n1_ n2_; (try clear hb); (try clear hb2); (try clear hk); (try clear hi); (try clear ho0)))
  (try simp only [Act.put, List.setIfInBounds_toArray, List.set_cons_zero, List.set_cons_succ])
  go_cut [51] (fun v51 wc => ∃ (kq : Nat) (x51_5 : Bool), v51 = .bool x51_5 ∧ Aside0 (spinneylaw05_TokenJoins.j0 kq a0 a1 t176 t177 t182 x51_5 = some r) ∧ Aside0 (kq ≤ k) ∧ Aside0 (Kd.R k30 30 wc w.heap.size (fun k_ => some k_ ≠ (v185 : Value).ownBlock) v180 t177) ∧ Aside0 (Kd.R k30 30 wc w.heap.size (fun k_ => some k_ ≠ (v180 : Value).ownBlock) v185 t182) ∧ Aside0 (Below w.heap.size w wc))
  case first =>
    have H := HC6.out
    clear HC6
    by_cases c10 : t179 = 0
    · rw [if_pos c10] at H
      have c10b0 : (t179 == 0) = true := beq_iff_eq.mpr c10
      have c10b1 : (t179 != 0) = false := bne_eq_false_iff_eq.mpr c10
      clear c10
      (first | rw [c10b0] | (simp only [i64_w, i32_w]; rw [c10b0]) | skip)
      by_cases c11 : t184 = 0
      · rw [if_pos c11] at H
        have c11b0 : (t184 == 0) = true := beq_iff_eq.mpr c11
        have c11b1 : (t184 != 0) = false := bne_eq_false_iff_eq.mpr c11
        clear c11
        by_cases c12 : (a0.size : Int) > 2000
        · rw [if_pos c12] at H
          have c12b0 : decide (2000 < (a0.size : Int)) = true := decide_eq_true c12
          have c12b1 : decide (2000 < a0.size) = true := decide_eq_true (by omega)
          clear c12
          have H' := Aside0.mk H
          clear H
          go_wp2
          go_meet
          case rel => exact ⟨_, (true), (by first | rfl | (simp; done) | (simp [*]; done)), H', ⟨by first | omega | exact Nat.le_refl _⟩, ⟨by (with_reducible repeat (first | apply Kd.R_alloc | apply Kd.R_drewN | apply Kd.R_drew)); exact Kd.R_mono HO181.out (fun _ hk => hk.2)⟩, ⟨by (with_reducible repeat (first | apply Kd.R_alloc | apply Kd.R_drewN | apply Kd.R_drew)); exact Kd.R_mono HO186.out (fun _ hk => hk.2)⟩, ⟨by repeat (first | (with_reducible first | exact HB.out | apply below_alloc | apply pw_below_drewN | apply below_drew1) | exact HB.out)⟩⟩
        · rw [if_neg c12] at H
          have c12b0 : decide (2000 < (a0.size : Int)) = false := decide_eq_false c12
          have c12b1 : decide (2000 < a0.size) = false := decide_eq_false (by omega)
          clear c12
          by_cases c13 : (a1.size : Int) > 2000
          · rw [if_pos c13] at H
            have c13b0 : decide (2000 < (a1.size : Int)) = true := decide_eq_true c13
            have c13b1 : decide (2000 < a1.size) = true := decide_eq_true (by omega)
            clear c13
            have H' := Aside0.mk H
            clear H
            go_wp2
            go_meet
            case rel => exact ⟨_, (true), (by first | rfl | (simp; done) | (simp [*]; done)), H', ⟨by first | omega | exact Nat.le_refl _⟩, ⟨by (with_reducible repeat (first | apply Kd.R_alloc | apply Kd.R_drewN | apply Kd.R_drew)); exact Kd.R_mono HO181.out (fun _ hk => hk.2)⟩, ⟨by (with_reducible repeat (first | apply Kd.R_alloc | apply Kd.R_drewN | apply Kd.R_drew)); exact Kd.R_mono HO186.out (fun _ hk => hk.2)⟩, ⟨by repeat (first | (with_reducible first | exact HB.out | apply below_alloc | apply pw_below_drewN | apply below_drew1) | exact HB.out)⟩⟩
          · rw [if_neg c13] at H
            have c13b0 : decide (2000 < (a1.size : Int)) = false := decide_eq_false c13
            have c13b1 : decide (2000 < a1.size) = false := decide_eq_false (by omega)
            clear c13
            have H' := Aside0.mk H
            clear H
            obtain ⟨Ao14, co14, eo14⟩ := Kd.R_slice HO181.out
            subst eo14
            go_wp2
            go_meet
            case rel => exact ⟨_, (((t177.length : Int) == 0)), (by first | rfl | (simp; done) | (simp [*]; done)), H', ⟨by first | omega | exact Nat.le_refl _⟩, ⟨by (with_reducible repeat (first | apply Kd.R_alloc | apply Kd.R_drewN | apply Kd.R_drew)); exact Kd.R_mono HO181.out (fun _ hk => hk.2)⟩, ⟨by (with_reducible repeat (first | apply Kd.R_alloc | apply Kd.R_drewN | apply Kd.R_drew)); exact Kd.R_mono HO186.out (fun _ hk => hk.2)⟩, ⟨by repeat (first | (with_reducible first | exact HB.out | apply below_alloc | apply pw_below_drewN | apply below_drew1) | exact HB.out)⟩⟩
      · rw [if_neg c11] at H
        have c11b0 : (t184 == 0) = false := beq_eq_false_iff_ne.mpr c11
        have c11b1 : (t184 != 0) = true := bne_iff_ne.mpr c11
        have H' := Aside0.mk H
        clear H
        go_wp2
        go_meet
        case rel => exact ⟨_, (true), (by first | rfl | (simp; done) | (simp [*]; done)), H', ⟨by first | omega | exact Nat.le_refl _⟩, ⟨by (with_reducible repeat (first | apply Kd.R_alloc | apply Kd.R_drewN | apply Kd.R_drew)); exact Kd.R_mono HO181.out (fun _ hk => hk.2)⟩, ⟨by (with_reducible repeat (first | apply Kd.R_alloc | apply Kd.R_drewN | apply Kd.R_drew)); exact Kd.R_mono HO186.out (fun _ hk => hk.2)⟩, ⟨by repeat (first | (with_reducible first | exact HB.out | apply below_alloc | apply pw_below_drewN | apply below_drew1) | exact HB.out)⟩⟩
    · rw [if_neg c10] at H
      have c10b0 : (t179 == 0) = false := beq_eq_false_iff_ne.mpr c10
      have c10b1 : (t179 != 0) = true := bne_iff_ne.mpr c10
      (first | rw [c10b0] | (simp only [i64_w, i32_w]; rw [c10b0]) | skip)
      have H' := Aside0.mk H
      clear H
      go_wp2
      go_meet
      case rel => exact ⟨_, (true), (by first | rfl | (simp; done) | (simp [*]; done)), H', ⟨by first | omega | exact Nat.le_refl _⟩, ⟨by (with_reducible repeat (first | apply Kd.R_alloc | apply Kd.R_drewN | apply Kd.R_drew)); exact Kd.R_mono HO181.out (fun _ hk => hk.2)⟩, ⟨by (with_reducible repeat (first | apply Kd.R_alloc | apply Kd.R_drewN | apply Kd.R_drew)); exact Kd.R_mono HO186.out (fun _ hk => hk.2)⟩, ⟨by repeat (first | (with_reducible first | exact HB.out | apply below_alloc | apply pw_below_drewN | apply below_drew1) | exact HB.out)⟩⟩
  case rest =>
    clear HC6
    try clear c1
    try clear p2
    try clear c7
    try clear c9
    try clear c10
    try clear c10b0
    try clear c10b1
    try clear c11
    try clear c11b0
    try clear c11b1
    try clear c12
    try clear c12b0
    try clear c12b1
    try clear c13
    try clear c13b0
    try clear c13b1
    obtain ⟨kq, x51_5, rfl, HA, HJ5, HO_6, HO_9, HB⟩ := hcut
    cases kq with
    | zero => exact absurd HA.out (by simp [spinneylaw05_TokenJoins.j0])
    | succ kj5 =>
      have H := HA.out
      clear HA
      simp only [spinneylaw05_TokenJoins.j0] at H
      by_cases c15 : x51_5 = true
      · subst c15
        have H1 : (some t176) = some r := by rw [if_pos rfl] at H; exact H
        clear H
        have H := H1
        clear H1
        obtain rfl := Option.some.inj H
        go_wp2
        go_ret
        exact ⟨by first | rfl | (simp [errW_none, errW_some] <;> rfl) | (simp [*, errW_none, errW_some] <;> rfl), by repeat (first | (with_reducible first | exact HB.out | apply below_alloc | apply pw_below_drewN | apply below_drew1) | exact HB.out)⟩
      · replace c15 := Bool.eq_false_iff.mpr c15
        subst c15
        have H1 : (if a0.size + 1 ≤ 9223372036854775807 then (if (a0 ++ (⟨#[10]⟩ : ByteArray)).size + a1.size ≤ 9223372036854775807 then ((token_Cut.f ((a0 ++ (⟨#[10]⟩ : ByteArray)) ++ a1)).bind fun bt187 => (if 0 ≤ (wrap64 ((t177.length : Int) - 1)) then (if (wrap64 ((t177.length : Int) - 1)) ≤ (t177.length : Int) then ((some (t177.take ((wrap64 ((t177.length : Int) - 1)) : Int).toNat : List (S30))).bind fun y192 => (if ([] : List (S30)).length + y192.length < 3518437208883 then (spinneylaw05_TokenJoins.l0 kj5 a0 t176 bt187.1 bt187.2.2 (([] : List (S30)) ++ y192) t182 (t182.length : Int) 0) else (none))) else (none)) else (none))) else (none)) else (none)) = some r := by rw [if_neg (show ¬ (false = true) by decide)] at H; exact H
        clear H
        have H := H1
        clear H1
        by_cases c16 : a0.size + 1 ≤ 9223372036854775807
        · rw [if_pos c16] at H
          have c16b0 := eq_true c16
          have c16b1 : decide (a0.size + 1 ≤ 9223372036854775807) = true := decide_eq_true c16
          try have c16b2 : (9223372036854775807 < a0.size + 1) = False := eq_false (Nat.not_lt.2 c16)
          by_cases c17 : (a0 ++ (⟨#[10]⟩ : ByteArray)).size + a1.size ≤ 9223372036854775807
          · rw [if_pos c17] at H
            have c17b0 := eq_true c17
            have c17b1 : decide ((a0 ++ (⟨#[10]⟩ : ByteArray)).size + a1.size ≤ 9223372036854775807) = true := decide_eq_true c17
            try have c17b2 : (9223372036854775807 < (a0 ++ (⟨#[10]⟩ : ByteArray)).size + a1.size) = False := eq_false (Nat.not_lt.2 c17)
            try have c17b3 : (9223372036854775807 < (a0.size + 1) + a1.size) = False := by have hq_ := c17; simp only [ByteArray.size_append] at hq_; exact eq_false (Nat.not_lt.2 hq_)
            replace H := Option.bind_eq_some_iff.mp H
            obtain ⟨⟨t187, t188, t189⟩, A180, H⟩ := H
            replace H : (if 0 ≤ (wrap64 ((t177.length : Int) - 1)) then (if (wrap64 ((t177.length : Int) - 1)) ≤ (t177.length : Int) then ((some (t177.take ((wrap64 ((t177.length : Int) - 1)) : Int).toNat : List (S30))).bind fun y192 => (if ([] : List (S30)).length + y192.length < 3518437208883 then (spinneylaw05_TokenJoins.l0 kj5 a0 t176 t187 t189 (([] : List (S30)) ++ y192) t182 (t182.length : Int) 0) else (none))) else (none)) else (none)) = some r := H
            have A18 := Aside0.mk A180
            clear A180
            obtain ⟨ji19, hji19⟩ : ∃ j_ : Int, (wrap64 ((t177.length : Int) - 1)) = j_ := ⟨_, rfl⟩
            replace H : (if 0 ≤ (ji19) then (if (ji19) ≤ (t177.length : Int) then ((some (t177.take ((ji19) : Int).toNat : List (S30))).bind fun y192 => (if ([] : List (S30)).length + y192.length < 3518437208883 then (spinneylaw05_TokenJoins.l0 kj5 a0 t176 t187 t189 (([] : List (S30)) ++ y192) t182 (t182.length : Int) 0) else (none))) else (none)) else (none)) = some r := by first | (rw [hji19] at H; exact H) | (simp only [hji19] at H ⊢; exact H)
            (try rw [hji19] at A18)
            have hji19w : (IntKind.i64.wrap ((t177.length : Int) - 1)) = ji19 := (i64_w _).trans hji19
            by_cases c20 : 0 ≤ (ji19)
            · rw [if_pos c20] at H
              have c20b0 := eq_true c20
              have c20b1 : decide (0 ≤ (ji19)) = true := decide_eq_true c20
              clear c20
              by_cases c21 : (ji19) ≤ (t177.length : Int)
              · rw [if_pos c21] at H
                have c21b0 := eq_true c21
                have c21b1 : decide ((ji19) ≤ (t177.length : Int)) = true := decide_eq_true c21
                clear c21
                obtain ⟨y192, hy192⟩ : ∃ y_ : List (S30), y_ = (t177.take ((ji19) : Int).toNat) := ⟨_, rfl⟩
                replace H : (if ([] : List (S30)).length + y192.length < 3518437208883 then (spinneylaw05_TokenJoins.l0 kj5 a0 t176 t187 t189 (([] : List (S30)) ++ y192) t182 (t182.length : Int) 0) else (none)) = some r := by first | (rw [hy192]; with_reducible exact H) | (have H2_ := (Option.bind_some _ _).symm.trans H; rw [hy192]; with_reducible exact H2_) | (have H2_ := (Option.bind_some _ _).symm.trans H; with_reducible exact H2_) | with_reducible exact H | (rw [hy192]; exact H) | exact H
                have Ny192 := Aside0.mk hy192
                clear hy192
                by_cases c22 : ([] : List (S30)).length + y192.length < 3518437208883
                · rw [if_pos c22] at H
                  have LMc22 := Aside0.mk c22
                  clear c22
                  obtain ⟨y196, hy196⟩ : ∃ y_ : List (S30), y_ = (([] : List (S30)) ++ y192) := ⟨_, rfl⟩
                  replace H : (spinneylaw05_TokenJoins.l0 kj5 a0 t176 t187 t189 y196 t182 (t182.length : Int) 0) = some r := by first | (rw [hy196]; with_reducible exact H) | (have H2_ := (Option.bind_some _ _).symm.trans H; rw [hy196]; with_reducible exact H2_) | (have H2_ := (Option.bind_some _ _).symm.trans H; with_reducible exact H2_) | with_reducible exact H | (rw [hy196]; exact H) | exact H
                  have Ny196 := Aside0.mk hy196
                  clear hy196
                  have H' := Aside0.mk H
                  clear H
                  go_wp2_with (first | ((with_reducible refine gate_callee (f := 10) rfl ?_); refine goesL_ (some 58) rfl rfl Tryd.func10 (by kernel_rfl) rfl #[.string ((a0 ++ (⟨#[10]⟩ : ByteArray)) ++ a1)] rfl (by (try simp only [List.map_toArray, List.map_cons, List.map_nil]); first | done | rfl | (simp only [List.length_drop, List.length_take]; rfl)) ?_; (with_reducible refine (token_Cut.calls ((a0 ++ (⟨#[10]⟩ : ByteArray)) ++ a1) t187 t188 t189 _ A18.out (HT.out.below (by first | exact Below.refl _ _ | (repeat (first | (with_reducible first | exact HB.out | apply below_alloc | apply pw_below_drewN | apply below_drew1 | refine below_set ?_ GE200.out) | exact HB.out))))).mono ?_); rintro e w23 ⟨v190, rfl, ho0, hb⟩; refine ⟨_, rfl, ?_⟩; have n0_ := Aside0.mk (Kd.R_elder' (by (with_reducible repeat (first | apply Kd.R_alloc | apply Kd.R_drewN | apply Kd.R_drew)); exact HO_6.out) (Kd.R_base ho0) hb); have n1_ := Aside0.mk (Kd.R_elder' (by (with_reducible repeat (first | apply Kd.R_alloc | apply Kd.R_drewN | apply Kd.R_drew)); exact HO_9.out) (Kd.R_base ho0) hb); have n2_ := Aside0.mk (Kd.R_lower (Kd.R_new' (Kd.R_new' ho0 (Kd.R_lt (by (with_reducible repeat (first | apply Kd.R_alloc | apply Kd.R_drewN | apply Kd.R_drew)); exact HO_6.out))) (Kd.R_lt (by (with_reducible repeat (first | apply Kd.R_alloc | apply Kd.R_drewN | apply Kd.R_drew)); exact HO_9.out))) (below_size (by repeat (first | (with_reducible first | exact HB.out | apply below_alloc | apply pw_below_drewN | apply below_drew1) | exact HB.out)))); have n3_ := Aside0.mk (below_step (by repeat (first | (with_reducible first | exact HB.out | apply below_alloc | apply pw_below_drewN | apply below_drew1) | exact HB.out)) hb); clear HO_6; clear HO_9; clear HB; have HO_6 := n0_; have HO_9 := n1_; have HO191 := n2_; have HB := n3_; clear n0_ n1_ n2_ n3_; (try clear hb); (try clear hb2); (try clear hk); (try clear hi); (try clear ho0); obtain ⟨Ao24, co24, eo24⟩ := Kd.R_slice HO_6.out; subst eo24; have q25 : ((ji19) : Int) ≤ ((t177.length : Int) : Int) := of_decide_eq_true (by first | (with_reducible assumption) | assumption); obtain ⟨i025, hi025, _, hsz25, _⟩ := info_parts info30; have hroom25 : t177.length ≤ co24 := (Kd.R_reads' HO_6.out).2.1; have hC25 : Kd.C k30 _ Ao24 t177.length t177 := (Kd.R_reads' HO_6.out).2.2; have hcut25 := cut_to (P := Tryd.prog) 23 30 .i64 Tryd.underlying23 hi025 Ao24 t177.length co24 (ji19) (of_decide_eq_true (by first | (with_reducible assumption) | assumption)) q25 hroom25; have hr25 := Kd.C_take (m := ((ji19) : Int).toNat) hC25 (by omega); have hy25 : y192.length = ((ji19) : Int).toNat := (by rw [Ny192.out, List.length_take]; omega); rw [← Ny192.out] at hr25; rw [← hy25] at hcut25; have HR195 := Aside0.mk hr25; have HC195 := Aside0.mk (show y192.length ≤ co24 from by omega); clear hr25 hC25 hroom25 hi025 hsz25; have KY25 := Aside0.mk hy25; clear hy25; have KL25 := Aside0.mk (show ((ji19) : Int).toNat ≤ t177.length from by omega); replace q25 := eq_true q25) | ((with_reducible refine gate_builtin (b := .append) (xs := #[.const (.slice none 0 0), .tmp 66]) rfl ?_); (try (refine gate_guard (by rfl) ?_; dsimp only)); at_builtin; refine Kd.R_append_rows k30 (w0 := w) w.heap.size rfl (.const (.slice none 0 0)) (.tmp 66) 23 30 (.agg #[(.int .i64 0), (.string ⟨#[]⟩), (.int .i64 0), (.int .i64 0)]) 40 rfl Tryd.underlying23 info30 rfl (by decide) (by omega) (.slice none 0 0) ([] : List (S30)) y192 _ _ _ (fun k_ => some k_ ≠ (.slice Ao24 t177.length co24 : Value).ownBlock ∧ some k_ ≠ (v185 : Value).ownBlock ∧ some k_ ≠ (v190 : Value).ownBlock) (fun _ => False) rfl rfl ?aO ?aR (fun _ _ h => h) (fun _ h => h.elim) ?aF ?aB ?aS ?aL ?_; (case aR => repeat (first | exact (by repeat (first | (with_reducible exact HR195.out) | (with_reducible refine Kd.C_alloc ?_ _) | (with_reducible refine Kd.C_drewN ?_ _) | (with_reducible refine Kd.C_drew ?_) | exact HR195.out)) | (with_reducible refine Kd.C_alloc ?_ _) | (with_reducible refine Kd.C_drewN ?_ _) | (with_reducible refine Kd.C_drew ?_))); (case aB => exact (by repeat (first | (with_reducible first | exact HB.out | apply below_alloc | apply pw_below_drewN | apply below_drew1) | exact HB.out))); (case aF => exact (fun k_ hk => ⟨Kd.fresh' (Kd.R_lt (by (with_reducible repeat (first | apply Kd.R_alloc | apply Kd.R_drewN | apply Kd.R_drew)); exact HO_6.out)) k_ hk, Kd.fresh' (Kd.R_lt (by (with_reducible repeat (first | apply Kd.R_alloc | apply Kd.R_drewN | apply Kd.R_drew)); exact HO_9.out)) k_ hk, Kd.fresh' (Kd.R_lt (by (with_reducible repeat (first | apply Kd.R_alloc | apply Kd.R_drewN | apply Kd.R_drew)); exact HO191.out)) k_ hk⟩)); (case aO => exact ((Kd.R_nil _ _ _ _ (fun k_ => some k_ ≠ (.slice Ao24 t177.length co24 : Value).ownBlock ∧ some k_ ≠ (v185 : Value).ownBlock ∧ some k_ ≠ (v190 : Value).ownBlock)))); (case aS => exact (below_size (by repeat (first | (with_reducible first | exact HB.out | apply below_alloc | apply pw_below_drewN | apply below_drew1) | exact HB.out)))); (case aL => have := LMc22.out; omega); intro v197 w26 ho hb hg hat; rw [← Ny196.out] at ho; have n0_ := Aside0.mk (Kd.R_after (Kd.R_apart_nil (by (with_reducible repeat (first | apply Kd.R_alloc | apply Kd.R_drewN | apply Kd.R_drew)); exact HO_6.out)) hg hat); have n1_ := Aside0.mk (Kd.R_after (Kd.R_apart_nil (by (with_reducible repeat (first | apply Kd.R_alloc | apply Kd.R_drewN | apply Kd.R_drew)); exact HO_9.out)) hg hat); have n2_ := Aside0.mk (Kd.R_after (Kd.R_apart_nil (by (with_reducible repeat (first | apply Kd.R_alloc | apply Kd.R_drewN | apply Kd.R_drew)); exact HO191.out)) hg hat); have n3_ := Aside0.mk (hb); have n4_ := Aside0.mk ((show Kd.C k30 w26 Ao24 y192.length y192 from by rw [Ny192.out]; exact Kd.C_take (m := ((ji19) : Int).toNat) ((Kd.R_reads' (Kd.R_after (Kd.R_apart_nil (by (with_reducible repeat (first | apply Kd.R_alloc | apply Kd.R_drewN | apply Kd.R_drew)); exact HO_6.out)) hg hat)).2.2) KL25.out)); have n5_ := Aside0.mk (ho); clear HO_6; clear HO_9; clear HO191; clear HB; clear HR195; have HO_6 := n0_; have HO_9 := n1_; have HO191 := n2_; have HB := n3_; have HR195 := n4_; have HO198 := n5_; clear n0_ n1_ n2_ n3_ n4_ n5_; clear ho hb hg hat; obtain ⟨Ao27, co27, eo27⟩ := Kd.R_slice HO_9.out; subst eo27))
                  go_loopg [15, 70] kj5 (fun kq v15 v70 w' => ∃ (x15_2 : List (S30)) (x70_2 : Int), v70 = .int .i64 x70_2 ∧ Aside0 (spinneylaw05_TokenJoins.l0 kq a0 t176 t187 t189 x15_2 t182 (t182.length : Int) x70_2 = some r) ∧ Aside0 (kq ≤ kj5) ∧ Aside0 (Kd.R k30 30 w' w.heap.size (fun k_ => some k_ ≠ (v15 : Value).ownBlock ∧ some k_ ≠ ((.slice Ao27 t182.length co27) : Value).ownBlock) v190 t187) ∧ Aside0 (Kd.R k30 30 w' w.heap.size (fun k_ => some k_ ≠ (v190 : Value).ownBlock ∧ some k_ ≠ ((.slice Ao27 t182.length co27) : Value).ownBlock) v15 x15_2) ∧ Aside0 (Kd.R k30 30 w' w.heap.size (fun k_ => some k_ ≠ (v190 : Value).ownBlock ∧ some k_ ≠ (v15 : Value).ownBlock) (.slice Ao27 t182.length co27) t182) ∧ Aside0 (Below w.heap.size w w'))
                  case atStart => exact ⟨(y196), (0), (by first | rfl | (simp; done) | (simp [*]; done)), H', ⟨Nat.le_refl _⟩, ⟨by (with_reducible repeat (first | apply Kd.R_alloc | apply Kd.R_drewN | apply Kd.R_drew)); exact Kd.R_mono HO191.out (fun _ hk => ⟨hk.2, hk.1.2⟩)⟩, ⟨by (with_reducible repeat (first | apply Kd.R_alloc | apply Kd.R_drewN | apply Kd.R_drew)); exact Kd.R_mono HO198.out (fun _ hk => ⟨hk.2.2, hk.2.1⟩)⟩, ⟨by (with_reducible repeat (first | apply Kd.R_alloc | apply Kd.R_drewN | apply Kd.R_drew)); exact Kd.R_mono HO_9.out (fun _ hk => ⟨hk.1.2, hk.2⟩)⟩, ⟨by repeat (first | (with_reducible first | exact HB.out | apply below_alloc | apply pw_below_drewN | apply below_drew1) | exact HB.out)⟩⟩
                  case round =>
                    clear H'
                    try clear c1
                    try clear c2
                    try clear p2
                    try clear q2
                    try clear p6
                    try clear c7
                    try clear c9
                    try clear c10
                    try clear c10b0
                    try clear c10b1
                    try clear c11
                    try clear c11b0
                    try clear c11b1
                    try clear c12
                    try clear c12b0
                    try clear c12b1
                    try clear c13
                    try clear c13b0
                    try clear c13b1
                    try clear c15
                    try clear c16
                    try clear c16b0
                    try clear c16b1
                    try clear c16b2
                    try clear c17
                    try clear c17b0
                    try clear c17b1
                    try clear c17b2
                    try clear c20
                    try clear c20b0
                    try clear c20b1
                    try clear c21
                    try clear c21b0
                    try clear c21b1
                    try clear c22
                    try clear q25
                    try clear p2
                    try clear q25
                    obtain ⟨x15_2, x70_2, rfl, HA, HK2, HO_12, HO_15, HO_68, HB⟩ := hrel
                    cases gk with
                    | zero => exact absurd HA.out (by simp [spinneylaw05_TokenJoins.l0])
                    | succ k2 =>
                      have H := HA.out
                      clear HA
                      simp only [spinneylaw05_TokenJoins.l0] at H
                      by_cases c28 : x70_2 < (t182.length : Int)
                      · rw [if_pos c28] at H
                        have c28b0 : decide (x70_2 < (t182.length : Int)) = true := decide_eq_true c28
                        clear c28
                        by_cases c29 : 0 ≤ x70_2
                        · rw [if_pos c29] at H
                          have c29b0 : decide (0 ≤ x70_2) = true := decide_eq_true c29
                          clear c29
                          by_cases c30 : x70_2 < (t182.length : Int)
                          · rw [if_pos c30] at H
                            have c30b0 : decide (x70_2 < (t182.length : Int)) = true := decide_eq_true c30
                            clear c30
                            by_cases c31 : x15_2.length < 3518437208883
                            · rw [if_pos c31] at H
                              have LMc31 := Aside0.mk c31
                              clear c31
                              obtain ⟨y201, hy201⟩ : ∃ y_ : List (S30), y_ = (x15_2 ++ [(⟨(rd_T30 t182 x70_2).f0, (rd_T30 t182 x70_2).f1, (rd_T30 t182 x70_2).f2, wrap64 (((rd_T30 t182 x70_2).f3) + (wrap64 ((a0.size : Int) + 1)))⟩ : S30)]) := ⟨_, rfl⟩
                              replace H : (spinneylaw05_TokenJoins.l0 k2 a0 t176 t187 t189 y201 t182 (t182.length : Int) (wrap64 (x70_2 + 1))) = some r := by first | (rw [hy201]; with_reducible exact H) | (have H2_ := (Option.bind_some _ _).symm.trans H; rw [hy201]; with_reducible exact H2_) | (have H2_ := (Option.bind_some _ _).symm.trans H; with_reducible exact H2_) | with_reducible exact H | (rw [hy201]; exact H) | exact H
                              have Ny201 := Aside0.mk hy201
                              clear hy201
                              have H' := Aside0.mk H
                              clear H
                              have p199 : 0 ≤ (x70_2 : Int) := of_decide_eq_true (by first | (with_reducible assumption) | assumption)
                              have q199 : x70_2 < (t182.length : Int) := of_decide_eq_true (by first | (with_reducible assumption) | assumption)
                              obtain ⟨ad199, e199, hx199_0, hx199_1, hx199_2, hx199_3⟩ := at_T30 (Kd.R_reads' HO_68.out).2.2 x70_2 p199 q199
                              cases e199
                              replace p199 := eq_true p199
                              replace q199 := eq_true q199
                              go_wp2_with (first | ((with_reducible refine gate_dst (N := 17) rfl ?_); (try (refine gate_guard (by rfl) ?_; dsimp only)); refine box_event ?hg (N := 17) ?hd (cs := #[.int .i64 0, .string (⟨#[]⟩ : ByteArray), .int .i64 0, .int .i64 0]) (t := 30) ?hr ?_; (case hd => rfl); (case hg => rfl); (case hr => first | (go_simp; done) | (go_simp; rfl)); intro gb200 hg w32 hbox hb; (try have hnb199 := box_far hx199_0 hg); (try have hx199_0b := (Below.cell hb (cell_lt hx199_0)).trans hx199_0); (try have hx199_1b := (Below.cell hb (cell_lt hx199_1)).trans hx199_1); (try have hx199_2b := (Below.cell hb (cell_lt hx199_2)).trans hx199_2); (try have hx199_3b := (Below.cell hb (cell_lt hx199_3)).trans hx199_3); have n0_ := Aside0.mk (Kd.R_below (Kd.R_elderB (by (with_reducible repeat (first | apply Kd.R_alloc | apply Kd.R_drewN | apply Kd.R_drew)); exact HO_12.out) gb200 (Nat.le_of_eq hg.symm)) hb); have n1_ := Aside0.mk (Kd.R_below (Kd.R_elderB (by (with_reducible repeat (first | apply Kd.R_alloc | apply Kd.R_drewN | apply Kd.R_drew)); exact HO_15.out) gb200 (Nat.le_of_eq hg.symm)) hb); have n2_ := Aside0.mk (Kd.R_below (Kd.R_elderB (by (with_reducible repeat (first | apply Kd.R_alloc | apply Kd.R_drewN | apply Kd.R_drew)); exact HO_68.out) gb200 (Nat.le_of_eq hg.symm)) hb); have n3_ := Aside0.mk (below_step (by repeat (first | (with_reducible first | exact HB.out | apply below_alloc | apply pw_below_drewN | apply below_drew1) | exact HB.out)) hb); have n4_ := Aside0.mk (hbox); have n5_ := Aside0.mk ((by rw [hg]; exact (below_size (by repeat (first | (with_reducible first | exact HB.out | apply below_alloc | apply pw_below_drewN | apply below_drew1) | exact HB.out))) : w.heap.size ≤ gb200)); have n6_ := Aside0.mk ((by rw [hg]; exact (below_size (by repeat (first | (with_reducible first | exact HB.out | apply below_alloc | apply pw_below_drewN | apply below_drew1) | exact HB.out))) : w.heap.size ≤ gb200)); clear HO_12; clear HO_15; clear HO_68; clear HB; have HO_12 := n0_; have HO_15 := n1_; have HO_68 := n2_; have HB := n3_; have BK200 := n4_; have GW200 := n5_; have GE200 := n6_; clear n0_ n1_ n2_ n3_ n4_ n5_ n6_; clear hb hbox hg; have hcz33_0 : w32.cell? ⟨gb200, 0, none⟩ = some (.int .i64 0) := (blk_cell BK200.out 0).trans rfl; have hcz33_1 : w32.cell? ⟨gb200, 1, none⟩ = some (.string (⟨#[]⟩ : ByteArray)) := (blk_cell BK200.out 1).trans rfl; have hcz33_2 : w32.cell? ⟨gb200, 2, none⟩ = some (.int .i64 0) := (blk_cell BK200.out 2).trans rfl; have hcz33_3 : w32.cell? ⟨gb200, 3, none⟩ = some (.int .i64 0) := (blk_cell BK200.out 3).trans rfl; have hfz33_0 := blk_frozen BK200.out 0; have hfz33_1 := blk_frozen BK200.out 1; have hfz33_2 := blk_frozen BK200.out 2; have hfz33_3 := blk_frozen BK200.out 3) | ((with_reducible refine gate_builtin (b := .append) (xs := #[.tmp 81, .tmp 83]) rfl ?_); (try (refine gate_guard (by rfl) ?_; dsimp only)); at_builtin; refine Kd.R_append k30 (w0 := w) w.heap.size rfl (.tmp 81) (.tmp 83) 23 30 (.agg #[(.int .i64 0), (.string ⟨#[]⟩), (.int .i64 0), (.int .i64 0)]) 40 rfl Tryd.underlying23 info30 rfl (by decide) (by omega) u15 x15_2 (⟨(rd_T30 t182 x70_2).f0, (rd_T30 t182 x70_2).f1, (rd_T30 t182 x70_2).f2, wrap64 (((rd_T30 t182 x70_2).f3) + (wrap64 ((a0.size : Int) + 1)))⟩ : S30) [.int .i64 ((rd_T30 t182 x70_2).f0), .string ((rd_T30 t182 x70_2).f1), .int .i64 ((rd_T30 t182 x70_2).f2), .int .i64 (wrap64 (((rd_T30 t182 x70_2).f3) + (wrap64 ((a0.size : Int) + 1))))] (fun k_ => some k_ ≠ (v190 : Value).ownBlock ∧ some k_ ≠ (.slice (some ad199) t182.length co27 : Value).ownBlock ∧ k_ ≠ gb200) (fun _ => False) rfl (by first | (go_simp; done) | (go_simp; rfl)) ?aP (fun _ hk => hk.elim) ?aF ?aO ?aB ?aS ?aL ?_; (case aP => exact k30_mkM _ _ _ (⟨(rd_T30 t182 x70_2).f0, (rd_T30 t182 x70_2).f1, (rd_T30 t182 x70_2).f2, wrap64 (((rd_T30 t182 x70_2).f3) + (wrap64 ((a0.size : Int) + 1)))⟩ : S30)); (case aB => exact (by repeat (first | (with_reducible first | exact HB.out | apply below_alloc | apply pw_below_drewN | apply below_drew1 | refine below_set ?_ GE200.out) | exact HB.out))); (case aF => exact (fun k_ hk => ⟨Kd.fresh' (Kd.R_lt (by (with_reducible repeat (first | apply Kd.R_alloc | apply Kd.R_drewN | apply Kd.R_drew)); exact (Kd.R_mono (Kd.R_far (p := ⟨gb200, 3, none⟩) (Kd.R_far (p := ⟨gb200, 3, none⟩) (Kd.R_far (p := ⟨gb200, 2, none⟩) (Kd.R_far (p := ⟨gb200, 1, none⟩) (Kd.R_far (p := ⟨gb200, 0, none⟩) (Kd.R_mono HO_12.out (fun k_ hk => (⟨hk, hk.2⟩ : _ ∧ k_ ≠ gb200))) (fun _ hk => hk.2) (.int .i64 ((rd_T30 t182 x70_2).f0))) (fun _ hk => hk.2) (.string ((rd_T30 t182 x70_2).f1))) (fun _ hk => hk.2) (.int .i64 ((rd_T30 t182 x70_2).f2))) (fun _ hk => hk.2) (.int .i64 ((rd_T30 t182 x70_2).f3))) (fun _ hk => hk.2) (.int .i64 (wrap64 (((rd_T30 t182 x70_2).f3) + (wrap64 ((a0.size : Int) + 1)))))) (fun _ h_ => h_.1)))) k_ hk, Kd.fresh' (Kd.R_lt (by (with_reducible repeat (first | apply Kd.R_alloc | apply Kd.R_drewN | apply Kd.R_drew)); exact (Kd.R_mono (Kd.R_far (p := ⟨gb200, 3, none⟩) (Kd.R_far (p := ⟨gb200, 3, none⟩) (Kd.R_far (p := ⟨gb200, 2, none⟩) (Kd.R_far (p := ⟨gb200, 1, none⟩) (Kd.R_far (p := ⟨gb200, 0, none⟩) (Kd.R_mono HO_68.out (fun k_ hk => (⟨hk, hk.2⟩ : _ ∧ k_ ≠ gb200))) (fun _ hk => hk.2) (.int .i64 ((rd_T30 t182 x70_2).f0))) (fun _ hk => hk.2) (.string ((rd_T30 t182 x70_2).f1))) (fun _ hk => hk.2) (.int .i64 ((rd_T30 t182 x70_2).f2))) (fun _ hk => hk.2) (.int .i64 ((rd_T30 t182 x70_2).f3))) (fun _ hk => hk.2) (.int .i64 (wrap64 (((rd_T30 t182 x70_2).f3) + (wrap64 ((a0.size : Int) + 1)))))) (fun _ h_ => h_.1)))) k_ hk, Kd.freshB (g := gb200) (o := .cells #[.int .i64 ((rd_T30 t182 x70_2).f0), .string ((rd_T30 t182 x70_2).f1), .int .i64 ((rd_T30 t182 x70_2).f2), .int .i64 (wrap64 (((rd_T30 t182 x70_2).f3) + (wrap64 ((a0.size : Int) + 1))))] 30 (0, 0)) (by (with_reducible repeat (first | refine blk_drewN ?_ _ | refine blk_drew ?_ | refine blk_alloc ?_ _)); refine blk_put (cs := #[.int .i64 ((rd_T30 t182 x70_2).f0), .string ((rd_T30 t182 x70_2).f1), .int .i64 ((rd_T30 t182 x70_2).f2), .int .i64 ((rd_T30 t182 x70_2).f3)]) ?_ 3 _ rfl; (with_reducible repeat (first | refine blk_drewN ?_ _ | refine blk_drew ?_ | refine blk_alloc ?_ _)); refine blk_put (cs := #[.int .i64 ((rd_T30 t182 x70_2).f0), .string ((rd_T30 t182 x70_2).f1), .int .i64 ((rd_T30 t182 x70_2).f2), .int .i64 0]) ?_ 3 _ rfl; (with_reducible repeat (first | refine blk_drewN ?_ _ | refine blk_drew ?_ | refine blk_alloc ?_ _)); refine blk_put (cs := #[.int .i64 ((rd_T30 t182 x70_2).f0), .string ((rd_T30 t182 x70_2).f1), .int .i64 0, .int .i64 0]) ?_ 2 _ rfl; (with_reducible repeat (first | refine blk_drewN ?_ _ | refine blk_drew ?_ | refine blk_alloc ?_ _)); refine blk_put (cs := #[.int .i64 ((rd_T30 t182 x70_2).f0), .string (⟨#[]⟩ : ByteArray), .int .i64 0, .int .i64 0]) ?_ 1 _ rfl; (with_reducible repeat (first | refine blk_drewN ?_ _ | refine blk_drew ?_ | refine blk_alloc ?_ _)); refine blk_put (cs := #[.int .i64 0, .string (⟨#[]⟩ : ByteArray), .int .i64 0, .int .i64 0]) ?_ 0 _ rfl; (with_reducible repeat (first | refine blk_drewN ?_ _ | refine blk_drew ?_ | refine blk_alloc ?_ _)); exact BK200.out) k_ hk⟩)); (case aO => exact (by (with_reducible repeat (first | apply Kd.R_alloc | apply Kd.R_drewN | apply Kd.R_drew)); exact Kd.R_mono (Kd.R_far (p := ⟨gb200, 3, none⟩) (Kd.R_far (p := ⟨gb200, 3, none⟩) (Kd.R_far (p := ⟨gb200, 2, none⟩) (Kd.R_far (p := ⟨gb200, 1, none⟩) (Kd.R_far (p := ⟨gb200, 0, none⟩) (Kd.R_mono HO_15.out (fun k_ hk => (⟨hk, hk.2⟩ : _ ∧ k_ ≠ gb200))) (fun _ hk => hk.2) (.int .i64 ((rd_T30 t182 x70_2).f0))) (fun _ hk => hk.2) (.string ((rd_T30 t182 x70_2).f1))) (fun _ hk => hk.2) (.int .i64 ((rd_T30 t182 x70_2).f2))) (fun _ hk => hk.2) (.int .i64 ((rd_T30 t182 x70_2).f3))) (fun _ hk => hk.2) (.int .i64 (wrap64 (((rd_T30 t182 x70_2).f3) + (wrap64 ((a0.size : Int) + 1)))))) (fun _ hk => ⟨hk.1.1.1, ⟨hk.1.1.2, hk.1.2⟩⟩))); (case aS => exact (below_size (by repeat (first | (with_reducible first | exact HB.out | apply below_alloc | apply pw_below_drewN | apply below_drew1 | refine below_set ?_ GE200.out) | exact HB.out)))); (case aL => have := LMc31.out; omega); intro v202 w34 ho hb hg hat; rw [← Ny201.out] at ho; have n0_ := Aside0.mk (Kd.R_after (ok := (fun k_ => some k_ ≠ (.slice (some ad199) t182.length co27 : Value).ownBlock ∧ k_ ≠ gb200)) (by (with_reducible repeat (first | apply Kd.R_alloc | apply Kd.R_drewN | apply Kd.R_drew)); exact Kd.R_mono (Kd.R_far (p := ⟨gb200, 3, none⟩) (Kd.R_far (p := ⟨gb200, 3, none⟩) (Kd.R_far (p := ⟨gb200, 2, none⟩) (Kd.R_far (p := ⟨gb200, 1, none⟩) (Kd.R_far (p := ⟨gb200, 0, none⟩) (Kd.R_mono HO_12.out (fun k_ hk => (⟨hk, hk.2⟩ : _ ∧ k_ ≠ gb200))) (fun _ hk => hk.2) (.int .i64 ((rd_T30 t182 x70_2).f0))) (fun _ hk => hk.2) (.string ((rd_T30 t182 x70_2).f1))) (fun _ hk => hk.2) (.int .i64 ((rd_T30 t182 x70_2).f2))) (fun _ hk => hk.2) (.int .i64 ((rd_T30 t182 x70_2).f3))) (fun _ hk => hk.2) (.int .i64 (wrap64 (((rd_T30 t182 x70_2).f3) + (wrap64 ((a0.size : Int) + 1)))))) (fun _ hk => ⟨⟨hk.1.1.2, hk.1.2⟩, hk.1.1.1⟩)) hg hat); have n1_ := Aside0.mk (Kd.R_after (ok := (fun k_ => some k_ ≠ (v190 : Value).ownBlock ∧ k_ ≠ gb200)) (by (with_reducible repeat (first | apply Kd.R_alloc | apply Kd.R_drewN | apply Kd.R_drew)); exact Kd.R_mono (Kd.R_far (p := ⟨gb200, 3, none⟩) (Kd.R_far (p := ⟨gb200, 3, none⟩) (Kd.R_far (p := ⟨gb200, 2, none⟩) (Kd.R_far (p := ⟨gb200, 1, none⟩) (Kd.R_far (p := ⟨gb200, 0, none⟩) (Kd.R_mono HO_68.out (fun k_ hk => (⟨hk, hk.2⟩ : _ ∧ k_ ≠ gb200))) (fun _ hk => hk.2) (.int .i64 ((rd_T30 t182 x70_2).f0))) (fun _ hk => hk.2) (.string ((rd_T30 t182 x70_2).f1))) (fun _ hk => hk.2) (.int .i64 ((rd_T30 t182 x70_2).f2))) (fun _ hk => hk.2) (.int .i64 ((rd_T30 t182 x70_2).f3))) (fun _ hk => hk.2) (.int .i64 (wrap64 (((rd_T30 t182 x70_2).f3) + (wrap64 ((a0.size : Int) + 1)))))) (fun _ hk => ⟨⟨hk.1.1.1, hk.1.2⟩, hk.1.1.2⟩)) hg hat); have n2_ := Aside0.mk (blk_grown (g := gb200) (o := .cells #[.int .i64 ((rd_T30 t182 x70_2).f0), .string ((rd_T30 t182 x70_2).f1), .int .i64 ((rd_T30 t182 x70_2).f2), .int .i64 (wrap64 (((rd_T30 t182 x70_2).f3) + (wrap64 ((a0.size : Int) + 1))))] 30 (0, 0)) (by (with_reducible repeat (first | refine blk_drewN ?_ _ | refine blk_drew ?_ | refine blk_alloc ?_ _)); refine blk_put (cs := #[.int .i64 ((rd_T30 t182 x70_2).f0), .string ((rd_T30 t182 x70_2).f1), .int .i64 ((rd_T30 t182 x70_2).f2), .int .i64 ((rd_T30 t182 x70_2).f3)]) ?_ 3 _ rfl; (with_reducible repeat (first | refine blk_drewN ?_ _ | refine blk_drew ?_ | refine blk_alloc ?_ _)); refine blk_put (cs := #[.int .i64 ((rd_T30 t182 x70_2).f0), .string ((rd_T30 t182 x70_2).f1), .int .i64 ((rd_T30 t182 x70_2).f2), .int .i64 0]) ?_ 3 _ rfl; (with_reducible repeat (first | refine blk_drewN ?_ _ | refine blk_drew ?_ | refine blk_alloc ?_ _)); refine blk_put (cs := #[.int .i64 ((rd_T30 t182 x70_2).f0), .string ((rd_T30 t182 x70_2).f1), .int .i64 0, .int .i64 0]) ?_ 2 _ rfl; (with_reducible repeat (first | refine blk_drewN ?_ _ | refine blk_drew ?_ | refine blk_alloc ?_ _)); refine blk_put (cs := #[.int .i64 ((rd_T30 t182 x70_2).f0), .string (⟨#[]⟩ : ByteArray), .int .i64 0, .int .i64 0]) ?_ 1 _ rfl; (with_reducible repeat (first | refine blk_drewN ?_ _ | refine blk_drew ?_ | refine blk_alloc ?_ _)); refine blk_put (cs := #[.int .i64 0, .string (⟨#[]⟩ : ByteArray), .int .i64 0, .int .i64 0]) ?_ 0 _ rfl; (with_reducible repeat (first | refine blk_drewN ?_ _ | refine blk_drew ?_ | refine blk_alloc ?_ _)); exact BK200.out) hg (Kd.R_away HO_15.out (fun _ hk => hk.2))); have n3_ := Aside0.mk (hb); have n4_ := Aside0.mk (ho); clear HO_12; clear HO_68; clear BK200; clear HB; clear HO_15; have HO_12 := n0_; have HO_68 := n1_; have BK200 := n2_; have HB := n3_; have HO203 := n4_; clear n0_ n1_ n2_ n3_ n4_; clear ho hb hg hat))
                              go_roundg k2
                              case measure => have := HJ5.out; have := HK2.out; omega
                              case rel => exact ⟨(y201), (wrap64 (x70_2 + 1)), (by first | rfl | (simp; done) | (simp [*]; done)), H', ⟨by have := HJ5.out; have := HK2.out; omega⟩, ⟨by (with_reducible repeat (first | apply Kd.R_alloc | apply Kd.R_drewN | apply Kd.R_drew)); exact Kd.R_mono HO_12.out (fun _ hk => ⟨hk.2, hk.1.1⟩)⟩, ⟨by (with_reducible repeat (first | apply Kd.R_alloc | apply Kd.R_drewN | apply Kd.R_drew)); exact Kd.R_mono HO203.out (fun _ hk => ⟨hk.1, hk.2.1⟩)⟩, ⟨by (with_reducible repeat (first | apply Kd.R_alloc | apply Kd.R_drewN | apply Kd.R_drew)); exact Kd.R_mono HO_68.out (fun _ hk => ⟨hk.1.1, hk.2⟩)⟩, ⟨by repeat (first | (with_reducible first | exact HB.out | apply below_alloc | apply pw_below_drewN | apply below_drew1 | refine below_set ?_ GE200.out) | exact HB.out)⟩⟩
                            · rw [if_neg c31] at H
                              exact absurd H (by simp)
                          · rw [if_neg c30] at H
                            exact absurd H (by simp)
                        · rw [if_neg c29] at H
                          exact absurd H (by simp)
                      · rw [if_neg c28] at H
                        have c28b0 : decide (x70_2 < (t182.length : Int)) = false := decide_eq_false c28
                        clear c28
                        by_cases c35 : t176 = true
                        · subst c35
                          have H1 : (if t189 = 0 then ((spinneyref05_Same.f k2 t187 x15_2).bind fun t204 => (some t204)) else (none)) = some r := by rw [if_pos rfl] at H; exact H
                          clear H
                          have H := H1
                          clear H1
                          by_cases c36 : t189 = 0
                          · rw [if_pos c36] at H
                            have c36b0 : (t189 == 0) = true := beq_iff_eq.mpr c36
                            have c36b1 : (t189 != 0) = false := bne_eq_false_iff_eq.mpr c36
                            clear c36
                            replace H := Option.bind_eq_some_iff.mp H
                            obtain ⟨t204, A370, H⟩ := H
                            replace H : (some t204) = some r := H
                            have A37 := Aside0.mk A370
                            clear A370
                            obtain rfl := Option.some.inj H
                            obtain ⟨Ao38, co38, eo38⟩ := Kd.R_slice HO_12.out
                            subst eo38
                            obtain ⟨Ao39, co39, eo39⟩ := Kd.R_slice HO_15.out
                            subst eo39
                            go_wp2_with (first | (go_at_call 12; (with_reducible refine (spinneyref05_Same.calls k2 _ _ t187 _ _ x15_2 t204 _ ?side1 ?side2 ?side3 ?side4 A37.out).mono ?_); (case side1 => repeat (first | exact (Kd.R_reads' HO_12.out).2.2 | (with_reducible refine Kd.C_alloc ?_ _) | (with_reducible refine Kd.C_drewN ?_ _) | (with_reducible refine Kd.C_drew ?_))); (case side2 => exact (Kd.R_reads' HO_12.out).2.1); (case side3 => repeat (first | exact (Kd.R_reads' HO_15.out).2.2 | (with_reducible refine Kd.C_alloc ?_ _) | (with_reducible refine Kd.C_drewN ?_ _) | (with_reducible refine Kd.C_drew ?_))); (case side4 => exact (Kd.R_reads' HO_15.out).2.1); rintro e w' ⟨rfl, ⟨nd, rfl⟩⟩))
                            go_ret
                            exact ⟨by first | rfl | (simp [errW_none, errW_some] <;> rfl) | (simp only [← hji19]; first | rfl | (simp [errW_none, errW_some] <;> rfl)) | (simp [*, errW_none, errW_some] <;> rfl), by repeat (first | (with_reducible first | exact HB.out | apply below_alloc | apply pw_below_drewN | apply below_drew1) | exact HB.out)⟩
                          · rw [if_neg c36] at H
                            exact absurd H (by simp)
                        · replace c35 := Bool.eq_false_iff.mpr c35
                          subst c35
                          have H1 : (none) = some r := by rw [if_neg (show ¬ (false = true) by decide)] at H; exact H
                          clear H
                          have H := H1
                          clear H1
                          exact absurd H (by simp)
                · rw [if_neg c22] at H
                  exact absurd H (by simp)
              · rw [if_neg c21] at H
                exact absurd H (by simp)
            · rw [if_neg c20] at H
              exact absurd H (by simp)
          · rw [if_neg c17] at H
            exact absurd H (by simp)
        · rw [if_neg c16] at H
          exact absurd H (by simp)

/-- THE ONE PURE STATEMENT of spinneylaw05_TokenJoins: yours. -/
def spinneylaw05_TokenJoins.Pure : Prop := ∀ (a0 : ByteArray) (a1 : ByteArray), a0.size ≤ 140737488351232 → a1.size ≤ 140737488351232 → ∃ k, spinneylaw05_TokenJoins.f k a0 a1 = some true
theorem spinneylaw05_TokenJoins.walk (P : spinneylaw05_TokenJoins.Pure) (a0 : ByteArray) (a1 : ByteArray) (w : World) (w0 : a0.size ≤ 140737488351232) (w1 : a1.size ≤ 140737488351232) (hT : Tabs w) :
    Calls Tryd.prog 7 #[.string a0, .string a1] w fun e w' => e = .returned (.bool true) ∧ Below w.heap.size w w' := by
  have HT := Aside0.mk hT
  clear hT
  obtain ⟨k, h⟩ := P a0 a1 w0 w1
  refine (spinneylaw05_TokenJoins.calls k a0 a1 true w h (HT.out.below (by first | exact Below.refl _ _ | (repeat (first | (with_reducible first | exact HB.out | apply below_alloc | apply pw_below_drewN | apply below_drew1 | refine below_set ?_ GE200.out) | exact HB.out))))).mono ?_
  rintro e w' ⟨rfl, hd⟩
  exact ⟨rfl, hd⟩

end Go.Proofs.YtjichkjnodabiaaDoor.P
