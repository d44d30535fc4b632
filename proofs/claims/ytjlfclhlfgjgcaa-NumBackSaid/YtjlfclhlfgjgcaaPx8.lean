-- PRINTED by a program of this session over the kit's print.py.
import Derived.Test.YtjlfclhlfgjgcaaPx0
import Derived.Test.YtjlfclhlfgjgcaaPx1
import Derived.Test.YtjlfclhlfgjgcaaPx2
import Derived.Test.YtjlfclhlfgjgcaaPx3
import Derived.Test.YtjlfclhlfgjgcaaPx5
import Derived.Test.YtjlfclhlfgjgcaaPx7
namespace Go.Proofs.Ytjlfclhlfgjgcaa.P
open Go.Own Go.RowKit Go.Proofs.YtjlfclhlfgjgcaaW.PrintWords Go.Proofs.YtjlfclhlfgjgcaaW.PrintLast Go.Proofs.YtjlfclhlfgjgcaaW.PrintMore
attribute [local go_sem] max2_int min2_int max_two min_two max_three min_three max_four min_four   -- for this text's walks alone
set_option linter.unusedVariables false
set_option linter.unusedSimpArgs false

/-! ### spinneylaw01_NumAdds: function 9 -/
def spinneylaw01_NumAdds.j0 : Nat → Int → Int → Bool → Option (Bool)
  | 0, _, _, _ => none
  | k + 1, x0, x1, x9 => (num_Mul.f x0 x1).bind fun bt240 => ((spinneyref01_Mul.f k x0 x1).bind fun bt242 => ((spinneylaw01_live.f).bind fun t244 => (if t244 = true then (if x9 = true then ((spinneylaw01_same.f bt240.1 bt240.2 bt242.1 bt242.2).bind fun t245 => (some t245)) else (some false)) else (some false))))
def spinneylaw01_NumAdds.f (k : Nat) (a0 : Int) (a1 : Int) : Option (Bool) := (num_Add.f a0 a1).bind fun bt230 => ((spinneyref01_Add.f a0 a1).bind fun bt232 => ((spinneylaw01_same.f bt230.1 bt230.2 bt232.1 bt232.2).bind fun t234 => ((num_Sub.f a0 a1).bind fun bt235 => ((spinneyref01_Sub.f a0 a1).bind fun bt237 => (if t234 = true then ((spinneylaw01_same.f bt235.1 bt235.2 bt237.1 bt237.2).bind fun t239 => (spinneylaw01_NumAdds.j0 k a0 a1 t239)) else (spinneylaw01_NumAdds.j0 k a0 a1 false))))))
theorem spinneylaw01_NumAdds.mono_l : ∀ k, (∀ y0 y1 y2, LeO (spinneylaw01_NumAdds.j0 k y0 y1 y2) (spinneylaw01_NumAdds.j0 (k + 1) y0 y1 y2))
  | 0 => fun _ _ _ r h => by simp [spinneylaw01_NumAdds.j0] at h
  | k + 1 => by
    have ih0 := spinneylaw01_NumAdds.mono_l k
    · intro y0 y1 y2
      unfold spinneylaw01_NumAdds.j0
      repeat' first
      | (with_reducible exact ih0 _ _ _)
      | (with_reducible exact spinneyref01_Mul.mono _ _ _)
      | (with_reducible exact LeO.refl _)
      | (with_reducible exact LeO.none _)
      | (with_reducible refine LeO.ite ?_ ?_)
      | (with_reducible refine LeO.bind ?_ (fun _ => ?_))
      | exact ih0 _ _ _
      | exact spinneyref01_Mul.mono _ _ _
      | exact LeO.none _
      | refine LeO.ite ?_ ?_
      | refine LeO.bind ?_ (fun _ => ?_)
theorem spinneylaw01_NumAdds.mono : ∀ a0 a1 k, LeO (spinneylaw01_NumAdds.f k a0 a1) (spinneylaw01_NumAdds.f (k + 1) a0 a1) := by
  intro a0 a1 k
  have ih0 := spinneylaw01_NumAdds.mono_l k
  unfold spinneylaw01_NumAdds.f
  repeat' first
      | (with_reducible exact ih0 _ _ _)
      | (with_reducible exact spinneyref01_Mul.mono _ _ _)
      | (with_reducible exact LeO.refl _)
      | (with_reducible exact LeO.none _)
      | (with_reducible refine LeO.ite ?_ ?_)
      | (with_reducible refine LeO.bind ?_ (fun _ => ?_))
      | exact ih0 _ _ _
      | exact spinneyref01_Mul.mono _ _ _
      | exact LeO.none _
      | refine LeO.ite ?_ ?_
      | refine LeO.bind ?_ (fun _ => ?_)
set_option maxHeartbeats 8000000 in
set_option maxRecDepth 100000 in
theorem spinneylaw01_NumAdds.calls (k : Nat) (a0 : Int) (a1 : Int) (r : Bool) (w : World) (h : spinneylaw01_NumAdds.f k a0 a1 = some r) :
    Calls Try.prog 9 #[.int .i64 a0, .int .i64 a1] w fun e w' => e = .returned (.bool r) ∧ Below w.heap.size w w' := by
  have HB := Aside0.mk (Below.refl w.heap.size w)
  have H : ((num_Add.f a0 a1).bind fun bt230 => ((spinneyref01_Add.f a0 a1).bind fun bt232 => ((spinneylaw01_same.f bt230.1 bt230.2 bt232.1 bt232.2).bind fun t234 => ((num_Sub.f a0 a1).bind fun bt235 => ((spinneyref01_Sub.f a0 a1).bind fun bt237 => (if t234 = true then ((spinneylaw01_same.f bt235.1 bt235.2 bt237.1 bt237.2).bind fun t239 => (spinneylaw01_NumAdds.j0 k a0 a1 t239)) else (spinneylaw01_NumAdds.j0 k a0 a1 false))))))) = some r := h
  clear h
  replace H := Option.bind_eq_some_iff.mp H
  obtain ⟨⟨t230, t231⟩, A30, H⟩ := H
  replace H : ((spinneyref01_Add.f a0 a1).bind fun bt232 => ((spinneylaw01_same.f t230 t231 bt232.1 bt232.2).bind fun t234 => ((num_Sub.f a0 a1).bind fun bt235 => ((spinneyref01_Sub.f a0 a1).bind fun bt237 => (if t234 = true then ((spinneylaw01_same.f bt235.1 bt235.2 bt237.1 bt237.2).bind fun t239 => (spinneylaw01_NumAdds.j0 k a0 a1 t239)) else (spinneylaw01_NumAdds.j0 k a0 a1 false)))))) = some r := H
  have A3 := Aside0.mk A30
  clear A30
  replace H := Option.bind_eq_some_iff.mp H
  obtain ⟨⟨t232, t233⟩, A40, H⟩ := H
  replace H : ((spinneylaw01_same.f t230 t231 t232 t233).bind fun t234 => ((num_Sub.f a0 a1).bind fun bt235 => ((spinneyref01_Sub.f a0 a1).bind fun bt237 => (if t234 = true then ((spinneylaw01_same.f bt235.1 bt235.2 bt237.1 bt237.2).bind fun t239 => (spinneylaw01_NumAdds.j0 k a0 a1 t239)) else (spinneylaw01_NumAdds.j0 k a0 a1 false))))) = some r := H
  have A4 := Aside0.mk A40
  clear A40
  replace H := Option.bind_eq_some_iff.mp H
  obtain ⟨t234, A50, H⟩ := H
  replace H : ((num_Sub.f a0 a1).bind fun bt235 => ((spinneyref01_Sub.f a0 a1).bind fun bt237 => (if t234 = true then ((spinneylaw01_same.f bt235.1 bt235.2 bt237.1 bt237.2).bind fun t239 => (spinneylaw01_NumAdds.j0 k a0 a1 t239)) else (spinneylaw01_NumAdds.j0 k a0 a1 false)))) = some r := H
  have A5 := Aside0.mk A50
  clear A50
  replace H := Option.bind_eq_some_iff.mp H
  obtain ⟨⟨t235, t236⟩, A60, H⟩ := H
  replace H : ((spinneyref01_Sub.f a0 a1).bind fun bt237 => (if t234 = true then ((spinneylaw01_same.f t235 t236 bt237.1 bt237.2).bind fun t239 => (spinneylaw01_NumAdds.j0 k a0 a1 t239)) else (spinneylaw01_NumAdds.j0 k a0 a1 false))) = some r := H
  have A6 := Aside0.mk A60
  clear A60
  replace H := Option.bind_eq_some_iff.mp H
  obtain ⟨⟨t237, t238⟩, A70, H⟩ := H
  replace H : (if t234 = true then ((spinneylaw01_same.f t235 t236 t237 t238).bind fun t239 => (spinneylaw01_NumAdds.j0 k a0 a1 t239)) else (spinneylaw01_NumAdds.j0 k a0 a1 false)) = some r := H
  have A7 := Aside0.mk A70
  clear A70
  have HC8 := Aside0.mk H
  clear H
  go_enter Try.func9, Try.ntmps9
  go_upto_region 6 with (first | ((with_reducible refine gate_callee (f := 27) rfl ?_); refine goesL_ (some 13) rfl rfl Try.func27 (by kernel_rfl) rfl #[.int .i64 a0, .int .i64 a1] rfl (by (try simp only [List.map_toArray, List.map_cons, List.map_nil]); first | done | rfl | (simp only [List.length_drop, List.length_take]; rfl)) ?_; (with_reducible refine (num_Add.calls a0 a1 t230 t231 _ A3.out).mono ?_); rintro e w' ⟨rfl, ⟨nd, rfl⟩⟩; refine ⟨_, rfl, ?_⟩) | ((with_reducible refine gate_callee (f := 37) rfl ?_); refine goesL_ (some 19) rfl rfl Try.func37 (by kernel_rfl) rfl #[.int .i64 a0, .int .i64 a1] rfl (by (try simp only [List.map_toArray, List.map_cons, List.map_nil]); first | done | rfl | (simp only [List.length_drop, List.length_take]; rfl)) ?_; (with_reducible refine (spinneyref01_Add.calls a0 a1 t232 t233 _ A4.out).mono ?_); rintro e w' ⟨rfl, ⟨nd, rfl⟩⟩; refine ⟨_, rfl, ?_⟩) | ((with_reducible refine gate_callee (f := 17) rfl ?_); refine goesL_ (some 26) rfl rfl Try.func17 (by kernel_rfl) rfl #[.int .i64 t230, .int .i64 t231, .int .i64 t232, .int .i64 t233] rfl (by (try simp only [List.map_toArray, List.map_cons, List.map_nil]); first | done | rfl | (simp only [List.length_drop, List.length_take]; rfl)) ?_; (with_reducible refine (spinneylaw01_same.calls t230 t231 t232 t233 t234 _ A5.out).mono ?_); rintro e w' ⟨rfl, ⟨nd, rfl⟩⟩; refine ⟨_, rfl, ?_⟩) | ((with_reducible refine gate_callee (f := 38) rfl ?_); refine goesL_ (some 30) rfl rfl Try.func38 (by kernel_rfl) rfl #[.int .i64 a0, .int .i64 a1] rfl (by (try simp only [List.map_toArray, List.map_cons, List.map_nil]); first | done | rfl | (simp only [List.length_drop, List.length_take]; rfl)) ?_; (with_reducible refine (num_Sub.calls a0 a1 t235 t236 _ A6.out).mono ?_); rintro e w' ⟨rfl, ⟨nd, rfl⟩⟩; refine ⟨_, rfl, ?_⟩) | ((with_reducible refine gate_callee (f := 39) rfl ?_); refine goesL_ (some 36) rfl rfl Try.func39 (by kernel_rfl) rfl #[.int .i64 a0, .int .i64 a1] rfl (by (try simp only [List.map_toArray, List.map_cons, List.map_nil]); first | done | rfl | (simp only [List.length_drop, List.length_take]; rfl)) ?_; (with_reducible refine (spinneyref01_Sub.calls a0 a1 t237 t238 _ A7.out).mono ?_); rintro e w' ⟨rfl, ⟨nd, rfl⟩⟩; refine ⟨_, rfl, ?_⟩))
  (try simp only [Act.put, List.setIfInBounds_toArray, List.set_cons_zero, List.set_cons_succ])
  go_cut [9] (fun v9 wc => ∃ (kq : Nat) (x9_7 : Bool), v9 = .bool x9_7 ∧ Aside0 (spinneylaw01_NumAdds.j0 kq a0 a1 x9_7 = some r) ∧ Aside0 (kq ≤ k) ∧ Aside0 (Below w.heap.size w wc))
  case first =>
    have H := HC8.out
    clear HC8
    by_cases c9 : t234 = true
    · subst c9
      have H1 : ((spinneylaw01_same.f t235 t236 t237 t238).bind fun t239 => (spinneylaw01_NumAdds.j0 k a0 a1 t239)) = some r := by rw [if_pos rfl] at H; exact H
      clear H
      have H := H1
      clear H1
      replace H := Option.bind_eq_some_iff.mp H
      obtain ⟨t239, A100, H⟩ := H
      replace H : (spinneylaw01_NumAdds.j0 k a0 a1 t239) = some r := H
      have A10 := Aside0.mk A100
      clear A100
      have H' := Aside0.mk H
      clear H
      go_wp2_with (first | (go_at_call 17; (with_reducible refine (spinneylaw01_same.calls t235 t236 t237 t238 t239 _ A10.out).mono ?_); rintro e w' ⟨rfl, ⟨nd, rfl⟩⟩))
      go_meet
      case rel => exact ⟨_, (t239), (by first | rfl | (simp; done) | (simp [*]; done)), H', ⟨by first | omega | exact Nat.le_refl _⟩, ⟨by repeat (first | (with_reducible first | exact HB.out | apply below_alloc | apply pw_below_drewN | apply below_drew1) | exact HB.out)⟩⟩
    · replace c9 := Bool.eq_false_iff.mpr c9
      subst c9
      have H1 : (spinneylaw01_NumAdds.j0 k a0 a1 false) = some r := by rw [if_neg (show ¬ (false = true) by decide)] at H; exact H
      clear H
      have H := H1
      clear H1
      have H' := Aside0.mk H
      clear H
      go_wp2
      go_meet
      case rel => exact ⟨_, (false), (by first | rfl | (simp; done) | (simp [*]; done)), H', ⟨by first | omega | exact Nat.le_refl _⟩, ⟨by repeat (first | (with_reducible first | exact HB.out | apply below_alloc | apply pw_below_drewN | apply below_drew1) | exact HB.out)⟩⟩
  case rest =>
    clear HC8
    try clear c1
    try clear c2
    try clear p2
    try clear c3
    try clear c9
    obtain ⟨kq, x9_7, rfl, HA, HJ7, HB⟩ := hcut
    cases kq with
    | zero => exact absurd HA.out (by simp [spinneylaw01_NumAdds.j0])
    | succ kj7 =>
      have H := HA.out
      clear HA
      simp only [spinneylaw01_NumAdds.j0] at H
      replace H := Option.bind_eq_some_iff.mp H
      obtain ⟨⟨t240, t241⟩, A110, H⟩ := H
      replace H : ((spinneyref01_Mul.f kj7 a0 a1).bind fun bt242 => ((spinneylaw01_live.f).bind fun t244 => (if t244 = true then (if x9_7 = true then ((spinneylaw01_same.f t240 t241 bt242.1 bt242.2).bind fun t245 => (some t245)) else (some false)) else (some false)))) = some r := H
      have A11 := Aside0.mk A110
      clear A110
      replace H := Option.bind_eq_some_iff.mp H
      obtain ⟨⟨t242, t243⟩, A120, H⟩ := H
      replace H : ((spinneylaw01_live.f).bind fun t244 => (if t244 = true then (if x9_7 = true then ((spinneylaw01_same.f t240 t241 t242 t243).bind fun t245 => (some t245)) else (some false)) else (some false))) = some r := H
      have A12 := Aside0.mk A120
      clear A120
      replace H := Option.bind_eq_some_iff.mp H
      obtain ⟨t244, A130, H⟩ := H
      replace H : (if t244 = true then (if x9_7 = true then ((spinneylaw01_same.f t240 t241 t242 t243).bind fun t245 => (some t245)) else (some false)) else (some false)) = some r := H
      have A13 := Aside0.mk A130
      clear A130
      by_cases c14 : t244 = true
      · subst c14
        have H1 : (if x9_7 = true then ((spinneylaw01_same.f t240 t241 t242 t243).bind fun t245 => (some t245)) else (some false)) = some r := by rw [if_pos rfl] at H; exact H
        clear H
        have H := H1
        clear H1
        by_cases c15 : x9_7 = true
        · subst c15
          have H1 : ((spinneylaw01_same.f t240 t241 t242 t243).bind fun t245 => (some t245)) = some r := by rw [if_pos rfl] at H; exact H
          clear H
          have H := H1
          clear H1
          replace H := Option.bind_eq_some_iff.mp H
          obtain ⟨t245, A160, H⟩ := H
          replace H : (some t245) = some r := H
          have A16 := Aside0.mk A160
          clear A160
          obtain rfl := Option.some.inj H
          go_wp2_with (first | ((with_reducible refine gate_callee (f := 28) rfl ?_); refine goesL_ (some 50) rfl rfl Try.func28 (by kernel_rfl) rfl #[.int .i64 a0, .int .i64 a1] rfl (by (try simp only [List.map_toArray, List.map_cons, List.map_nil]); first | done | rfl | (simp only [List.length_drop, List.length_take]; rfl)) ?_; (with_reducible refine (num_Mul.calls a0 a1 t240 t241 _ A11.out).mono ?_); rintro e w' ⟨rfl, ⟨nd, rfl⟩⟩; refine ⟨_, rfl, ?_⟩) | ((with_reducible refine gate_callee (f := 40) rfl ?_); refine goesL_ (some 56) rfl rfl Try.func40 (by kernel_rfl) rfl #[.int .i64 a0, .int .i64 a1] rfl (by (try simp only [List.map_toArray, List.map_cons, List.map_nil]); first | done | rfl | (simp only [List.length_drop, List.length_take]; rfl)) ?_; (with_reducible refine (spinneyref01_Mul.calls kj7 a0 a1 t242 t243 _ A12.out).mono ?_); rintro e w' ⟨rfl, ⟨nd, rfl⟩⟩; refine ⟨_, rfl, ?_⟩) | ((with_reducible refine gate_callee (f := 22) rfl ?_); refine goesL_ (some 59) rfl rfl Try.func22 (by kernel_rfl) rfl #[] rfl (by (try simp only [List.map_toArray, List.map_cons, List.map_nil]); first | done | rfl | (simp only [List.length_drop, List.length_take]; rfl)) ?_; (with_reducible refine (spinneylaw01_live.calls  true _ A13.out).mono ?_); rintro e w17 ⟨rfl, hb⟩; refine ⟨_, rfl, ?_⟩; have n0_ := Aside0.mk (below_step (by repeat (first | (with_reducible first | exact HB.out | apply below_alloc | apply pw_below_drewN | apply below_drew1) | exact HB.out)) hb); clear HB; have HB := n0_; clear n0_; (try clear hb); (try clear hb2); (try clear hk); (try clear hi)) | (go_at_call 17; (with_reducible refine (spinneylaw01_same.calls t240 t241 t242 t243 t245 _ A16.out).mono ?_); rintro e w' ⟨rfl, ⟨nd, rfl⟩⟩))
          go_ret
          exact ⟨by first | rfl | (simp [errW_none, errW_some] <;> rfl) | (simp [*, errW_none, errW_some] <;> rfl), by repeat (first | (with_reducible first | exact HB.out | apply below_alloc | apply pw_below_drewN | apply below_drew1) | exact HB.out)⟩
        · replace c15 := Bool.eq_false_iff.mpr c15
          subst c15
          have H1 : (some false) = some r := by rw [if_neg (show ¬ (false = true) by decide)] at H; exact H
          clear H
          have H := H1
          clear H1
          obtain rfl := Option.some.inj H
          go_wp2_with (first | ((with_reducible refine gate_callee (f := 28) rfl ?_); refine goesL_ (some 50) rfl rfl Try.func28 (by kernel_rfl) rfl #[.int .i64 a0, .int .i64 a1] rfl (by (try simp only [List.map_toArray, List.map_cons, List.map_nil]); first | done | rfl | (simp only [List.length_drop, List.length_take]; rfl)) ?_; (with_reducible refine (num_Mul.calls a0 a1 t240 t241 _ A11.out).mono ?_); rintro e w' ⟨rfl, ⟨nd, rfl⟩⟩; refine ⟨_, rfl, ?_⟩) | ((with_reducible refine gate_callee (f := 40) rfl ?_); refine goesL_ (some 56) rfl rfl Try.func40 (by kernel_rfl) rfl #[.int .i64 a0, .int .i64 a1] rfl (by (try simp only [List.map_toArray, List.map_cons, List.map_nil]); first | done | rfl | (simp only [List.length_drop, List.length_take]; rfl)) ?_; (with_reducible refine (spinneyref01_Mul.calls kj7 a0 a1 t242 t243 _ A12.out).mono ?_); rintro e w' ⟨rfl, ⟨nd, rfl⟩⟩; refine ⟨_, rfl, ?_⟩) | ((with_reducible refine gate_callee (f := 22) rfl ?_); refine goesL_ (some 59) rfl rfl Try.func22 (by kernel_rfl) rfl #[] rfl (by (try simp only [List.map_toArray, List.map_cons, List.map_nil]); first | done | rfl | (simp only [List.length_drop, List.length_take]; rfl)) ?_; (with_reducible refine (spinneylaw01_live.calls  true _ A13.out).mono ?_); rintro e w18 ⟨rfl, hb⟩; refine ⟨_, rfl, ?_⟩; have n0_ := Aside0.mk (below_step (by repeat (first | (with_reducible first | exact HB.out | apply below_alloc | apply pw_below_drewN | apply below_drew1) | exact HB.out)) hb); clear HB; have HB := n0_; clear n0_; (try clear hb); (try clear hb2); (try clear hk); (try clear hi)))
          go_ret
          exact ⟨by first | rfl | (simp [errW_none, errW_some] <;> rfl) | (simp [*, errW_none, errW_some] <;> rfl), by repeat (first | (with_reducible first | exact HB.out | apply below_alloc | apply pw_below_drewN | apply below_drew1) | exact HB.out)⟩
      · replace c14 := Bool.eq_false_iff.mpr c14
        subst c14
        have H1 : (some false) = some r := by rw [if_neg (show ¬ (false = true) by decide)] at H; exact H
        clear H
        have H := H1
        clear H1
        obtain rfl := Option.some.inj H
        go_wp2_with (first | ((with_reducible refine gate_callee (f := 28) rfl ?_); refine goesL_ (some 50) rfl rfl Try.func28 (by kernel_rfl) rfl #[.int .i64 a0, .int .i64 a1] rfl (by (try simp only [List.map_toArray, List.map_cons, List.map_nil]); first | done | rfl | (simp only [List.length_drop, List.length_take]; rfl)) ?_; (with_reducible refine (num_Mul.calls a0 a1 t240 t241 _ A11.out).mono ?_); rintro e w' ⟨rfl, ⟨nd, rfl⟩⟩; refine ⟨_, rfl, ?_⟩) | ((with_reducible refine gate_callee (f := 40) rfl ?_); refine goesL_ (some 56) rfl rfl Try.func40 (by kernel_rfl) rfl #[.int .i64 a0, .int .i64 a1] rfl (by (try simp only [List.map_toArray, List.map_cons, List.map_nil]); first | done | rfl | (simp only [List.length_drop, List.length_take]; rfl)) ?_; (with_reducible refine (spinneyref01_Mul.calls kj7 a0 a1 t242 t243 _ A12.out).mono ?_); rintro e w' ⟨rfl, ⟨nd, rfl⟩⟩; refine ⟨_, rfl, ?_⟩) | ((with_reducible refine gate_callee (f := 22) rfl ?_); refine goesL_ (some 59) rfl rfl Try.func22 (by kernel_rfl) rfl #[] rfl (by (try simp only [List.map_toArray, List.map_cons, List.map_nil]); first | done | rfl | (simp only [List.length_drop, List.length_take]; rfl)) ?_; (with_reducible refine (spinneylaw01_live.calls  false _ A13.out).mono ?_); rintro e w19 ⟨rfl, hb⟩; refine ⟨_, rfl, ?_⟩; have n0_ := Aside0.mk (below_step (by repeat (first | (with_reducible first | exact HB.out | apply below_alloc | apply pw_below_drewN | apply below_drew1) | exact HB.out)) hb); clear HB; have HB := n0_; clear n0_; (try clear hb); (try clear hb2); (try clear hk); (try clear hi)))
        go_ret
        exact ⟨by first | rfl | (simp [errW_none, errW_some] <;> rfl) | (simp [*, errW_none, errW_some] <;> rfl), by repeat (first | (with_reducible first | exact HB.out | apply below_alloc | apply pw_below_drewN | apply below_drew1) | exact HB.out)⟩

/-- THE ONE PURE STATEMENT of spinneylaw01_NumAdds: yours. -/
def spinneylaw01_NumAdds.Pure : Prop := ∀ (a0 : Int) (a1 : Int), (Lit.int .i64 a0).wf = true → (Lit.int .i64 a1).wf = true → ∃ k, spinneylaw01_NumAdds.f k a0 a1 = some true
theorem spinneylaw01_NumAdds.walk (P : spinneylaw01_NumAdds.Pure) (a0 : Int) (a1 : Int) (w : World) (w0 : (Lit.int .i64 a0).wf = true) (w1 : (Lit.int .i64 a1).wf = true) :
    Calls Try.prog 9 #[.int .i64 a0, .int .i64 a1] w fun e w' => e = .returned (.bool true) ∧ Below w.heap.size w w' := by
  obtain ⟨k, h⟩ := P a0 a1 w0 w1
  refine (spinneylaw01_NumAdds.calls k a0 a1 true w h).mono ?_
  rintro e w' ⟨rfl, hd⟩
  exact ⟨rfl, hd⟩

end Go.Proofs.Ytjlfclhlfgjgcaa.P
