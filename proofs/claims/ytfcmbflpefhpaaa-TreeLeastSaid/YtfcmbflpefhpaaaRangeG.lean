/- A range over a function whose yielded values come with a fact about the memory. -- ONLYIF spinney/tree.places -/
import Derived.RangeFuncNested
import Derived.RangeFuncBound
import Derived.RangeFuncCalls
import Derived.RangeFuncLeaves
import Derived.Maps.OwnIn
import Derived.Lib.SliceRun
set_option linter.unusedVariables false
namespace Go.Own
open Go Go.RowKit
variable {F : Fence} {n : Nat} {P : Program}
/-- An iterator that yields each element with a fact G about the memory at that call (the second world), and as it was when the round before was over (the first). -/
def SeqG {α : Type} (F : Fence) (n : Nat) (P : Program) (g : Nat) (lb : Array Value) (encs : α → Array Value) (Kp : World → World → Prop) (G : List α → α → World → World → Prop) (S Sp : List α → Prop) (w : World) : Prop :=
  ∀ (l : Nat) (J Jx : List α → World → Prop) (W : World), Below w.heap.size w W → AbidesFrom W.heap.size J → AbidesFrom W.heap.size Jx →
    (∀ pre x X W1, J pre X → J pre W1 → G pre x X W1 → YieldAt F (n - 1) P l (encs x) W1 fun e W' =>
      (e = .returned (.bool true) ∧ J (pre ++ [x]) W' ∧ Kp W1 W') ∨ (e = .returned (.bool false) ∧ Jx (pre ++ [x]) W')) →
    J [] W →
    CallsIn F n P g (#[.func (.yield l) #[] #[]] ++ lb) W fun e W' => (∃ v, e = .returned v) ∧ ((∃ xs, S xs ∧ J xs W') ∨ (∃ pre, Sp pre ∧ Jx pre W'))
/-- the two blocks that an outermost loop lays: its record, and the one of the rounds' deferred calls -/
structure Laid (rec : LoopState → Option Code → Loop) (st : LoopState) (pe : Option Code) (b : Nat) (W : World) : Prop where
  recf : W.heap[b + 1]? = some (.loop (rec st pe))
  def_ : W.heap[b]? = some (.deferred (some []))
theorem Laid.lt {rec : LoopState → Option Code → Loop} {st : LoopState} {pe : Option Code} {b : Nat} {W : World} (h : Laid rec st pe b W) : b + 1 < W.heap.size := (Array.getElem?_eq_some_iff.1 h.recf).1
theorem Laid.put {rec : LoopState → Option Code → Loop} {st : LoopState} {pe : Option Code} {b : Nat} {W : World} (h : Laid rec st pe b W) (st2 : LoopState) (pe2 : Option Code) :
    Laid rec st2 pe2 b (W.putObj (b + 1) (.loop (rec st2 pe2))) :=
  ⟨World.putObj_heap_same h.lt, (World.putObj_heap_other (by omega)).trans h.def_⟩
theorem Laid.keep {rec : LoopState → Option Code → Loop} {st : LoopState} {pe : Option Code} {b : Nat} {W W' : World} (h : Laid rec st pe b W) (k : KeepsFrom b W W') : Laid rec st pe b W' :=
  ⟨k.same _ _ (by omega) h.recf rfl, k.same _ _ (Nat.le_refl _) h.def_ rfl⟩
theorem Laid.grown {rec : LoopState → Option Code → Loop} {st : LoopState} {pe : Option Code} {b : Nat} {W W' : World} {row : Option Nat} (h : Laid rec st pe b W) (hg : W.grownBy W' row) (hr : ∀ r, row = some r → ∃ o : Obj, W.heap[r]? = some o ∧ o.isWalk = true) : Laid rec st pe b W' :=
  ⟨(grownBy_keeps hg (fun r e => hr r e) h.recf rfl).trans h.recf, (grownBy_keeps hg (fun r e => hr r e) h.def_ rfl).trans h.def_⟩
/-- the statement 'for .. := range seq { .. }' over such an iterator, outermost; the body may go on or leave by an exit -/
theorem wpIn_rangeG {α : Type} {g : Operand} {ps : Array Tmp} {assign body : Code} {Q : Exit → Act → World → Prop} {a : Act} {w : World}
    (hro : F.round = none) (h1 : 1 ≤ n) {gf : Nat} {lb : Array Value} (hg : a.eval g = .func (.func gf) #[] lb) (hFg : F.fn gf) (eg : ∀ args w, (callFunc gf args).run P w = .ok (.enter gf args) w)
    {encs : α → Array Value} {Kp : World → World → Prop} {G : List α → α → World → World → Prop} {S Sp : List α → Prop} {w0 : World} (hseq : SeqG F (n - 1) P gf lb encs Kp G S Sp w0)
    (hKt : ∀ {A B C : World}, Kp A B → Kp B C → Kp A C) (hKb : ∀ (W : World) (l : Nat) (o o' : Obj), w.heap.size ≤ l → W.heap[l]? = some o → o.isCells = false → o.isWalk = false → Kp W (W.putObj l o')) (hb0 : Below w0.heap.size w0 w) (hps : ∀ x, (encs x).size = ps.size)
    (I : List α → World → Prop) (Ix : Code → List α → World → Prop) (hI : OwnFrom w.heap.size I) (hIx : ∀ c, OwnFrom w.heap.size (Ix c)) (hG : ∀ pre x X, OwnFrom w.heap.size (fun (_ : Unit) W => G pre x X W)) (h0 : I [] w) (a₁ : α → Act)
    (hassign : ∀ (l : Nat) (x : α) (W : World) (K : Act → World → Prop), K (a₁ x) W →
      assign.wpIn (F.inRound l) (n - 1 - 1) P (Exit.then K (fun _ _ _ => False)) { tmps := (ps.zip (encs x)).foldl (fun t (p, v) => t.setIfInBounds p v) a.tmps, defers := [] } W)
    (hbody : ∀ (l : Nat) (pre : List α) (x : α) (X W : World), I pre X → I pre W → G pre x X W → body.wpIn (F.inRound l) (n - 1 - 1) P (ownPostG w.heap.size Kp I Ix (pre ++ [x]) W) (a₁ x) W)
    (hdone : ∀ (D : Nat) (xs : List α) (W : World), w.heap.size ≤ D → S xs → I xs W → W.heap[D]? = some (.deferred (some [])) → Q .normal { a with defers := { target := .collected D, args := #[] } :: a.defers } W)
    (hstop : ∀ (D : Nat) (c : Code) (pre : List α) (W : World), w.heap.size ≤ D → Sp pre → Ix c pre W → W.heap[D]? = some (.deferred (some [])) → c.wpIn F n P Q { a with defers := { target := .collected D, args := #[] } :: a.defers } W) :
    (Code.rangeFunc g ps assign body).wpIn F n P Q a w := by
  refine wpIn_rangeFunc fun fn hfn => ?_
  generalize hB : w.heap.size = B at *
  obtain ⟨rec, hrec⟩ : ∃ rec : LoopState → Option Code → Loop, rec = fun st pe => { state := st, pending := pe, fn, tmps := a.tmps, params := ps, assign, body, defers := B } := ⟨_, rfl⟩
  have rst : ∀ st pe st2, { rec st pe with state := st2 } = rec st2 pe := fun st pe st2 => by rw [hrec]
  have rpe : ∀ st pe st2 pe2, { rec st pe with state := st2, pending := pe2 } = rec st2 pe2 := fun st pe st2 pe2 => by rw [hrec]
  have rs : ∀ st pe, (rec st pe).state = st ∧ (rec st pe).pending = pe ∧ (rec st pe).fn = fn ∧ (rec st pe).tmps = a.tmps ∧ (rec st pe).params = ps ∧ (rec st pe).assign = assign ∧ (rec st pe).body = body := fun st pe => by rw [hrec]; exact ⟨rfl, rfl, rfl, rfl, rfl, rfl, rfl⟩
  have hlay : Laid rec .ready none B ((w.alloc (.deferred (some []))).alloc (.loop (rec .ready none))) := by
    constructor
    · have := World.alloc_heap_new (w.alloc (.deferred (some []))) (.loop (rec .ready none))
      rw [World.size_alloc, hB] at this
      exact this
    · have h2 := World.alloc_heap_new w (.deferred (some []))
      rw [hB] at h2
      exact (Below.heap_alloc _ _ _ (by rw [World.size_alloc, hB]; omega)).trans h2
  have hgo : Below w0.heap.size w0 ((w.alloc (.deferred (some []))).alloc (.loop (rec .ready none))) :=
    hb0.trans ((((Below.refl _ w).alloc (Nat.le_refl _) _).alloc (by simp) _).mono hb0.size)
  have hsz : B ≤ ((w.alloc (.deferred (some []))).alloc (.loop (rec .ready none))).heap.size := by rw [World.size_alloc, World.size_alloc, hB]; omega
  have hi0 : I [] ((w.alloc (.deferred (some []))).alloc (.loop (rec .ready none))) := hI.alloc _ (hI.alloc _ h0)
  obtain ⟨W1, hW1⟩ : ∃ W1, (w.alloc (.deferred (some []))).alloc (.loop (rec .ready none)) = W1 := ⟨_, rfl⟩
  refine ⟨B + 1, [{ target := .collected B, args := #[] }], W1, { target := .fn (.func gf) lb, args := #[.func (.yield (B + 1)) #[] #[]] }, W1, gf, #[.func (.yield (B + 1)) #[] #[]] ++ lb, W1, ?_, ?_, ?_, ?_, fun _ => h1, ?_⟩
  · rw [hro, ← hW1, hrec, ← hB]; exact run_enterLoop_outer _ _ _ _ _
  · simp only [resolve, hg]; simp [go_sem]
  · intro f' hf'; simp [Target.leads] at hf'; subst hf'; exact hFg
  · simp [invoke, go_sem, eg]
  rw [hW1] at hlay hgo hsz hi0
  clear hW1
  refine (hseq (B + 1) (fun pre W => I pre W ∧ Laid rec .ready none B W) (fun pre W => ∃ c, Ix c pre W ∧ Laid rec .done (some c) B W) W1 hgo ?_ ?_ ?_ ⟨hi0, hlay⟩).mono ?_
  · exact fun s X Y row hs hg2 hr => ⟨hI s X Y row hs.1 hg2 (fun r e => ⟨Nat.le_trans hsz (hr r e).1, by obtain ⟨-, o, ho, hw⟩ := hr r e; exact ⟨o, ho, Obj.not_cells_of_walk hw⟩⟩), hs.2.grown hg2 fun r e => (hr r e).2⟩
  · rintro s X Y row ⟨c, hc, hl⟩ hg2 hr
    exact ⟨c, hIx c s X Y row hc hg2 (fun r e => ⟨Nat.le_trans hsz (hr r e).1, by obtain ⟨-, o, ho, hw⟩ := hr r e; exact ⟨o, ho, Obj.not_cells_of_walk hw⟩⟩), hl.grown hg2 fun r e => (hr r e).2⟩
  · rintro pre x X W ⟨hiX, -⟩ ⟨hi, hl⟩ hgx
    obtain ⟨q1, q2, q3, q4, q5, q6, q7⟩ := rs .ready none
    have hy := run_yield (P := P) (args := encs x) hl.recf (by rw [q5]; exact hps x)
    rw [q3, q4, q5, q6, q7] at hy
    refine ⟨fn, _, assign, body, hy, roundIn_of_wpIn hfn (hassign _ x W _ ?_)⟩
    have hbegin := run_beginRound (P := P) hl.recf q1
    rw [rst] at hbegin
    refine ⟨_, hbegin, ?_⟩
    have hl2 := hl.put .busy none
    have hk2 : Kp W (W.putObj (B + 1) (.loop (rec .busy none))) := hKb _ _ _ _ (by omega) hl.recf rfl rfl
    have hi2 : I pre (W.putObj (B + 1) (.loop (rec .busy none))) := hI.putObj _ hi (by omega) hl.recf rfl
    have hg2 : G pre x X (W.putObj (B + 1) (.loop (rec .busy none))) := (hG pre x X).putObj (s := ()) _ hgx (by omega) hl.recf rfl
    generalize W.putObj (B + 1) (.loop (rec .busy none)) = W2 at hl2 hk2 hi2 hg2
    refine wpIn_mono (hbody _ pre x X W2 hiX hi2 hg2) ?_
    have leave : ∀ (jump : Option Code) (W3 : World), KeepsFrom B W2 W3 → (Instr.endRound (B + 1) jump).run P W3 = .ok (.bool jump.isNone) (W3.putObj (B + 1) (.loop (rec (if jump.isNone then .ready else .done) jump))) ∧ Laid rec .busy none B W3 := by
      intro jump W3 hk
      have hl3 := hl2.keep hk
      have he := run_endRound (P := P) jump hl3.recf
      rw [rpe] at he
      exact ⟨he, hl3⟩
    rintro e a3 W3 hp
    have out : ∀ c : Code, KeepsFrom B W2 W3 → Ix c (pre ++ [x]) W3 → ∃ b W4, (Instr.endRound (B + 1) (some c)).run P W3 = .ok b W4 ∧
        ((b = Value.bool true ∧ (I (pre ++ [x]) W4 ∧ Laid rec .ready none B W4) ∧ Kp W W4) ∨ (b = Value.bool false ∧ ∃ c', Ix c' (pre ++ [x]) W4 ∧ Laid rec .done (some c') B W4)) := by
      intro c hk hx
      obtain ⟨he, hl3⟩ := leave (some c) W3 hk
      exact ⟨_, _, he, .inr ⟨rfl, c, (hIx c).putObj _ hx (by omega) hl3.recf rfl, hl3.put .done (some c)⟩⟩
    cases e with
    | normal =>
      obtain ⟨hk, hkp, hx⟩ := hp
      obtain ⟨he, hl3⟩ := leave none W3 hk
      exact ⟨_, _, he, .inl ⟨rfl, ⟨hI.putObj _ hx (by omega) hl3.recf rfl, hl3.put .ready none⟩, hKt (hKt hk2 hkp) (hKb _ _ _ _ (by omega) hl3.recf rfl rfl)⟩⟩
    | ret =>
      obtain ⟨b, W4, he, h⟩ := out .ret hp.1 hp.2
      exact ⟨b, W4, he, by rcases h with ⟨rfl, h⟩ | ⟨rfl, h⟩; exact .inl ⟨rfl, h⟩; exact .inr ⟨rfl, h⟩⟩
    | exit id =>
      obtain ⟨b, W4, he, h⟩ := out (.exit id) hp.1 hp.2
      exact ⟨b, W4, he, by rcases h with ⟨rfl, h⟩ | ⟨rfl, h⟩; exact .inl ⟨rfl, h⟩; exact .inr ⟨rfl, h⟩⟩
    | goto t =>
      obtain ⟨b, W4, he, h⟩ := out (.goto t) hp.1 hp.2
      exact ⟨b, W4, he, by rcases h with ⟨rfl, h⟩ | ⟨rfl, h⟩; exact .inl ⟨rfl, h⟩; exact .inr ⟨rfl, h⟩⟩
    | panic ch => exact hp.elim
    | outgrown => exact hp.elim
  · rintro e W2 ⟨⟨v, rfl⟩, (⟨xs, hS, hi, hl⟩ | ⟨pre, hSp, c, hc, hl⟩)⟩
    · obtain ⟨q1, q2, -⟩ := rs .ready none
      have he := run_endLoop (P := P) hl.recf (by rw [q1]; simp)
      rw [q2] at he
      exact ⟨none, _, he, hdone B xs _ (Nat.le_refl _) hS (hI.putObj _ hi (by omega) hl.recf rfl) ((World.putObj_heap_other (by omega)).trans hl.def_)⟩
    · obtain ⟨q1, q2, -⟩ := rs .done (some c)
      have he := run_endLoop (P := P) hl.recf (by rw [q1]; simp)
      rw [q2] at he
      exact ⟨some c, _, he, hstop B c pre _ (Nat.le_refl _) hSp ((hIx c).putObj _ hc (by omega) hl.recf rfl) ((World.putObj_heap_other (by omega)).trans hl.def_)⟩
end Go.Own
