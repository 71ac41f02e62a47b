/- Code and functions: what the evaluator says is what the model does. -/
import Derived.Test.YtinkhmfciealkaaDraw
import Derived.LoopN
set_option linter.unusedSimpArgs false
namespace Go.Ev
open Go.RowKit

def Ex.to : Ex → Exit
  | .normal => .normal
  | .exit id => .exit id
  | .ret => .ret

def RunsTo (P : Program) (c : Code) (s : PS) (ex : Ex) (s' : PS) : Prop :=
  ∀ B0 w0 a w, Rel B0 w0 s a w → ∀ Q : Exit → Act → World → Prop, (∀ a' w', Rel B0 w0 s' a' w' → Q ex.to a' w') → c.wp P Q a w

/-- A loop comes to an end, after so many rounds. -/
def LoopTo (P : Program) (x : Code) (s : PS) (ex : Ex) (s' : PS) : Prop :=
  ∃ n, ∀ B0 w0 a w, Rel B0 w0 s a w → ∀ Q : Exit → Act → World → Prop, (∀ a' w', Rel B0 w0 s' a' w' → Q ex.to a' w') → Code.rounds P x Q n a w

section
variable {P : Program} {x y : Code} {s s1 s' : PS} {ex : Ex}

theorem LoopTo.runs (h : LoopTo P x s ex s') : RunsTo P (.loop x) s ex s' := fun B0 w0 a w hr Q hq => by
  obtain ⟨n, h⟩ := h
  exact wp_loop_rounds n (h B0 w0 a w hr Q hq)

theorem LoopTo.next (h1 : RunsTo P x s .normal s1) (h2 : LoopTo P x s1 ex s') : LoopTo P x s ex s' := by
  obtain ⟨n, h2⟩ := h2
  refine ⟨n + 1, fun B0 w0 a w hr Q hq => ?_⟩
  rw [rounds_succ]
  exact h1 B0 w0 a w hr _ fun a' w' hr' => h2 B0 w0 a' w' hr' Q hq

theorem LoopTo.last (h1 : RunsTo P x s ex s') (he : ex ≠ .normal) : LoopTo P x s ex s' := by
  refine ⟨1, fun B0 w0 a w hr Q hq => ?_⟩
  rw [rounds_succ]
  refine h1 B0 w0 a w hr _ fun a' w' hr' => ?_
  cases ex with
  | normal => exact absurd rfl he
  | exit id => exact hq a' w' hr'
  | ret => exact hq a' w' hr'
end

/-- What a summary says, where its tests are decided. -/
def Out.at' {α : Type} : Out α → Option α
  | .no => none
  | .done x => some x
  | .br b x y => bif b then x.at' else y.at'
  | .alt o f g => optE o (fun x => (f x).at') g.at'
  | .sum o f g => sumE o (fun x => (f x).at') (fun x => (g x).at')

theorem Out.run_at {α R : Type} : ∀ {o : Out α} {k : α → Option R} {r : R}, o.run k = some r → ∃ x, o.at' = some x ∧ k x = some r
  | .no, _, _, h => by cases h
  | .done x, _, _, h => ⟨x, rfl, h⟩
  | .br b x y, k, r, h => by
    cases b
    · exact Out.run_at (o := y) h
    · exact Out.run_at (o := x) h
  | .alt o f g, k, r, h => by
    cases o with
    | none => exact Out.run_at (o := g) h
    | some x => exact Out.run_at (o := f x) h
  | .sum o f g, k, r, h => by
    cases o with
    | inl x => exact Out.run_at (o := f x) h
    | inr x => exact Out.run_at (o := g x) h

/-- The loops of a code, each with the block around it. -/
def loopsIn : Nat → Code → List (Nat × Code)
  | b, .seq x y => loopsIn b x ++ loopsIn b y
  | b, .cond _ x y => loopsIn b x ++ loopsIn b y
  | _, .block id x => loopsIn id x
  | b, .loop x => (b, x) :: loopsIn b x
  | _, _ => []

def LoopsOk (P : Program) (loops : Nat → Option (PS → Out (Ex × PS))) (b : Nat) (c : Code) : Prop :=
  ∀ b' x, (b', x) ∈ loopsIn b c → ∀ F, loops b' = some F → ∀ s ex s', (F s).at' = some (ex, s') → LoopTo P x s ex s'

section
variable {P : Program} {R : Type} {call : CallK R} {loops : Nat → Option (PS → Out (Ex × PS))} {U : Nat}

theorem rounds_ok {x : Code} {body : PS → Cont R → Option R} (hb : ∀ s k r, body s k = some r → ∃ ex s', k ex s' = some r ∧ RunsTo P x s ex s') : ∀ {n : Nat} {s : PS} {k : Cont R} {r : R}, rounds R body n s k = some r →
    ∃ ex s', k ex s' = some r ∧ LoopTo P x s ex s'
  | 0, s, k, r, h => by cases h
  | n + 1, s, k, r, h => by
    unfold rounds at h
    obtain ⟨ex, s1, h1, h2⟩ := hb _ _ _ h
    cases ex with
    | normal =>
      obtain ⟨ex, s', h3, h4⟩ := rounds_ok hb h1
      exact ⟨ex, s', h3, h4.next h2⟩
    | exit id => exact ⟨_, s1, h1, .last h2 (by simp)⟩
    | ret => exact ⟨_, s1, h1, .last h2 (by simp)⟩

theorem exec_ok (hns : NoSpecial P) (hm : P.follows .mixedOrders = true) (hcall : CallOk P R call) : ∀ (c : Code) (b : Nat) (s : PS) (k : Cont R) (r : R), LoopsOk P loops b c → exec P R call loops U b c s k = some r →
    ∃ ex s', k ex s' = some r ∧ RunsTo P c s ex s' := by
  intro c
  induction c with
  | skip => exact fun b s k r _ h => ⟨.normal, s, h, fun _ _ a w hr Q hq => wp_skip (hq a w hr)⟩
  | region id ops draw =>
    intro b s k r _ h
    simp only [exec] at h
    cases draw with
    | true =>
      simp only [if_true] at h
      split at h
      · rename_i hd
        obtain ⟨s', h1, h2⟩ := draw_ok hns hm hcall rfl hd h
        exact ⟨.normal, s', h1, fun B0 w0 a w hr Q hq => h2 B0 w0 a w hr Q id hq⟩
      · cases h
    | false =>
      obtain ⟨s', h1, h2⟩ := runOps_ok hns hcall (k := fun s => k .normal s) h
      exact ⟨.normal, s', h1, fun B0 w0 a w hr Q hq => wp_region_list (h2 B0 w0 a w hr Q hq)⟩
  | seq x y ihx ihy =>
    intro b s k r hl h
    simp only [exec] at h
    obtain ⟨ex, s1, h1, h2⟩ := ihx b s _ r (fun b' z hz => hl b' z (by simp [loopsIn, hz])) h
    cases ex with
    | normal =>
      obtain ⟨ex, s', h3, h4⟩ := ihy b s1 _ r (fun b' z hz => hl b' z (by simp [loopsIn, hz])) h1
      exact ⟨ex, s', h3, fun B0 w0 a w hr Q hq => wp_seq (h2 B0 w0 a w hr _ fun a' w' hr' => h4 B0 w0 a' w' hr' Q hq)⟩
    | exit id => exact ⟨_, s1, h1, fun B0 w0 a w hr Q hq => wp_seq (h2 B0 w0 a w hr _ fun a' w' hr' => hq a' w' hr')⟩
    | ret => exact ⟨_, s1, h1, fun B0 w0 a w hr Q hq => wp_seq (h2 B0 w0 a w hr _ fun a' w' hr' => hq a' w' hr')⟩
  | cond c x y ihx ihy =>
    intro b s k r hl h
    simp only [exec] at h
    split at h
    · rename_i t
      split at h
      · rename_i q hq
        cases q with
        | true =>
          obtain ⟨ex, s', h1, h2⟩ := ihx b _ _ r (fun b' z hz => hl b' z (by simp [loopsIn, hz])) h
          exact ⟨ex, s', h1, fun B0 w0 a w hr Q hQ => by
            obtain ⟨β, p, inv⟩ := hr
            exact wp_cond_true (ev_bool inv hq) (h2 B0 w0 a w (rel_setBool ⟨β, p, inv⟩ hq) Q hQ)⟩
        | false =>
          obtain ⟨ex, s', h1, h2⟩ := ihy b _ _ r (fun b' z hz => hl b' z (by simp [loopsIn, hz])) h
          exact ⟨ex, s', h1, fun B0 w0 a w hr Q hQ => by
            obtain ⟨β, p, inv⟩ := hr
            exact wp_cond_false (ev_bool inv hq) (h2 B0 w0 a w (rel_setBool ⟨β, p, inv⟩ hq) Q hQ)⟩
      · cases h
    · cases h
  | block id x ih =>
    intro b s k r hl h
    simp only [exec] at h
    obtain ⟨ex, s1, h1, h2⟩ := ih id s _ r (fun b' z hz => hl b' z (by simp [loopsIn, hz])) h
    cases ex with
    | normal => exact ⟨.normal, s1, h1, fun B0 w0 a w hr Q hq => wp_block (h2 B0 w0 a w hr _ fun a' w' hr' => hq a' w' hr')⟩
    | ret => exact ⟨.ret, s1, h1, fun B0 w0 a w hr Q hq => wp_block (h2 B0 w0 a w hr _ fun a' w' hr' => hq a' w' hr')⟩
    | exit id' =>
      simp only [] at h1
      split at h1
      · rename_i e
        exact ⟨.normal, s1, h1, fun B0 w0 a w hr Q hq => wp_block (h2 B0 w0 a w hr _ fun a' w' hr' => by
          show if id' = id then _ else _
          rw [if_pos e]; exact hq a' w' hr')⟩
      · rename_i e
        exact ⟨.exit id', s1, h1, fun B0 w0 a w hr Q hq => wp_block (h2 B0 w0 a w hr _ fun a' w' hr' => by
          show if id' = id then _ else _
          rw [if_neg e]; exact hq a' w' hr')⟩
  | loop x ih =>
    intro b s k r hl h
    simp only [exec] at h
    split at h
    · rename_i F hF
      obtain ⟨⟨ex, s'⟩, h1, h2⟩ := Out.run_at h
      exact ⟨ex, s', h2, (hl b x (by simp [loopsIn]) F hF s ex s' h1).runs⟩
    · obtain ⟨ex, s', h1, h2⟩ := rounds_ok (P := P) (x := x) (fun s k r h => ih b s k r (fun b' z hz => hl b' z (by simp [loopsIn, hz])) h) h
      exact ⟨ex, s', h1, h2.runs⟩
  | exit id => exact fun b s k r _ h => ⟨.exit id, s, h, fun _ _ a w hr Q hq => wp_exit (hq a w hr)⟩
  | label l => exact fun b s k r _ h => ⟨.normal, s, h, fun _ _ a w hr Q hq => wp_label (hq a w hr)⟩
  | ret => exact fun b s k r _ h => ⟨.ret, s, h, fun _ _ a w hr Q hq => wp_ret (hq a w hr)⟩
  | _ => intro b s k r _ h; simp [exec] at h
end
end Go.Ev
