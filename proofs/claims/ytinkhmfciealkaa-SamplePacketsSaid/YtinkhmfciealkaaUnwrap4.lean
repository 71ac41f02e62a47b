/- The reference's Unwrapped. -/
import Derived.Test.YtinkhmfciealkaaUnwrap3
set_option linter.unusedSimpArgs false
namespace Go.Proofs.Ytinkhmfciealkaa
open Go.Ev

def F22 (s : PS) : Out (Ex × PS) :=
  match s.get 0, s.get 1, s.get 5, s.get 6 with
  | .c (.l (.int .i64 a)), .c (.l (.int .i64 c)), .c (.l (.int .i64 b)), .c (.l (.int .i64 n)) =>
    if s.n = 38 then .br (inR a c && (decide (-2048 ≤ n) && (decide (n ≤ a + 2049) && (decide (0 ≤ b) && decide (b ≤ 2000000000))))) (.done (.exit 0, I22 a c (search a c (a + 2049 - n).toNat b n) (a + 2049))) .no else .no
  | _, _, _, _ => .no

def K6 : Know := ⟨K5.fns, fun f b => if f = 22 ∧ b = 0 then some F22 else none⟩

theorem loops22' : (((Try.prog.funcs[22]?).bind (·.body)).map (loopsIn 0)) = some [(0, body22)] := by kernel_rfl
theorem loops22 {f : FuncId} (h : f = 22) {fn : Func} {c : Code} (hf : Try.prog.funcs[f]? = some fn) (hb : fn.body = some c) : loopsIn 0 c = [(0, body22)] := by
  have h2 : (((Try.prog.funcs[f]?).bind (·.body)).map (loopsIn 0)) = some [(0, body22)] := by rw [h]; exact loops22'
  rw [hf, Option.bind_some, hb, Option.map_some] at h2
  exact Option.some.inj h2

theorem F22_ok {s s' : PS} {ex : Ex} (h : (F22 s).at' = some (ex, s')) : LoopTo Try.prog body22 s ex s' := by
  unfold F22 at h
  split at h
  · rename_i a c b n h0 h1 h5 h6
    split at h
    · rename_i hn
      cases hc : inR a c && (decide (-2048 ≤ n) && (decide (n ≤ a + 2049) && (decide (0 ≤ b) && decide (b ≤ 2000000000)))) <;> simp only [Out.at', hc, cond_true, cond_false] at h
      · cases h
      · obtain ⟨rfl, rfl⟩ := Prod.mk.inj (Option.some.inj h)
        simp only [Bool.and_eq_true, decide_eq_true_eq] at hc
        obtain ⟨g1, g2, g3, g4, g5⟩ := hc
        have hm : s.mask [0, 1, 5, 6] [] = I22 a c b n := by
          unfold PS.mask
          simp only [List.map_cons, List.map_nil, h0, h1, h5, h6, hn]
          rfl
        refine LoopTo.masked (ts := [0, 1, 5, 6]) (bs := []) (by simp) (by simp) ?_
        rw [hm]
        exact loop22 g1 _ b n (by omega) g2 g4 g5
    · cases h
  · cases h

theorem K6_ok : KnowOk Try.prog K6 := ⟨K5_ok.fns, fun f fn c hf hb b' x hx F hF s ex s' hs => by
  have hF : (if f = 22 ∧ b' = 0 then some F22 else none) = some F := hF
  split at hF
  · rename_i hfb
    have hFe := Option.some.inj hF
    rw [loops22 hfb.1 hf hb] at hx
    have hxe := (Prod.mk.inj (List.mem_singleton.1 hx)).2
    rw [hxe]
    rw [← hFe] at hs
    exact F22_ok hs
  · cases hF⟩

theorem eq22 (a c : Int) : evalK Try.prog RV K6 0 1 22 [i a, i c] some =
    bif (inR a c && (decide (-2048 ≤ wr (a - 2048)) && (decide (wr (a - 2048) ≤ a + 2049) && (decide (0 ≤ c) && decide (c ≤ 2000000000))))) then some (ri (search a c (a + 2049 - wr (a - 2048)).toNat c (wr (a - 2048)))) else none := by kernel_rfl

theorem m22 {a c : Int} (hr : inR a c = true) : Meets Try.prog 22 [i a, i c] (ri (best a c)) := meets_of_eval (n := 1) (U := 0) noSpecial mixed K6_ok (by
  obtain ⟨r1, r2, r3, r4⟩ := inR_spec hr
  have hf := best_facts (c := c) r1
  rw [eq22, wr_id (n := a - 2048) (by omega) (by omega), hr, decide_eq_true (show -2048 ≤ a - 2048 by omega), decide_eq_true (show a - 2048 ≤ a + 2049 by omega), decide_eq_true r3, decide_eq_true (show c ≤ 2000000000 by omega)]
  simp only [Bool.and_true, cond_true]
  rw [search_best hr _ c (a - 2048) r3 (by omega) (by simp) (by omega) (by omega) (by omega)])
end Go.Proofs.Ytinkhmfciealkaa
