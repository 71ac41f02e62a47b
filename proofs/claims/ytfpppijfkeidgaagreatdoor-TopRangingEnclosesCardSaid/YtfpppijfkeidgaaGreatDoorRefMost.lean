/- The reference's inequalities: which contradict each other, and the greatest value. -/
import Derived.Test.YtfpppijfkeidgaaGreatDoorPoss2
set_option linter.unusedSimpArgs false
namespace Go.Proofs.YtfpppijfkeidgaaGreatDoor
open Go.Ev
theorem hvs_ok {l : List Msr} (hv' : ∀ m ∈ l, mErr m = 0) : ∀ h ∈ hvs l, HOk h := fun h hh => by
 rw [← rws_hvs l 0] at hh
 obtain ⟨r, hr, rfl⟩ := List.mem_map.1 hh
 exact rws_ok hv' 0 r hr
def DOk (g : Hf) : Prop := (-1 ≤ g.1 ∧ g.1 ≤ 1) ∧ (-1000 ≤ g.2.1 ∧ g.2.1 ≤ 1000)
theorem HOk.d {g : Hf} (h : HOk g) : DOk g := ⟨by rcases h.1 with h | h | h <;> omega, h.2.1⟩
section
variable {H : List Hf} (hH : ∀ h ∈ H, HOk h) (hlen : H.length ≤ 1000)
include hH hlen
end
def FOk (f : Fr) : Prop := (-400000000 ≤ f.1 ∧ f.1 ≤ 400000000) ∧ (1 ≤ f.2 ∧ f.2 ≤ 2000)
theorem lowF_ok {n d : Int} (hd : 1 ≤ d ∧ d ≤ 2000) (hn : -400000000 ≤ n ∧ n ≤ 400000000) : FOk (lowF n d) := by
 have h1 := lowF_den (n := n) (show 0 < d by omega)
 have hg := gcd_pos (a := n) (show 0 < d by omega)
 have h2 := div_size (a := n) hg
 refine ⟨?_, by omega⟩
 show -400000000 ≤ n / ((Nat.gcd n.natAbs d.natAbs : Nat) : Int) ∧ n / ((Nat.gcd n.natAbs d.natAbs : Nat) : Int) ≤ 400000000
 omega
end Go.Proofs.YtfpppijfkeidgaaGreatDoor
