/- What the candidates are; the ambiguity. -/
import Derived.Test.YtdoehknomnhlkaaDoorCandLaw
set_option linter.unusedSimpArgs false
namespace Go.Proofs.YtdoehknomnhlkaaDoor
open Go.Ev
def Inv1 (l : List Tn) (lo d : Int) (rs : List (Int × Int)) : Prop :=
 (∀ r ∈ rs, lo ≤ r.1 ∧ r.1 ≤ r.2 ∧ r.2 < d) ∧ rs.Pairwise (fun r s => r.2 + 1 < s.1) ∧ ∀ x : Int, (∃ r ∈ rs, r.1 ≤ x ∧ x ≤ r.2) ↔ (lo ≤ x ∧ x < d ∧ fitL l x = true)
theorem addR_nil (d : Int) : addR [] d = [(d, d)] := rfl
theorem addR_app (t : List (Int × Int)) (a b d : Int) : addR (t ++ [(a, b)]) d = if b + 1 = d then t ++ [(a, d)] else t ++ [(a, b)] ++ [(d, d)] := by
 unfold addR
 have h1 : (t ++ [(a, b)]).length = t.length + 1 := by simp
 have h2 : (t ++ [(a, b)]).getD t.length (0, 0) = (a, b) := by
  rw [List.getD_eq_getElem?_getD, List.getElem?_append_right (Nat.le_refl _), Nat.sub_self]; rfl
 rw [if_neg (by omega), h1, Nat.add_sub_cancel, h2]
 by_cases h : b + 1 = d
 ·rw [if_pos h, if_pos h, List.set_append_right _ _ (Nat.le_refl _), Nat.sub_self]; rfl
 ·rw [if_neg h, if_neg h]
theorem inv_add {l : List Tn} {lo d : Int} {rs : List (Int × Int)} (hlo : lo ≤ d) (hf : fitL l d = true) (h : Inv1 l lo d rs) : Inv1 l lo (d + 1) (addR rs d) := by
 obtain ⟨h1, h2, h3⟩ := h
 rcases List.eq_nil_or_concat rs with rfl | ⟨t, ⟨a, b⟩, rfl⟩
 ·rw [addR_nil]
  refine ⟨fun r hr => ?_, List.pairwise_singleton _ _, fun x => ?_⟩
  ·rw [List.mem_singleton.1 hr]; exact ⟨hlo, Int.le_refl _, by simp only; omega⟩
  ·have h3 := h3 x
   simp only [List.not_mem_nil, false_and, exists_false, false_iff] at h3
   constructor
   ·rintro ⟨r, hr, g1, g2⟩
    rw [List.mem_singleton.1 hr] at g1 g2
    simp only at g1 g2
    obtain rfl : x = d := by omega
    exact ⟨hlo, by omega, hf⟩
   ·rintro ⟨g1, g2, g3⟩
    have : ¬ x < d := fun hc => h3 ⟨g1, hc, g3⟩
    exact ⟨(d, d), List.mem_singleton.2 rfl, by simp only; omega, by simp only; omega⟩
 ·rw [List.concat_eq_append] at h1 h2 h3 ⊢
  rw [addR_app]
  obtain ⟨p1, _, p3⟩ := List.pairwise_append.1 h2
  have hab := h1 (a, b) (by simp)
  simp only at hab
  have p3 : ∀ r ∈ t, r.2 + 1 < a := fun r hr => p3 r hr (a, b) (by simp)
  by_cases h : b + 1 = d
  ·rw [if_pos h]
   refine ⟨fun r hr => ?_, List.pairwise_append.2 ⟨p1, List.pairwise_singleton _ _, fun r hr s hs => ?_⟩, fun x => ?_⟩
   ·rcases List.mem_append.1 hr with hr | hr
    ·have := h1 r (List.mem_append_left _ hr); omega
    ·rw [List.mem_singleton.1 hr]; simp only; omega
   ·rw [List.mem_singleton.1 hs]; exact p3 r hr
   ·have h3 := h3 x
    constructor
    ·rintro ⟨r, hr, g1, g2⟩
     rcases List.mem_append.1 hr with hr | hr
     ·obtain ⟨k1, k2, k3⟩ := h3.1 ⟨r, List.mem_append_left _ hr, g1, g2⟩
      exact ⟨k1, by omega, k3⟩
     ·rw [List.mem_singleton.1 hr] at g1 g2
      simp only at g1 g2
      by_cases hx : x = d
      ·rw [hx]; exact ⟨hlo, by omega, hf⟩
      ·obtain ⟨k1, k2, k3⟩ := h3.1 ⟨(a, b), by simp, by simp only; omega, by simp only; omega⟩
       exact ⟨k1, by omega, k3⟩
    ·rintro ⟨g1, g2, g3⟩
     by_cases hx : x = d
     ·exact ⟨(a, d), by simp, by simp only; omega, by simp only; omega⟩
     ·obtain ⟨r, hr, k1, k2⟩ := h3.2 ⟨g1, by omega, g3⟩
      rcases List.mem_append.1 hr with hr | hr
      ·exact ⟨r, List.mem_append_left _ hr, k1, k2⟩
      ·rw [List.mem_singleton.1 hr] at k1 k2
       simp only at k1 k2
       exact ⟨(a, d), by simp, k1, by simp only; omega⟩
  ·rw [if_neg h]
   refine ⟨fun r hr => ?_, List.pairwise_append.2 ⟨h2, List.pairwise_singleton _ _, fun r hr s hs => ?_⟩, fun x => ?_⟩
   ·rcases List.mem_append.1 hr with hr | hr
    ·have := h1 r hr; omega
    ·rw [List.mem_singleton.1 hr]; simp only; omega
   ·rw [List.mem_singleton.1 hs]
    rcases List.mem_append.1 hr with hr | hr
    ·have := p3 r hr; simp only; omega
    ·rw [List.mem_singleton.1 hr]; simp only; omega
   ·have h3 := h3 x
    constructor
    ·rintro ⟨r, hr, g1, g2⟩
     rcases List.mem_append.1 hr with hr | hr
     ·obtain ⟨k1, k2, k3⟩ := h3.1 ⟨r, hr, g1, g2⟩
      exact ⟨k1, by omega, k3⟩
     ·rw [List.mem_singleton.1 hr] at g1 g2
      simp only at g1 g2
      obtain rfl : x = d := by omega
      exact ⟨hlo, by omega, hf⟩
    ·rintro ⟨g1, g2, g3⟩
     by_cases hx : x = d
     ·exact ⟨(d, d), by simp, by simp only; omega, by simp only; omega⟩
     ·obtain ⟨r, hr, k1, k2⟩ := h3.2 ⟨g1, by omega, g3⟩
      exact ⟨r, List.mem_append_left _ hr, k1, k2⟩
theorem inv_skip {l : List Tn} {lo d : Int} {rs : List (Int × Int)} (hf : fitL l d = false) (h : Inv1 l lo d rs) : Inv1 l lo (d + 1) rs := by
 obtain ⟨h1, h2, h3⟩ := h
 refine ⟨fun r hr => by have := h1 r hr; omega, h2, fun x => (h3 x).trans ⟨fun ⟨g1, g2, g3⟩ => ⟨g1, by omega, g3⟩, fun ⟨g1, g2, g3⟩ => ⟨g1, ?_, g3⟩⟩⟩
 have : x ≠ d := fun e => by rw [e, hf] at g3; cases g3
 omega
theorem inv_cand {l : List Tn} {lo : Int} : ∀ (m : Nat) (d : Int) (rs : List (Int × Int)), lo ≤ d → Inv1 l lo d rs → Inv1 l lo (d + m) (candF l m d rs)
 | 0, d, rs, _, h => by rw [show d + ((0 : Nat) : Int) = d by omega]; exact h
 | m + 1, d, rs, hd, h => by
   have e : d + ((m + 1 : Nat) : Int) = (d + 1) + (m : Int) := by omega
   rw [e, candF]
   refine inv_cand m (d + 1) _ (by omega) ?_
   cases hf : fitL l d with
   | true => rw [if_pos rfl]; exact inv_add hd hf h
   | false => rw [if_neg (by simp)]; exact inv_skip hf h
theorem cands_inv {l : List Tn} {lim : Int × Int} (h : lim.1 ≤ lim.2) : Inv1 l lim.1 (lim.2 + 1) (cands l lim) := by
 have := inv_cand (l := l) (lo := lim.1) (cnt lim) lim.1 [] (Int.le_refl _) ⟨by simp, List.Pairwise.nil, fun x => by simp; omega⟩
 rwa [show lim.1 + (cnt lim : Int) = lim.2 + 1 by unfold cnt; omega] at this
theorem amb_facts : ∀ (l : List Tn) (out a : Int), (∀ t ∈ l, tErr t = 0) → 1 ≤ out → out ≤ 1000000000000000 → ambF l out = some a → (1 ≤ a ∧ a ≤ 1000000000000000) ∧ out ∣ a ∧ ∀ t ∈ l, t.1 ∣ a
 | [], out, a, _, h1, h2, h => by
   obtain rfl := Option.some.inj h
   exact ⟨⟨h1, h2⟩, Int.dvd_refl _, by simp⟩
 | t :: l, out, a, hv, h1, h2, h => by
   unfold ambF at h
   split at h
   ·cases h
   ·rename_i hgt
    obtain ⟨t1, _, _, _⟩ := tErr_ok (hv t (by simp))
    obtain ⟨g1, g2, g3, g4⟩ := by_facts (out := out) t1
    have h0 := Int.mul_le_mul h1 g3 (by omega) (by omega)
    obtain ⟨k1, k2, k3⟩ := amb_facts l _ a (fun t ht => hv t (List.mem_cons_of_mem _ ht)) (by omega) (by omega) h
    refine ⟨k1, Int.dvd_trans (Int.dvd_mul_right _ _) k2, fun s hs => ?_⟩
    rcases List.mem_cons.1 hs with rfl | hs
    ·refine Int.dvd_trans ?_ k2
     obtain ⟨q, hq⟩ := gcd_dvd_l out s.1
     have hr := Int.mul_ediv_cancel' (gcd_dvd_r out s.1)
     refine ⟨q, ?_⟩
     generalize ((Nat.gcd out.natAbs s.1.natAbs : Nat) : Int) = g at *
     generalize s.1 / g = p at *
     rw [hq, ← hr]
     grind
    ·exact k3 s hs
theorem amb_prog {l : List Tn} (hc : (chkT l).2 = 0) : s18 l = some (match ambF l 1 with | none => (0, 8) | some a => (a, 0)) := by
 have hv := (chkE_zero tErr (0, 0, 0) 8 l).1 hc
 have h1 := amb1 l (by omega) hv.2 l.length 0 1 (by omega) (by omega) (by omega)
 rw [show ((0 : Nat) : Int) = 0 from rfl] at h1
 unfold s18
 simp only [chkT1, optE_some, hc, bne_self_eq_false, cond_false, h1, List.drop_zero]
 cases ambF l 1 <;> rfl
def inR (x : Int) (r : Int × Int) : Bool := win x r.1 r.2
theorem any_fit {l : List Tn} {lim : Int × Int} (h : lim.1 ≤ lim.2) {x : Int} (hx : lim.1 ≤ x ∧ x ≤ lim.2) : (cands l lim).any (inR x) = fitL l x := by
 obtain ⟨_, _, h3⟩ := cands_inv (l := l) h
 have h3 := h3 x
 rw [Bool.eq_iff_iff, List.any_eq_true]
 constructor
 ·rintro ⟨r, hr, hw⟩
  exact (h3.1 ⟨r, hr, win_iff.1 hw⟩).2.2
 ·intro hf
  obtain ⟨r, hr, hw⟩ := h3.2 ⟨hx.1, by omega, hf⟩
  exact ⟨r, hr, win_iff.2 hw⟩
theorem lcm_part {out p x : Int} (ho : 1 ≤ out) (hp : 1 ≤ p) (h1 : out ∣ x) (h2 : p ∣ x) : out * (p / (Nat.gcd out.natAbs p.natAbs : Nat)) ∣ x := by
 obtain ⟨a, rfl⟩ : ∃ a : Nat, out = (a : Int) := ⟨out.toNat, by omega⟩
 obtain ⟨b, rfl⟩ : ∃ b : Nat, p = (b : Int) := ⟨p.toNat, by omega⟩
 rw [Int.natAbs_natCast, Int.natAbs_natCast, ← Int.natCast_ediv, ← Int.natCast_mul, Int.ofNat_dvd_left, ← Nat.mul_div_assoc _ (Nat.gcd_dvd_right a b)]
 exact Nat.lcm_dvd (Int.ofNat_dvd_left.1 h1) (Int.ofNat_dvd_left.1 h2)
theorem amb_least : ∀ (l : List Tn) (out x : Int), (∀ t ∈ l, tErr t = 0) → 1 ≤ out → out ≤ 1000000000000000 → out ∣ x → (∀ t ∈ l, t.1 ∣ x) → (∀ a, ambF l out = some a → a ∣ x) ∧ (ambF l out = none → x = 0 ∨ 1000000000000000 < x.natAbs)
 | [], out, x, _, _, _, h, _ => ⟨fun a ha => by obtain rfl := Option.some.inj ha; exact h, fun hn => by cases hn⟩
 | t :: l, out, x, hv, h1, h2, h, ht => by
   obtain ⟨t1, _, _, _⟩ := tErr_ok (hv t (by simp))
   obtain ⟨g1, g2, g3, g4⟩ := by_facts (out := out) t1
   have h0 := Int.mul_le_mul h1 g3 (by omega) (by omega)
   have hd := lcm_part h1 t1.1 h (ht t (by simp))
   unfold ambF
   by_cases hgt : out * (t.1 / (Nat.gcd out.natAbs t.1.natAbs : Nat)) > 1000000000000000
   ·rw [if_pos hgt]
    refine ⟨fun a ha => by (cases ha), fun _ => ?_⟩
    by_cases hx : x = 0
    ·exact .inl hx
    ·right
     have := Nat.le_of_dvd (by omega) (Int.natAbs_dvd_natAbs.2 hd)
     omega
   ·rw [if_neg hgt]
    exact amb_least l _ x (fun t ht => hv t (List.mem_cons_of_mem _ ht)) (by omega) (by omega) hd (fun s hs => ht s (List.mem_cons_of_mem _ hs))
theorem cand_one {l : List Tn} {lim : Int × Int} {x : Int} (hlim : lim.1 ≤ lim.2) (hx : lim.1 ≤ x ∧ x ≤ lim.2) (hf : fitL l x = true) (hu : ∀ z, lim.1 ≤ z → z ≤ lim.2 → fitL l z = true → z = x) : cands l lim = [(x, x)] := by
 obtain ⟨h1, h2, h3⟩ := cands_inv (l := l) hlim
 have each : ∀ r ∈ cands l lim, r = (x, x) := fun r hr => by
  obtain ⟨a1, a2, a3⟩ := h1 r hr
  have b1 := (h3 r.1).1 ⟨r, hr, by omega, a2⟩
  have b2 := (h3 r.2).1 ⟨r, hr, a2, by omega⟩
  have c1 := hu r.1 b1.1 (by omega) b1.2.2
  have c2 := hu r.2 b2.1 (by omega) b2.2.2
  exact Prod.ext c1 c2
 obtain ⟨r, hr, _⟩ := (h3 x).2 ⟨hx.1, by omega, hf⟩
 generalize cands l lim = rs at *
 match rs, hr with
 | [a], _ => rw [each a (by simp)]
 | a :: b :: rest, _ =>
   exfalso
   have ha := each a (by simp)
   have hb := each b (by simp)
   have := (List.pairwise_cons.1 h2).1 b (by simp)
   rw [ha, hb] at this
   simp only at this
   omega
end Go.Proofs.YtdoehknomnhlkaaDoor
