/- The field of 16 elements, polynomials, and what vanishes at many of its elements. -/
set_option linter.unusedSimpArgs false
set_option linter.unusedVariables false
namespace Go.Proofs.Ytlngennlccaneaa
abbrev G := Fin 16
def ga (a b : G) : G := ⟨(a.1 ^^^ b.1) % 16, Nat.mod_lt _ (by omega)⟩
def gd (a : G) : G := ⟨(if a.1 < 8 then 2 * a.1 else (2 * a.1 - 16) ^^^ 3) % 16, Nat.mod_lt _ (by omega)⟩
def gb (b : G) (k : Nat) (a : G) : G := if b.1.testBit k then a else 0
def gm (a b : G) : G := ga (gb b 0 a) (ga (gb b 1 (gd a)) (ga (gb b 2 (gd (gd a))) (gb b 3 (gd (gd (gd a))))))
def gi (a : G) : G := (#[0, 1, 9, 14, 13, 11, 7, 6, 15, 2, 12, 5, 10, 4, 3, 8] : Array G).getD a.1 0
theorem ga_comm : ∀ a b : G, ga a b = ga b a := by decide
theorem ga_assoc : ∀ a b c : G, ga (ga a b) c = ga a (ga b c) := by decide +kernel
theorem ga_self : ∀ a : G, ga a a = 0 := by decide
theorem ga_zero : ∀ a : G, ga a 0 = a := by decide
theorem zero_ga : ∀ a : G, ga 0 a = a := by decide
theorem gm_comm : ∀ a b : G, gm a b = gm b a := by decide +kernel
theorem gm_assoc : ∀ a b c : G, gm (gm a b) c = gm a (gm b c) := by decide +kernel
theorem gm_ga : ∀ a b c : G, gm a (ga b c) = ga (gm a b) (gm a c) := by decide +kernel
theorem ga_gm (a b c : G) : gm (ga a b) c = ga (gm a c) (gm b c) := by rw [gm_comm, gm_ga, gm_comm c a, gm_comm c b]
theorem gm_zero : ∀ a : G, gm a 0 = 0 := by decide
theorem zero_gm : ∀ a : G, gm 0 a = 0 := by decide
theorem gm_one : ∀ a : G, gm a 1 = a := by decide
theorem one_gm : ∀ a : G, gm 1 a = a := by decide
theorem gm_gi : ∀ a : G, a ≠ 0 → gm a (gi a) = 1 := by decide
theorem gm_eq_zero : ∀ a b : G, gm a b = 0 → a = 0 ∨ b = 0 := by decide +kernel
theorem ga_eq_zero : ∀ a b : G, ga a b = 0 ↔ a = b := by decide +kernel
theorem ga_left (a b c : G) : ga a (ga b c) = ga b (ga a c) := by rw [← ga_assoc, ga_comm a b, ga_assoc]
theorem gm_left (a b c : G) : gm a (gm b c) = gm b (gm a c) := by rw [← gm_assoc, gm_comm a b, gm_assoc]
theorem ga_cancel (a b : G) : ga a (ga a b) = b := by rw [← ga_assoc, ga_self, zero_ga]
def gp (a : G) : Nat → G
 | 0 => 1
 | k + 1 => gm a (gp a k)
theorem gp_add (a : G) (m n : Nat) : gp a (m + n) = gm (gp a m) (gp a n) := by
 induction m with
 | zero => rw [Nat.zero_add]; exact (one_gm _).symm
 | succ m ih => rw [Nat.succ_add]; simp only [gp, ih, gm_assoc]
def loc (p : Nat) : G := gp 2 (14 - p)
theorem loc_ne : ∀ p, p < 15 → loc p ≠ 0 := by decide +kernel
theorem loc_inj : ∀ p, p < 15 → ∀ q, q < 15 → loc p = loc q → p = q := by decide +kernel
def sumG {α : Type} (l : List α) (f : α → G) : G := l.foldr (fun x s => ga (f x) s) 0
theorem sumG_nil {α : Type} (f : α → G) : sumG [] f = 0 := rfl
theorem sumG_cons {α : Type} (x : α) (l : List α) (f : α → G) : sumG (x :: l) f = ga (f x) (sumG l f) := rfl
theorem sumG_congr {α : Type} {l : List α} {f g : α → G} (h : ∀ x ∈ l, f x = g x) : sumG l f = sumG l g := by
 induction l with
 | nil => rfl
 | cons x l ih => rw [sumG_cons, sumG_cons, h x List.mem_cons_self, ih fun y hy => h y (List.mem_cons_of_mem _ hy)]
theorem sumG_zero {α : Type} {l : List α} {f : α → G} (h : ∀ x ∈ l, f x = 0) : sumG l f = 0 := by
 induction l with
 | nil => rfl
 | cons x l ih => rw [sumG_cons, h x List.mem_cons_self, ih fun y hy => h y (List.mem_cons_of_mem _ hy), ga_zero]
theorem sumG_ga {α : Type} (l : List α) (f g : α → G) : sumG l (fun x => ga (f x) (g x)) = ga (sumG l f) (sumG l g) := by
 induction l with
 | nil => exact (ga_zero 0).symm
 | cons x l ih => rw [sumG_cons, sumG_cons, sumG_cons, ih, ga_assoc, ga_assoc, ga_left (g x)]
theorem sumG_gm {α : Type} (l : List α) (c : G) (f : α → G) : gm c (sumG l f) = sumG l fun x => gm c (f x) := by
 induction l with
 | nil => exact gm_zero c
 | cons x l ih => rw [sumG_cons, sumG_cons, gm_ga, ih]
theorem sumG_one {α : Type} {l : List α} {f : α → G} {a : α} (hn : l.Nodup) (ha : a ∈ l) (h : ∀ x ∈ l, x ≠ a → f x = 0) : sumG l f = f a := by
 induction l with
 | nil => cases ha
 | cons x l ih =>
   obtain ⟨h1, h2⟩ := List.nodup_cons.1 hn
   rw [sumG_cons]
   rcases List.mem_cons.1 ha with rfl | ha
   ·rw [sumG_zero fun y hy => h y (List.mem_cons_of_mem _ hy) (fun e => h1 (e ▸ hy)), ga_zero]
   ·rw [h x List.mem_cons_self (fun e => h1 (e ▸ ha)), zero_ga, ih h2 ha fun y hy => h y (List.mem_cons_of_mem _ hy)]
def evG (x : G) : List G → G
 | [] => 0
 | c :: cs => ga c (gm x (evG x cs))
def mulL (a : G) : List G → List G
 | [] => []
 | c :: cs => gm a c :: shiftL a c cs
where shiftL (a : G) : G → List G → List G
 | c, [] => [c]
 | c, d :: ds => ga c (gm a d) :: shiftL a d ds
theorem shift_ev (a x : G) : ∀ (c : G) (cs : List G), evG x (mulL.shiftL a c cs) = ga c (gm (ga x a) (evG x cs))
 | c, [] => by simp only [mulL.shiftL, evG, gm_zero]
 | c, d :: ds => by
   simp only [mulL.shiftL, evG]
   rw [shift_ev a x d ds, ga_assoc, gm_ga (ga x a), ga_gm x a d, gm_ga x]
   rw [gm_left x (ga x a)]
   congr 1
   rw [← ga_assoc, ga_comm (gm a d), ga_assoc]
theorem mul_ev (a x : G) (cs : List G) : evG x (mulL a cs) = gm (ga x a) (evG x cs) := by
 cases cs with
 | nil => exact (gm_zero _).symm
 | cons c cs =>
   simp only [mulL, evG]
   rw [shift_ev, gm_ga x, gm_ga (ga x a), ga_gm x a c, gm_left x (ga x a), ← ga_assoc, ga_comm (gm a c)]
theorem shift_len (a : G) : ∀ (c : G) (cs : List G), (mulL.shiftL a c cs).length = cs.length + 1
 | c, [] => rfl
 | c, d :: ds => by simp only [mulL.shiftL, List.length_cons, shift_len a d ds]
theorem mul_len (a : G) {cs : List G} (h : cs ≠ []) : (mulL a cs).length = cs.length + 1 := by
 cases cs with
 | nil => exact absurd rfl h
 | cons c cs => simp only [mulL, List.length_cons, shift_len]
def rootsP : List G → List G
 | [] => [1]
 | a :: l => mulL a (rootsP l)
theorem roots_ne : ∀ l : List G, rootsP l ≠ []
 | [] => by simp [rootsP]
 | a :: l => fun h => by
   have := mul_len a (roots_ne l)
   have h : mulL a (rootsP l) = [] := h
   rw [h] at this; simp at this
theorem roots_len : ∀ l : List G, (rootsP l).length = l.length + 1
 | [] => rfl
 | a :: l => by
   show (mulL a (rootsP l)).length = _
   rw [mul_len a (roots_ne l), roots_len l]; rfl
theorem roots_ev : ∀ (l : List G) (x : G), evG x (rootsP l) = 0 ↔ x ∈ l
 | [], x => by simp [rootsP, evG, gm_zero, ga_zero]
 | a :: l, x => by
   show evG x (mulL a (rootsP l)) = 0 ↔ _
   rw [mul_ev, List.mem_cons]
   constructor
   ·intro h
    rcases gm_eq_zero _ _ h with h | h
    ·exact .inl ((ga_eq_zero _ _).1 h)
    ·exact .inr ((roots_ev l x).1 h)
   ·rintro (h | h)
    ·rw [(ga_eq_zero _ _).2 h, zero_gm]
    ·rw [(roots_ev l x).2 h, gm_zero]
def mom (P : List Nat) (e : Nat → G) (j : Nat) : G := sumG P fun p => gm (e p) (gp (loc p) j)
theorem mom_poly (P : List Nat) (e : Nat → G) : ∀ (cs : List G) (j : Nat), sumG P (fun p => gm (e p) (gm (gp (loc p) j) (evG (loc p) cs))) = (cs.zipIdx j).foldr (fun c s => ga (gm c.1 (mom P e c.2)) s) 0
 | [], j => by
   simp only [evG, gm_zero, List.zipIdx_nil, List.foldr_nil]
   exact sumG_zero fun _ _ => rfl
 | c :: cs, j => by
   rw [List.zipIdx_cons, List.foldr_cons, ← mom_poly P e cs (j + 1)]
   unfold mom
   rw [sumG_gm, ← sumG_ga]
   refine sumG_congr fun p _ => ?_
   simp only [evG, gp]
   rw [gm_ga, gm_ga]
   congr 1
   ·rw [gm_comm (gp _ _) c, gm_left]
   ·rw [gm_left (gp (loc p) j) (loc p), gm_assoc]
theorem mom_zero {P : List Nat} (hn : P.Nodup) (hp : ∀ p ∈ P, p < 15) {e : Nat → G} {m : Nat} (hm : P.length ≤ m) (h : ∀ j, 1 ≤ j → j ≤ m → mom P e j = 0) : ∀ p ∈ P, e p = 0 := by
 intro p hpP
 have hcs : ∀ (cs : List G) (j : Nat), 1 ≤ j → j + cs.length ≤ m + 1 → (cs.zipIdx j).foldr (fun c s => ga (gm c.1 (mom P e c.2)) s) 0 = 0 := by
  intro cs
  induction cs with
  | nil => intro j _ _; rfl
  | cons c cs ih =>
    intro j h1 h2
    rw [List.length_cons] at h2
    rw [List.zipIdx_cons, List.foldr_cons, h j h1 (by omega), gm_zero, zero_ga, ih (j + 1) (by omega) (by omega)]
 let Q := (P.filter fun q => decide (q ≠ p)).map loc
 have hQ : Q.length + 1 ≤ P.length := by
  have h1 : (P.filter fun q => decide (q ≠ p)).length < P.length := by
   rcases Nat.lt_or_ge (P.filter fun q => decide (q ≠ p)).length P.length with h | h
   ·exact h
   ·have := List.filter_eq_self.1 (List.Sublist.eq_of_length_le List.filter_sublist h) p hpP
    simp at this
  show (List.map loc _).length + 1 ≤ _
  rw [List.length_map]; omega
 have key := mom_poly P e (rootsP Q) 1
 rw [hcs _ 1 (Nat.le_refl _) (by rw [roots_len]; omega)] at key
 rw [sumG_one hn hpP fun q hq hqp => by
  rw [(roots_ev Q (loc q)).2 (List.mem_map.2 ⟨q, List.mem_filter.2 ⟨hq, by simpa using hqp⟩, rfl⟩), gm_zero, gm_zero]] at key
 rcases gm_eq_zero _ _ key with h' | h'
 ·exact h'
 ·rcases gm_eq_zero _ _ h' with h' | h'
  ·exact absurd h' (by
    show gm (loc p) 1 ≠ 0
    rw [gm_one]; exact loc_ne p (hp p hpP))
  ·obtain ⟨q, hq, he⟩ := List.mem_map.1 ((roots_ev Q (loc p)).1 h')
   obtain ⟨hq1, hq2⟩ := List.mem_filter.1 hq
   have := loc_inj q (hp q hq1) p (hp p hpP) he
   simp [this] at hq2
end Go.Proofs.Ytlngennlccaneaa
