/- Words of the block code: what determines them. -/
import Derived.Test.YtlngennlccaneaaLin
set_option linter.unusedSimpArgs false
set_option linter.unusedVariables false
namespace Go.Proofs.Ytlngennlccaneaa
def divL (a : G) : List G → List G × G
 | [] => ([], 0)
 | c :: cs => ((divL a cs).2 :: (divL a cs).1, ga c (gm a (divL a cs).2))
theorem div_rem (a : G) : ∀ cs, (divL a cs).2 = evG a cs
 | [] => rfl
 | c :: cs => by simp only [divL, evG, div_rem a cs]
theorem div_len (a : G) : ∀ cs, (divL a cs).1.length = cs.length
 | [] => rfl
 | c :: cs => by simp only [divL, List.length_cons, div_len a cs]
theorem div_ev (a x : G) : ∀ cs, evG x cs = ga (gm (ga x a) (evG x (divL a cs).1)) (divL a cs).2
 | [] => by simp only [divL, evG, gm_zero, ga_zero]
 | c :: cs => by
   simp only [divL, evG]
   rw [div_ev a x cs]
   generalize (divL a cs).2 = r
   generalize evG x (divL a cs).1 = q
   rw [gm_ga x, gm_ga (ga x a), ga_gm x a r, gm_left x (ga x a)]
   generalize gm (ga x a) (gm x q) = u
   generalize gm x r = v
   generalize gm a r = t
   rw [ga_assoc, ga_assoc, ga_left u c, ga_left t c, ga_left v c]
   congr 1
   rw [ga_comm u t, ga_left t t u] 
   rw [ga_cancel t, ga_comm]
theorem div_zero (a : G) : ∀ cs, (∀ c ∈ (divL a cs).1, c = 0) → (divL a cs).2 = 0 → ∀ c ∈ cs, c = 0
 | [], _, _, c, hc => by cases hc
 | c :: cs, h1, h2, c', hc' => by
   have hr : (divL a cs).2 = 0 := h1 _ List.mem_cons_self
   have h2 : ga c (gm a (divL a cs).2) = 0 := h2
   rw [hr, gm_zero, ga_zero] at h2
   rcases List.mem_cons.1 hc' with rfl | hc'
   ·exact h2
   ·exact div_zero a cs (fun d hd => h1 d (List.mem_cons_of_mem _ hd)) hr c' hc'
theorem roots_zero : ∀ (X : List G), X.Nodup → ∀ cs : List G, cs.length ≤ X.length → (∀ x ∈ X, evG x cs = 0) → ∀ c ∈ cs, c = 0
 | [], _, cs, hl, _, c, hc => by
   have : cs = [] := List.eq_nil_of_length_eq_zero (by simpa using hl)
   rw [this] at hc; cases hc
 | a :: X, hn, [], _, _, c, hc => by cases hc
 | a :: X, hn, c0 :: cs, hl, h, c, hc => by
   obtain ⟨n1, n2⟩ := List.nodup_cons.1 hn
   have hr : (divL a (c0 :: cs)).2 = 0 := by rw [div_rem]; exact h a List.mem_cons_self
   have hq : ∀ x ∈ X, evG x (divL a (c0 :: cs)).1 = 0 := fun x hx => by
    have := div_ev a x (c0 :: cs)
    rw [h x (List.mem_cons_of_mem _ hx), hr, ga_zero] at this
    rcases gm_eq_zero _ _ this.symm with h' | h'
    ·exact absurd ((ga_eq_zero _ _).1 h') (fun e => n1 (e ▸ hx))
    ·exact h'
   have hq2 : (divL a (c0 :: cs)).1 = (divL a cs).2 :: (divL a cs).1 := rfl
   refine div_zero a _ (quot_zero a X n2 (c0 :: cs) hl hq) hr c hc
where
 quot_zero (a : G) (X : List G) (n2 : X.Nodup) (cs : List G) (hl : cs.length ≤ (a :: X).length) (hq : ∀ x ∈ X, evG x (divL a cs).1 = 0) : ∀ c ∈ (divL a cs).1, c = 0 := by
  have key : ∀ cs : List G, ∃ ds, (divL a cs).1 = ds ++ [0] ∨ cs = [] := fun cs => by
   induction cs with
   | nil => exact ⟨[], .inr rfl⟩
   | cons c cs ih =>
     obtain ⟨ds, hd⟩ := ih
     rcases hd with hd | hd
     ·exact ⟨(divL a cs).2 :: ds, .inl (by simp only [divL, hd, List.cons_append])⟩
     ·subst hd; exact ⟨[], .inl rfl⟩
  obtain ⟨ds, hd | hd⟩ := key cs
  ·rw [hd]
   have hev : ∀ x, evG x (ds ++ [0]) = evG x ds := fun x => by
    clear hd
    induction ds with
    | nil => simp only [List.nil_append, evG, gm_zero, ga_zero]
    | cons d ds ih => simp only [List.cons_append, evG, ih]
   have hlen := div_len a cs
   rw [hd, List.length_append] at hlen
   simp only [List.length_cons, List.length_nil] at hlen hl
   have := roots_zero X n2 ds (by omega) fun x hx => by rw [← hev x, ← hd]; exact hq x hx
   intro c hc
   rcases List.mem_append.1 hc with h | h
   ·exact this c h
   ·exact List.mem_singleton.1 h
  ·subst hd
   intro c hc; cases hc
theorem roots_monic : ∀ l : List G, ∃ cs, rootsP l = cs ++ [1] ∧ cs.length = l.length
 | [] => ⟨[], rfl, rfl⟩
 | a :: l => by
   obtain ⟨cs, h1, h2⟩ := roots_monic l
   have hsh : ∀ (c : G) (ds : List G), ∃ es, mulL.shiftL a c (ds ++ [1]) = es ++ [1] ∧ es.length = ds.length + 1 := fun c ds => by
    induction ds generalizing c with
    | nil => exact ⟨[ga c (gm a 1)], rfl, rfl⟩
    | cons d ds ih =>
      obtain ⟨es, e1, e2⟩ := ih d
      exact ⟨ga c (gm a d) :: es, by simp only [List.cons_append, mulL.shiftL, e1], by simp only [List.length_cons, e2]⟩
   show ∃ es, mulL a (rootsP l) = es ++ [1] ∧ _
   rw [h1]
   cases cs with
   | nil =>
     refine ⟨[gm a 1], rfl, ?_⟩
     simp only [List.length_cons, ← h2, List.length_nil]
   | cons c cs =>
     obtain ⟨es, e1, e2⟩ := hsh c cs
     refine ⟨gm a c :: es, by simp only [List.cons_append, mulL, e1], ?_⟩
     simp only [List.length_cons, ← h2, e2]
abbrev Wd := Nat → G
def synd (w : Wd) (j : Nat) : G := mom (List.range 15) w j
def IsCode (h : Nat) (w : Wd) : Prop := ∀ j, 1 ≤ j → j ≤ 2 * h → synd w j = 0
theorem mom_sub {P : List Nat} (hn : P.Nodup) (hp : ∀ p ∈ P, p < 15) (e : Wd) (h0 : ∀ p, p < 15 → p ∉ P → e p = 0) (j : Nat) : synd e j = mom P e j := by
 unfold synd mom
 have key : ∀ (L : List Nat) (f : Nat → G), L.Nodup → (∀ p ∈ P, p ∈ L) → (∀ p ∈ L, p ∉ P → f p = 0) → sumG L f = sumG P f := by
  clear h0 hp
  induction P with
  | nil => intro L f _ _ h; exact sumG_zero fun x hx => h x hx (by simp)
  | cons p P ih =>
    intro L f hL hP h
    obtain ⟨n1, n2⟩ := List.nodup_cons.1 hn
    rw [sumG_cons]
    have hsplit : sumG L f = ga (f p) (sumG L fun x => if x = p then 0 else f x) := by
     have e1 : sumG L f = sumG L fun x => ga (if x = p then f x else 0) (if x = p then 0 else f x) := sumG_congr fun x _ => by
      by_cases hx : x = p
      ·rw [if_pos hx, if_pos hx, ga_zero]
      ·rw [if_neg hx, if_neg hx, zero_ga]
     rw [e1, sumG_ga, sumG_one (f := fun x => if x = p then f x else 0) (a := p) hL (hP p List.mem_cons_self) (fun x _ hx => if_neg hx), if_pos rfl]
    rw [hsplit]
    congr 1
    rw [ih n2 L (fun x => if x = p then 0 else f x) hL (fun q hq => hP q (List.mem_cons_of_mem _ hq)) (fun q hq hqP => by
     by_cases hqp : q = p
     ·exact if_pos hqp
     ·rw [if_neg hqp]
      exact h q hq (fun hm => by
       rcases List.mem_cons.1 hm with h' | h'
       ·exact hqp h'
       ·exact hqP h'))]
    refine sumG_congr fun x hx => ?_
    have hne : x ≠ p := fun e => n1 (e ▸ hx)
    exact if_neg hne
 refine key _ _ List.nodup_range (fun p hpP => List.mem_range.2 (hp p hpP)) (fun p hpL hpP => ?_)
 rw [h0 p (List.mem_range.1 hpL) hpP, zero_gm]
def diff (a b : Wd) : Wd := fun p => ga (a p) (b p)
theorem synd_diff (a b : Wd) (j : Nat) : synd (diff a b) j = ga (synd a j) (synd b j) := by
 unfold synd mom diff
 rw [← sumG_ga]
 exact sumG_congr fun p _ => ga_gm _ _ _
theorem code_eq {h : Nat} {a b : Wd} (ha : IsCode h a) (hb : IsCode h b) {P : List Nat} (hn : P.Nodup) (hp : ∀ p ∈ P, p < 15) (hl : P.length ≤ 2 * h) (hd : ∀ p, p < 15 → p ∉ P → a p = b p) : ∀ p, p < 15 → a p = b p := by
 have hz := mom_zero (e := diff a b) hn hp hl fun j h1 h2 => by
  rw [← mom_sub hn hp (diff a b) (fun p h1 h2 => by show ga (a p) (b p) = 0; rw [hd p h1 h2, ga_self]) j, synd_diff, ha j h1 h2, hb j h1 h2, ga_self]
 intro p hp'
 by_cases hm : p ∈ P
 ·exact (ga_eq_zero _ _).1 (hz p hm)
 ·exact hd p hp' hm
def zeroAt (E : List Nat) (w : Wd) : Wd := fun p => if p ∈ E then 0 else w p
def eraM (E : List Nat) (w : Wd) : Mx := fun j k => if k < E.length then gp (loc (E.getD k 0)) (j + 1) else synd (zeroAt E w) (j + 1)
theorem getD_mem {E : List Nat} {k : Nat} (h : k < E.length) : E.getD k 0 ∈ E := by
 rw [List.getD_eq_getElem?_getD, List.getElem?_eq_getElem h]; exact List.getElem_mem h
theorem sum_get {E : List Nat} (f : Nat → G) : sumG E f = sumG (List.range E.length) fun k => f (E.getD k 0) := by
 have key : ∀ (l : List Nat) (n : Nat) (g : Nat → Nat), (∀ k, k < l.length → g (n + k) = l.getD k 0) → sumG l f = sumG (List.range' n l.length) fun k => f (g k) := by
  intro l
  induction l with
  | nil => intro _ _ _; rfl
  | cons x l ih =>
    intro n g h
    rw [List.length_cons, List.range'_succ, sumG_cons, sumG_cons, ih (n + 1) g (fun k hk => by have := h (k + 1) (by rw [List.length_cons]; omega); rw [show n + 1 + k = n + (k + 1) by omega, this]; rfl)]
    have := h 0 (by rw [List.length_cons]; omega)
    rw [Nat.add_zero] at this
    rw [this]; rfl
 rw [List.range_eq_range']
 exact key E 0 (fun k => E.getD k 0) (fun k _ => by rw [Nat.zero_add])
theorem era_dot (E : List Nat) (w x : Wd) (j : Nat) : dotW E.length (eraM E w j) x = sumG (List.range E.length) fun k => gm (gp (loc (E.getD k 0)) (j + 1)) (x k) := by
 unfold dotW
 refine sumG_congr fun k hk => ?_
 show gm (if k < E.length then _ else _) _ = _
 rw [if_pos (List.mem_range.1 hk)]
section
variable {h : Nat} {E : List Nat} (hn : E.Nodup) (hp : ∀ p ∈ E, p < 15) {w : Wd}
include hn hp
theorem fill_sound {x : Nat → G} (hx : SolvesM (2 * h) E.length (eraM E w) x) {out : Wd} (h1 : ∀ p, p < 15 → p ∉ E → out p = w p) (h2 : ∀ k, k < E.length → out (E.getD k 0) = x k) : IsCode h out := by
 intro j j1 j2
 obtain ⟨i, rfl⟩ : ∃ i, j = i + 1 := ⟨j - 1, by omega⟩
 have hs := hx i (by omega)
 rw [era_dot] at hs
 have hU : eraM E w i E.length = synd (zeroAt E w) (i + 1) := by show (if _ then _ else _) = _; rw [if_neg (by omega)]
 rw [hU] at hs
 have hd : synd (diff out (zeroAt E w)) (i + 1) = mom E out (i + 1) := by
  rw [mom_sub hn hp (diff out (zeroAt E w)) (fun p a b => by show ga (out p) (if p ∈ E then 0 else w p) = 0; rw [if_neg b, h1 p a b, ga_self])]
  refine sumG_congr fun p hpE => ?_
  show gm (ga (out p) (if p ∈ E then 0 else w p)) _ = _
  rw [if_pos hpE, ga_zero]
 have hm : mom E out (i + 1) = synd (zeroAt E w) (i + 1) := by
  rw [← hs]
  unfold mom
  rw [sum_get]
  refine sumG_congr fun k hk => ?_
  rw [h2 k (List.mem_range.1 hk), gm_comm]
 rw [synd_diff, hm] at hd
 have := (ga_eq_zero _ _).2 hd
 rw [ga_assoc, ga_self, ga_zero] at this
 exact this
theorem fill_solves {sent : Wd} (hc : IsCode h sent) (hs : ∀ p, p < 15 → p ∉ E → sent p = w p) : SolvesM (2 * h) E.length (eraM E w) fun k => sent (E.getD k 0) := by
 intro j hj
 rw [era_dot]
 have hU : eraM E w j E.length = synd (zeroAt E w) (j + 1) := by show (if _ then _ else _) = _; rw [if_neg (by omega)]
 rw [hU]
 have hd : synd (diff sent (zeroAt E w)) (j + 1) = mom E sent (j + 1) := by
  rw [mom_sub hn hp (diff sent (zeroAt E w)) (fun p a b => by show ga (sent p) (if p ∈ E then 0 else w p) = 0; rw [if_neg b, hs p a b, ga_self])]
  refine sumG_congr fun p hpE => ?_
  show gm (ga (sent p) (if p ∈ E then 0 else w p)) _ = _
  rw [if_pos hpE, ga_zero]
 rw [synd_diff, hc (j + 1) (by omega) (by omega), zero_ga] at hd
 rw [hd]
 unfold mom
 rw [sum_get (E := E) fun p => gm (sent p) (gp (loc p) (j + 1))]
 exact sumG_congr fun k _ => gm_comm _ _
theorem era_triv (hl : E.length ≤ 2 * h) : Triv (2 * h) E.length (eraM E w) := by
 intro x hx i hi
 let e : Wd := fun p => x (E.findIdx fun q => q == p)
 have he : ∀ k, k < E.length → e (E.getD k 0) = x k := fun k hk => by
  show x (E.findIdx fun q => q == E.getD k 0) = x k
  congr 1
  have hlt : (E.findIdx fun q => q == E.getD k 0) < E.length := List.findIdx_lt_length_of_exists ⟨_, getD_mem hk, by simp⟩
  have h1 : E[E.findIdx fun q => q == E.getD k 0] == E.getD k 0 := List.findIdx_getElem (w := hlt)
  have h1 := eq_of_beq h1
  have h2 : E.getD k 0 = E[k] := by rw [List.getD_eq_getElem?_getD, List.getElem?_eq_getElem hk, Option.getD_some]
  exact (List.getElem_inj hn).1 (h1.trans h2)
 have := mom_zero (e := e) hn hp (m := E.length) (Nat.le_refl _) fun j j1 j2 => by
  obtain ⟨i, rfl⟩ : ∃ i, j = i + 1 := ⟨j - 1, by omega⟩
  have := hx i (by omega)
  rw [era_dot] at this
  rw [← this]
  unfold mom
  rw [sum_get]
  refine sumG_congr fun k hk => ?_
  rw [he k (List.mem_range.1 hk), gm_comm]
 rw [← he i hi]
 exact this _ (getD_mem hi)
end
end Go.Proofs.Ytlngennlccaneaa
