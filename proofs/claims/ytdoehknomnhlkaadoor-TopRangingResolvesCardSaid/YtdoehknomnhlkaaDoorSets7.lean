/- Sets of up to seven tones: all have a candidate. -/
import Derived.Test.YtdoehknomnhlkaaDoorToneSets
import Derived.Test.YtdoehknomnhlkaaDoorGc8
set_option linter.unusedSimpArgs false
namespace Go.Proofs.YtdoehknomnhlkaaDoor
open Go.Ev
def subs6 : List (List Int) := [[], [0], [1], [2], [3], [4], [5], [0, 1], [0, 2], [0, 3], [0, 4], [0, 5], [1, 2], [1, 3], [1, 4], [1, 5], [2, 3], [2, 4], [2, 5], [3, 4], [3, 5], [4, 5], [0, 1, 2], [0, 1, 3], [0, 1, 4], [0, 1, 5], [0, 2, 3], [0, 2, 4], [0, 2, 5], [0, 3, 4], [0, 3, 5], [0, 4, 5], [1, 2, 3], [1, 2, 4], [1, 2, 5], [1, 3, 4], [1, 3, 5], [1, 4, 5], [2, 3, 4], [2, 3, 5], [2, 4, 5], [3, 4, 5], [0, 1, 2, 3], [0, 1, 2, 4], [0, 1, 2, 5], [0, 1, 3, 4], [0, 1, 3, 5], [0, 1, 4, 5], [0, 2, 3, 4], [0, 2, 3, 5], [0, 2, 4, 5], [0, 3, 4, 5], [1, 2, 3, 4], [1, 2, 3, 5], [1, 2, 4, 5], [1, 3, 4, 5], [2, 3, 4, 5], [0, 1, 2, 3, 4], [0, 1, 2, 3, 5], [0, 1, 2, 4, 5], [0, 1, 3, 4, 5], [0, 2, 3, 4, 5], [1, 2, 3, 4, 5], [0, 1, 2, 3, 4, 5]]
theorem good6 : Good 6 subs6 := by decide +kernel
theorem prog6 {t0 t1 t2 t3 t4 t5 : Tn} {lim : Int × Int} (h : tonE ([t0, t1, t2, t3, t4, t5] : List Tn) lim = 0) : p7n6 (t0, t1, t2, t3, t4, t5, lim) = chainO (fun s => hitB (occs ([t0, t1, t2, t3, t4, t5] : List Tn) lim) (maskS s : Int)) subs6 := by
 have hw := win_of h
 have hp : padV 256 .bool (occs ([t0, t1, t2, t3, t4, t5] : List Tn) lim) = occs ([t0, t1, t2, t3, t4, t5] : List Tn) lim := padV_self (occs_len _ _)
 unfold p7n6
 simp only [chkT1, inEnd, optE_some, hw, win2_of h, ord_of h, span_of h, chk_of h, unl_ok, cond_true, sweep_eqB h, onlyAt_eq, hp, hit0 h]
 refine Eq.trans ?_ (chain_nil (f := fun s => hitB (occs ([t0, t1, t2, t3, t4, t5] : List Tn) lim) (maskS s : Int)) (r := subs6.tail) (hit0 h)).symm
 rfl
def subs7 : List (List Int) := [[], [0], [1], [2], [3], [4], [5], [6], [0, 1], [0, 2], [0, 3], [0, 4], [0, 5], [0, 6], [1, 2], [1, 3], [1, 4], [1, 5], [1, 6], [2, 3], [2, 4], [2, 5], [2, 6], [3, 4], [3, 5], [3, 6], [4, 5], [4, 6], [5, 6], [0, 1, 2], [0, 1, 3], [0, 1, 4], [0, 1, 5], [0, 1, 6], [0, 2, 3], [0, 2, 4], [0, 2, 5], [0, 2, 6], [0, 3, 4], [0, 3, 5], [0, 3, 6], [0, 4, 5], [0, 4, 6], [0, 5, 6], [1, 2, 3], [1, 2, 4], [1, 2, 5], [1, 2, 6], [1, 3, 4], [1, 3, 5], [1, 3, 6], [1, 4, 5], [1, 4, 6], [1, 5, 6], [2, 3, 4], [2, 3, 5], [2, 3, 6], [2, 4, 5], [2, 4, 6], [2, 5, 6], [3, 4, 5], [3, 4, 6], [3, 5, 6], [4, 5, 6], [0, 1, 2, 3], [0, 1, 2, 4], [0, 1, 2, 5], [0, 1, 2, 6], [0, 1, 3, 4], [0, 1, 3, 5], [0, 1, 3, 6], [0, 1, 4, 5], [0, 1, 4, 6], [0, 1, 5, 6], [0, 2, 3, 4], [0, 2, 3, 5], [0, 2, 3, 6], [0, 2, 4, 5], [0, 2, 4, 6], [0, 2, 5, 6], [0, 3, 4, 5], [0, 3, 4, 6], [0, 3, 5, 6], [0, 4, 5, 6], [1, 2, 3, 4], [1, 2, 3, 5], [1, 2, 3, 6], [1, 2, 4, 5], [1, 2, 4, 6], [1, 2, 5, 6], [1, 3, 4, 5], [1, 3, 4, 6], [1, 3, 5, 6], [1, 4, 5, 6], [2, 3, 4, 5], [2, 3, 4, 6], [2, 3, 5, 6], [2, 4, 5, 6], [3, 4, 5, 6], [0, 1, 2, 3, 4], [0, 1, 2, 3, 5], [0, 1, 2, 3, 6], [0, 1, 2, 4, 5], [0, 1, 2, 4, 6], [0, 1, 2, 5, 6], [0, 1, 3, 4, 5], [0, 1, 3, 4, 6], [0, 1, 3, 5, 6], [0, 1, 4, 5, 6], [0, 2, 3, 4, 5], [0, 2, 3, 4, 6], [0, 2, 3, 5, 6], [0, 2, 4, 5, 6], [0, 3, 4, 5, 6], [1, 2, 3, 4, 5], [1, 2, 3, 4, 6], [1, 2, 3, 5, 6], [1, 2, 4, 5, 6], [1, 3, 4, 5, 6], [2, 3, 4, 5, 6], [0, 1, 2, 3, 4, 5], [0, 1, 2, 3, 4, 6], [0, 1, 2, 3, 5, 6], [0, 1, 2, 4, 5, 6], [0, 1, 3, 4, 5, 6], [0, 2, 3, 4, 5, 6], [1, 2, 3, 4, 5, 6], [0, 1, 2, 3, 4, 5, 6]]
theorem good7 : Good 7 subs7 := by decide +kernel
theorem ph7_0 {l : List Tn} {x : List Int} {y : Int} {s : SwT} (h : ∀ m : Nat, m < 128 → hitB (occL s) (m : Int) = true) : stepF S7_0 (0, (l, x, y, s)) = some (.inl (1, (padV 7 (.agg (.pair (.int .i64) (.pair (.int .i64) (.int .i64)))) l, x, y, s))) := by
 show step7_0_0 (l, x, y, s) = _
 have h0 : hitB (occL s) 0 = true := h 0 (by decide)
 simp only [step7_0_0, onlyAt_eq, optE_some, h0, cond_true]
theorem ph7_1 {l : List Tn} {x : List Int} {y : Int} {s : SwT} (h : ∀ m : Nat, m < 128 → hitB (occL s) (m : Int) = true) : stepF S7_0 (1, (l, x, y, s)) = some (.inl (2, (padV 7 (.agg (.pair (.int .i64) (.pair (.int .i64) (.int .i64)))) l, x, y, s))) := by
 show step7_0_1 (l, x, y, s) = _
 have h1 : hitB (occL s) 1 = true := h 1 (by decide)
 have h2 : hitB (occL s) 2 = true := h 2 (by decide)
 have h4 : hitB (occL s) 4 = true := h 4 (by decide)
 have h8 : hitB (occL s) 8 = true := h 8 (by decide)
 have h16 : hitB (occL s) 16 = true := h 16 (by decide)
 have h32 : hitB (occL s) 32 = true := h 32 (by decide)
 have h64 : hitB (occL s) 64 = true := h 64 (by decide)
 simp only [step7_0_1, onlyAt_eq, optE_some, h1, h2, h4, h8, h16, h32, h64, cond_true]
theorem ph7_2 {l : List Tn} {x : List Int} {y : Int} {s : SwT} (h : ∀ m : Nat, m < 128 → hitB (occL s) (m : Int) = true) : stepF S7_0 (2, (l, x, y, s)) = some (.inl (3, (padV 7 (.agg (.pair (.int .i64) (.pair (.int .i64) (.int .i64)))) l, x, y, s))) := by
 show step7_0_2 (l, x, y, s) = _
 have h3 : hitB (occL s) 3 = true := h 3 (by decide)
 have h5 : hitB (occL s) 5 = true := h 5 (by decide)
 have h9 : hitB (occL s) 9 = true := h 9 (by decide)
 have h17 : hitB (occL s) 17 = true := h 17 (by decide)
 have h33 : hitB (occL s) 33 = true := h 33 (by decide)
 have h65 : hitB (occL s) 65 = true := h 65 (by decide)
 have h6 : hitB (occL s) 6 = true := h 6 (by decide)
 have h10 : hitB (occL s) 10 = true := h 10 (by decide)
 have h18 : hitB (occL s) 18 = true := h 18 (by decide)
 have h34 : hitB (occL s) 34 = true := h 34 (by decide)
 have h66 : hitB (occL s) 66 = true := h 66 (by decide)
 have h12 : hitB (occL s) 12 = true := h 12 (by decide)
 have h20 : hitB (occL s) 20 = true := h 20 (by decide)
 have h36 : hitB (occL s) 36 = true := h 36 (by decide)
 have h68 : hitB (occL s) 68 = true := h 68 (by decide)
 have h24 : hitB (occL s) 24 = true := h 24 (by decide)
 have h40 : hitB (occL s) 40 = true := h 40 (by decide)
 have h72 : hitB (occL s) 72 = true := h 72 (by decide)
 have h48 : hitB (occL s) 48 = true := h 48 (by decide)
 have h80 : hitB (occL s) 80 = true := h 80 (by decide)
 have h96 : hitB (occL s) 96 = true := h 96 (by decide)
 simp only [step7_0_2, onlyAt_eq, optE_some, h3, h5, h9, h17, h33, h65, h6, h10, h18, h34, h66, h12, h20, h36, h68, h24, h40, h72, h48, h80, h96, cond_true]
theorem ph7_3 {l : List Tn} {x : List Int} {y : Int} {s : SwT} (h : ∀ m : Nat, m < 128 → hitB (occL s) (m : Int) = true) : stepF S7_0 (3, (l, x, y, s)) = some (.inl (4, (padV 7 (.agg (.pair (.int .i64) (.pair (.int .i64) (.int .i64)))) l, x, y, s))) := by
 show step7_0_3 (l, x, y, s) = _
 have h7 : hitB (occL s) 7 = true := h 7 (by decide)
 have h11 : hitB (occL s) 11 = true := h 11 (by decide)
 have h19 : hitB (occL s) 19 = true := h 19 (by decide)
 have h35 : hitB (occL s) 35 = true := h 35 (by decide)
 have h67 : hitB (occL s) 67 = true := h 67 (by decide)
 have h13 : hitB (occL s) 13 = true := h 13 (by decide)
 have h21 : hitB (occL s) 21 = true := h 21 (by decide)
 have h37 : hitB (occL s) 37 = true := h 37 (by decide)
 have h69 : hitB (occL s) 69 = true := h 69 (by decide)
 have h25 : hitB (occL s) 25 = true := h 25 (by decide)
 have h41 : hitB (occL s) 41 = true := h 41 (by decide)
 have h73 : hitB (occL s) 73 = true := h 73 (by decide)
 have h49 : hitB (occL s) 49 = true := h 49 (by decide)
 have h81 : hitB (occL s) 81 = true := h 81 (by decide)
 have h97 : hitB (occL s) 97 = true := h 97 (by decide)
 have h14 : hitB (occL s) 14 = true := h 14 (by decide)
 have h22 : hitB (occL s) 22 = true := h 22 (by decide)
 have h38 : hitB (occL s) 38 = true := h 38 (by decide)
 have h70 : hitB (occL s) 70 = true := h 70 (by decide)
 have h26 : hitB (occL s) 26 = true := h 26 (by decide)
 have h42 : hitB (occL s) 42 = true := h 42 (by decide)
 have h74 : hitB (occL s) 74 = true := h 74 (by decide)
 have h50 : hitB (occL s) 50 = true := h 50 (by decide)
 have h82 : hitB (occL s) 82 = true := h 82 (by decide)
 have h98 : hitB (occL s) 98 = true := h 98 (by decide)
 have h28 : hitB (occL s) 28 = true := h 28 (by decide)
 have h44 : hitB (occL s) 44 = true := h 44 (by decide)
 have h76 : hitB (occL s) 76 = true := h 76 (by decide)
 have h52 : hitB (occL s) 52 = true := h 52 (by decide)
 have h84 : hitB (occL s) 84 = true := h 84 (by decide)
 have h100 : hitB (occL s) 100 = true := h 100 (by decide)
 have h56 : hitB (occL s) 56 = true := h 56 (by decide)
 have h88 : hitB (occL s) 88 = true := h 88 (by decide)
 have h104 : hitB (occL s) 104 = true := h 104 (by decide)
 have h112 : hitB (occL s) 112 = true := h 112 (by decide)
 simp only [step7_0_3, onlyAt_eq, optE_some, h7, h11, h19, h35, h67, h13, h21, h37, h69, h25, h41, h73, h49, h81, h97, h14, h22, h38, h70, h26, h42, h74, h50, h82, h98, h28, h44, h76, h52, h84, h100, h56, h88, h104, h112, cond_true]
theorem ph7_4 {l : List Tn} {x : List Int} {y : Int} {s : SwT} (h : ∀ m : Nat, m < 128 → hitB (occL s) (m : Int) = true) : stepF S7_0 (4, (l, x, y, s)) = some (.inl (5, (padV 7 (.agg (.pair (.int .i64) (.pair (.int .i64) (.int .i64)))) l, x, y, s))) := by
 show step7_0_4 (l, x, y, s) = _
 have h15 : hitB (occL s) 15 = true := h 15 (by decide)
 have h23 : hitB (occL s) 23 = true := h 23 (by decide)
 have h39 : hitB (occL s) 39 = true := h 39 (by decide)
 have h71 : hitB (occL s) 71 = true := h 71 (by decide)
 have h27 : hitB (occL s) 27 = true := h 27 (by decide)
 have h43 : hitB (occL s) 43 = true := h 43 (by decide)
 have h75 : hitB (occL s) 75 = true := h 75 (by decide)
 have h51 : hitB (occL s) 51 = true := h 51 (by decide)
 have h83 : hitB (occL s) 83 = true := h 83 (by decide)
 have h99 : hitB (occL s) 99 = true := h 99 (by decide)
 have h29 : hitB (occL s) 29 = true := h 29 (by decide)
 have h45 : hitB (occL s) 45 = true := h 45 (by decide)
 have h77 : hitB (occL s) 77 = true := h 77 (by decide)
 have h53 : hitB (occL s) 53 = true := h 53 (by decide)
 have h85 : hitB (occL s) 85 = true := h 85 (by decide)
 have h101 : hitB (occL s) 101 = true := h 101 (by decide)
 have h57 : hitB (occL s) 57 = true := h 57 (by decide)
 have h89 : hitB (occL s) 89 = true := h 89 (by decide)
 have h105 : hitB (occL s) 105 = true := h 105 (by decide)
 have h113 : hitB (occL s) 113 = true := h 113 (by decide)
 have h30 : hitB (occL s) 30 = true := h 30 (by decide)
 have h46 : hitB (occL s) 46 = true := h 46 (by decide)
 have h78 : hitB (occL s) 78 = true := h 78 (by decide)
 have h54 : hitB (occL s) 54 = true := h 54 (by decide)
 have h86 : hitB (occL s) 86 = true := h 86 (by decide)
 have h102 : hitB (occL s) 102 = true := h 102 (by decide)
 have h58 : hitB (occL s) 58 = true := h 58 (by decide)
 have h90 : hitB (occL s) 90 = true := h 90 (by decide)
 have h106 : hitB (occL s) 106 = true := h 106 (by decide)
 have h114 : hitB (occL s) 114 = true := h 114 (by decide)
 have h60 : hitB (occL s) 60 = true := h 60 (by decide)
 have h92 : hitB (occL s) 92 = true := h 92 (by decide)
 have h108 : hitB (occL s) 108 = true := h 108 (by decide)
 have h116 : hitB (occL s) 116 = true := h 116 (by decide)
 have h120 : hitB (occL s) 120 = true := h 120 (by decide)
 simp only [step7_0_4, onlyAt_eq, optE_some, h15, h23, h39, h71, h27, h43, h75, h51, h83, h99, h29, h45, h77, h53, h85, h101, h57, h89, h105, h113, h30, h46, h78, h54, h86, h102, h58, h90, h106, h114, h60, h92, h108, h116, h120, cond_true]
theorem ph7_5 {l : List Tn} {x : List Int} {y : Int} {s : SwT} (h : ∀ m : Nat, m < 128 → hitB (occL s) (m : Int) = true) : stepF S7_0 (5, (l, x, y, s)) = some (.inl (6, (padV 7 (.agg (.pair (.int .i64) (.pair (.int .i64) (.int .i64)))) l, x, y, s))) := by
 show step7_0_5 (l, x, y, s) = _
 have h31 : hitB (occL s) 31 = true := h 31 (by decide)
 have h47 : hitB (occL s) 47 = true := h 47 (by decide)
 have h79 : hitB (occL s) 79 = true := h 79 (by decide)
 have h55 : hitB (occL s) 55 = true := h 55 (by decide)
 have h87 : hitB (occL s) 87 = true := h 87 (by decide)
 have h103 : hitB (occL s) 103 = true := h 103 (by decide)
 have h59 : hitB (occL s) 59 = true := h 59 (by decide)
 have h91 : hitB (occL s) 91 = true := h 91 (by decide)
 have h107 : hitB (occL s) 107 = true := h 107 (by decide)
 have h115 : hitB (occL s) 115 = true := h 115 (by decide)
 have h61 : hitB (occL s) 61 = true := h 61 (by decide)
 have h93 : hitB (occL s) 93 = true := h 93 (by decide)
 have h109 : hitB (occL s) 109 = true := h 109 (by decide)
 have h117 : hitB (occL s) 117 = true := h 117 (by decide)
 have h121 : hitB (occL s) 121 = true := h 121 (by decide)
 have h62 : hitB (occL s) 62 = true := h 62 (by decide)
 have h94 : hitB (occL s) 94 = true := h 94 (by decide)
 have h110 : hitB (occL s) 110 = true := h 110 (by decide)
 have h118 : hitB (occL s) 118 = true := h 118 (by decide)
 have h122 : hitB (occL s) 122 = true := h 122 (by decide)
 have h124 : hitB (occL s) 124 = true := h 124 (by decide)
 simp only [step7_0_5, onlyAt_eq, optE_some, h31, h47, h79, h55, h87, h103, h59, h91, h107, h115, h61, h93, h109, h117, h121, h62, h94, h110, h118, h122, h124, cond_true]
theorem ph7_6 {l : List Tn} {x : List Int} {y : Int} {s : SwT} (h : ∀ m : Nat, m < 128 → hitB (occL s) (m : Int) = true) : stepF S7_0 (6, (l, x, y, s)) = some (.inl (7, (padV 7 (.agg (.pair (.int .i64) (.pair (.int .i64) (.int .i64)))) l, x, y, s))) := by
 show step7_0_6 (l, x, y, s) = _
 have h63 : hitB (occL s) 63 = true := h 63 (by decide)
 have h95 : hitB (occL s) 95 = true := h 95 (by decide)
 have h111 : hitB (occL s) 111 = true := h 111 (by decide)
 have h119 : hitB (occL s) 119 = true := h 119 (by decide)
 have h123 : hitB (occL s) 123 = true := h 123 (by decide)
 have h125 : hitB (occL s) 125 = true := h 125 (by decide)
 have h126 : hitB (occL s) 126 = true := h 126 (by decide)
 simp only [step7_0_6, onlyAt_eq, optE_some, h63, h95, h111, h119, h123, h125, h126, cond_true]
theorem ph7_7 {l : List Tn} {x : List Int} {y : Int} {s : SwT} (h : ∀ m : Nat, m < 128 → hitB (occL s) (m : Int) = true) : stepF S7_0 (7, (l, x, y, s)) = some (.inl (8, (padV 7 (.agg (.pair (.int .i64) (.pair (.int .i64) (.int .i64)))) l, x, y, s))) := by
 show step7_0_7 (l, x, y, s) = _
 have h127 : hitB (occL s) 127 = true := h 127 (by decide)
 simp only [step7_0_7, onlyAt_eq, optE_some, h127, cond_true]
theorem ph7 {l : List Tn} {x : List Int} {y : Int} {s : SwT} (h : ∀ m : Nat, m < 128 → hitB (occL s) (m : Int) = true) : loopVal (stepF S7_0) (0, (l, x, y, s)) = some (.inr (x, y)) :=
 (loopVal_next (ph7_0 h)).trans <| (loopVal_next (ph7_1 h)).trans <| (loopVal_next (ph7_2 h)).trans <| (loopVal_next (ph7_3 h)).trans <| (loopVal_next (ph7_4 h)).trans <| (loopVal_next (ph7_5 h)).trans <| (loopVal_next (ph7_6 h)).trans <| (loopVal_next (ph7_7 h)).trans <| loopVal_last rfl
theorem masks7 : ∀ m, m < 128 → ∃ s ∈ subs7, maskS s = m := by decide +kernel
theorem prog7 {t0 t1 t2 t3 t4 t5 t6 : Tn} {lim : Int × Int} (h : tonE ([t0, t1, t2, t3, t4, t5, t6] : List Tn) lim = 0) (hall : ∀ s ∈ subs7, hitB (occs ([t0, t1, t2, t3, t4, t5, t6] : List Tn) lim) (maskS s : Int) = true) : p7n7 (t0, t1, t2, t3, t4, t5, t6, lim) = some ([], 12) := by
 have hw := win_of h
 have ho : occL (cands ([t0, t1, t2, t3, t4, t5, t6] : List Tn) lim, mkBools 255 (occs ([t0, t1, t2, t3, t4, t5, t6] : List Tn) lim)) = occs ([t0, t1, t2, t3, t4, t5, t6] : List Tn) lim := occL_mk _ _ (occs_len _ _)
 have hp := ph7 (l := ([t0, t1, t2, t3, t4, t5, t6] : List Tn)) (x := []) (y := 0) (s := (cands ([t0, t1, t2, t3, t4, t5, t6] : List Tn) lim, mkBools 255 (occs ([t0, t1, t2, t3, t4, t5, t6] : List Tn) lim))) fun m hm => by
  obtain ⟨t, h1, rfl⟩ := masks7 m hm
  rw [ho]; exact hall t h1
 unfold p7n7
 simp only [chkT1, inEnd, optE_some, hw, win2_of h, ord_of h, span_of h, chk_of h, unl_ok, cond_true, sweep_eqB h, hp, sumE_r]
theorem l7_0 (lim : Int × Int) {y : (List Int) × Int} (h : p7n0 lim = some y) : o7n7 ([], lim) = some y := by
 have e0 : s7n0 ([], lim) = some y := h
 have o1 : o7n1 ([], lim) = some y := by unfold o7n1; rw [e0]; rfl
 have o2 : o7n2 ([], lim) = some y := by unfold o7n2; rw [o1]; rfl
 have o3 : o7n3 ([], lim) = some y := by unfold o7n3; rw [o2]; rfl
 have o4 : o7n4 ([], lim) = some y := by unfold o7n4; rw [o3]; rfl
 have o5 : o7n5 ([], lim) = some y := by unfold o7n5; rw [o4]; rfl
 have o6 : o7n6 ([], lim) = some y := by unfold o7n6; rw [o5]; rfl
 have o7 : o7n7 ([], lim) = some y := by unfold o7n7; rw [o6]; rfl
 exact o7
theorem l7_1 (t0 : Tn) (lim : Int × Int) {y : (List Int) × Int} (h : p7n1 (t0, lim) = some y) : o7n7 ([t0], lim) = some y := by
 have e0 : s7n0 ([t0], lim) = none := rfl
 have e1 : s7n1 ([t0], lim) = some y := h
 have o1 : o7n1 ([t0], lim) = some y := by unfold o7n1; rw [e0, e1]; rfl
 have o2 : o7n2 ([t0], lim) = some y := by unfold o7n2; rw [o1]; rfl
 have o3 : o7n3 ([t0], lim) = some y := by unfold o7n3; rw [o2]; rfl
 have o4 : o7n4 ([t0], lim) = some y := by unfold o7n4; rw [o3]; rfl
 have o5 : o7n5 ([t0], lim) = some y := by unfold o7n5; rw [o4]; rfl
 have o6 : o7n6 ([t0], lim) = some y := by unfold o7n6; rw [o5]; rfl
 have o7 : o7n7 ([t0], lim) = some y := by unfold o7n7; rw [o6]; rfl
 exact o7
theorem l7_2 (t0 t1 : Tn) (lim : Int × Int) {y : (List Int) × Int} (h : p7n2 (t0, t1, lim) = some y) : o7n7 ([t0, t1], lim) = some y := by
 have e0 : s7n0 ([t0, t1], lim) = none := rfl
 have e1 : s7n1 ([t0, t1], lim) = none := rfl
 have e2 : s7n2 ([t0, t1], lim) = some y := h
 have o1 : o7n1 ([t0, t1], lim) = none := by unfold o7n1; rw [e0, e1]; rfl
 have o2 : o7n2 ([t0, t1], lim) = some y := by unfold o7n2; rw [o1, e2]; rfl
 have o3 : o7n3 ([t0, t1], lim) = some y := by unfold o7n3; rw [o2]; rfl
 have o4 : o7n4 ([t0, t1], lim) = some y := by unfold o7n4; rw [o3]; rfl
 have o5 : o7n5 ([t0, t1], lim) = some y := by unfold o7n5; rw [o4]; rfl
 have o6 : o7n6 ([t0, t1], lim) = some y := by unfold o7n6; rw [o5]; rfl
 have o7 : o7n7 ([t0, t1], lim) = some y := by unfold o7n7; rw [o6]; rfl
 exact o7
theorem l7_3 (t0 t1 t2 : Tn) (lim : Int × Int) {y : (List Int) × Int} (h : p7n3 (t0, t1, t2, lim) = some y) : o7n7 ([t0, t1, t2], lim) = some y := by
 have e0 : s7n0 ([t0, t1, t2], lim) = none := rfl
 have e1 : s7n1 ([t0, t1, t2], lim) = none := rfl
 have e2 : s7n2 ([t0, t1, t2], lim) = none := rfl
 have e3 : s7n3 ([t0, t1, t2], lim) = some y := h
 have o1 : o7n1 ([t0, t1, t2], lim) = none := by unfold o7n1; rw [e0, e1]; rfl
 have o2 : o7n2 ([t0, t1, t2], lim) = none := by unfold o7n2; rw [o1, e2]; rfl
 have o3 : o7n3 ([t0, t1, t2], lim) = some y := by unfold o7n3; rw [o2, e3]; rfl
 have o4 : o7n4 ([t0, t1, t2], lim) = some y := by unfold o7n4; rw [o3]; rfl
 have o5 : o7n5 ([t0, t1, t2], lim) = some y := by unfold o7n5; rw [o4]; rfl
 have o6 : o7n6 ([t0, t1, t2], lim) = some y := by unfold o7n6; rw [o5]; rfl
 have o7 : o7n7 ([t0, t1, t2], lim) = some y := by unfold o7n7; rw [o6]; rfl
 exact o7
theorem l7_4 (t0 t1 t2 t3 : Tn) (lim : Int × Int) {y : (List Int) × Int} (h : p7n4 (t0, t1, t2, t3, lim) = some y) : o7n7 ([t0, t1, t2, t3], lim) = some y := by
 have e0 : s7n0 ([t0, t1, t2, t3], lim) = none := rfl
 have e1 : s7n1 ([t0, t1, t2, t3], lim) = none := rfl
 have e2 : s7n2 ([t0, t1, t2, t3], lim) = none := rfl
 have e3 : s7n3 ([t0, t1, t2, t3], lim) = none := rfl
 have e4 : s7n4 ([t0, t1, t2, t3], lim) = some y := h
 have o1 : o7n1 ([t0, t1, t2, t3], lim) = none := by unfold o7n1; rw [e0, e1]; rfl
 have o2 : o7n2 ([t0, t1, t2, t3], lim) = none := by unfold o7n2; rw [o1, e2]; rfl
 have o3 : o7n3 ([t0, t1, t2, t3], lim) = none := by unfold o7n3; rw [o2, e3]; rfl
 have o4 : o7n4 ([t0, t1, t2, t3], lim) = some y := by unfold o7n4; rw [o3, e4]; rfl
 have o5 : o7n5 ([t0, t1, t2, t3], lim) = some y := by unfold o7n5; rw [o4]; rfl
 have o6 : o7n6 ([t0, t1, t2, t3], lim) = some y := by unfold o7n6; rw [o5]; rfl
 have o7 : o7n7 ([t0, t1, t2, t3], lim) = some y := by unfold o7n7; rw [o6]; rfl
 exact o7
theorem l7_5 (t0 t1 t2 t3 t4 : Tn) (lim : Int × Int) {y : (List Int) × Int} (h : p7n5 (t0, t1, t2, t3, t4, lim) = some y) : o7n7 ([t0, t1, t2, t3, t4], lim) = some y := by
 have e0 : s7n0 ([t0, t1, t2, t3, t4], lim) = none := rfl
 have e1 : s7n1 ([t0, t1, t2, t3, t4], lim) = none := rfl
 have e2 : s7n2 ([t0, t1, t2, t3, t4], lim) = none := rfl
 have e3 : s7n3 ([t0, t1, t2, t3, t4], lim) = none := rfl
 have e4 : s7n4 ([t0, t1, t2, t3, t4], lim) = none := rfl
 have e5 : s7n5 ([t0, t1, t2, t3, t4], lim) = some y := h
 have o1 : o7n1 ([t0, t1, t2, t3, t4], lim) = none := by unfold o7n1; rw [e0, e1]; rfl
 have o2 : o7n2 ([t0, t1, t2, t3, t4], lim) = none := by unfold o7n2; rw [o1, e2]; rfl
 have o3 : o7n3 ([t0, t1, t2, t3, t4], lim) = none := by unfold o7n3; rw [o2, e3]; rfl
 have o4 : o7n4 ([t0, t1, t2, t3, t4], lim) = none := by unfold o7n4; rw [o3, e4]; rfl
 have o5 : o7n5 ([t0, t1, t2, t3, t4], lim) = some y := by unfold o7n5; rw [o4, e5]; rfl
 have o6 : o7n6 ([t0, t1, t2, t3, t4], lim) = some y := by unfold o7n6; rw [o5]; rfl
 have o7 : o7n7 ([t0, t1, t2, t3, t4], lim) = some y := by unfold o7n7; rw [o6]; rfl
 exact o7
theorem l7_6 (t0 t1 t2 t3 t4 t5 : Tn) (lim : Int × Int) {y : (List Int) × Int} (h : p7n6 (t0, t1, t2, t3, t4, t5, lim) = some y) : o7n7 ([t0, t1, t2, t3, t4, t5], lim) = some y := by
 have e0 : s7n0 ([t0, t1, t2, t3, t4, t5], lim) = none := rfl
 have e1 : s7n1 ([t0, t1, t2, t3, t4, t5], lim) = none := rfl
 have e2 : s7n2 ([t0, t1, t2, t3, t4, t5], lim) = none := rfl
 have e3 : s7n3 ([t0, t1, t2, t3, t4, t5], lim) = none := rfl
 have e4 : s7n4 ([t0, t1, t2, t3, t4, t5], lim) = none := rfl
 have e5 : s7n5 ([t0, t1, t2, t3, t4, t5], lim) = none := rfl
 have e6 : s7n6 ([t0, t1, t2, t3, t4, t5], lim) = some y := h
 have o1 : o7n1 ([t0, t1, t2, t3, t4, t5], lim) = none := by unfold o7n1; rw [e0, e1]; rfl
 have o2 : o7n2 ([t0, t1, t2, t3, t4, t5], lim) = none := by unfold o7n2; rw [o1, e2]; rfl
 have o3 : o7n3 ([t0, t1, t2, t3, t4, t5], lim) = none := by unfold o7n3; rw [o2, e3]; rfl
 have o4 : o7n4 ([t0, t1, t2, t3, t4, t5], lim) = none := by unfold o7n4; rw [o3, e4]; rfl
 have o5 : o7n5 ([t0, t1, t2, t3, t4, t5], lim) = none := by unfold o7n5; rw [o4, e5]; rfl
 have o6 : o7n6 ([t0, t1, t2, t3, t4, t5], lim) = some y := by unfold o7n6; rw [o5, e6]; rfl
 have o7 : o7n7 ([t0, t1, t2, t3, t4, t5], lim) = some y := by unfold o7n7; rw [o6]; rfl
 exact o7
theorem l7_7 (t0 t1 t2 t3 t4 t5 t6 : Tn) (lim : Int × Int) {y : (List Int) × Int} (h : p7n7 (t0, t1, t2, t3, t4, t5, t6, lim) = some y) : o7n7 ([t0, t1, t2, t3, t4, t5, t6], lim) = some y := by
 have e0 : s7n0 ([t0, t1, t2, t3, t4, t5, t6], lim) = none := rfl
 have e1 : s7n1 ([t0, t1, t2, t3, t4, t5, t6], lim) = none := rfl
 have e2 : s7n2 ([t0, t1, t2, t3, t4, t5, t6], lim) = none := rfl
 have e3 : s7n3 ([t0, t1, t2, t3, t4, t5, t6], lim) = none := rfl
 have e4 : s7n4 ([t0, t1, t2, t3, t4, t5, t6], lim) = none := rfl
 have e5 : s7n5 ([t0, t1, t2, t3, t4, t5, t6], lim) = none := rfl
 have e6 : s7n6 ([t0, t1, t2, t3, t4, t5, t6], lim) = none := rfl
 have e7 : s7n7 ([t0, t1, t2, t3, t4, t5, t6], lim) = some y := h
 have o1 : o7n1 ([t0, t1, t2, t3, t4, t5, t6], lim) = none := by unfold o7n1; rw [e0, e1]; rfl
 have o2 : o7n2 ([t0, t1, t2, t3, t4, t5, t6], lim) = none := by unfold o7n2; rw [o1, e2]; rfl
 have o3 : o7n3 ([t0, t1, t2, t3, t4, t5, t6], lim) = none := by unfold o7n3; rw [o2, e3]; rfl
 have o4 : o7n4 ([t0, t1, t2, t3, t4, t5, t6], lim) = none := by unfold o7n4; rw [o3, e4]; rfl
 have o5 : o7n5 ([t0, t1, t2, t3, t4, t5, t6], lim) = none := by unfold o7n5; rw [o4, e5]; rfl
 have o6 : o7n6 ([t0, t1, t2, t3, t4, t5, t6], lim) = none := by unfold o7n6; rw [o5, e6]; rfl
 have o7 : o7n7 ([t0, t1, t2, t3, t4, t5, t6], lim) = some y := by unfold o7n7; rw [o6, e7]; rfl
 exact o7
theorem chain_all {f : List Int → Bool} : ∀ {L : List (List Int)}, (∀ s ∈ L, f s = true) → chainO f L = some ([], 12)
 | [], _ => rfl
 | s :: r, h => by
   rw [chainO, h s (by simp)]
   exact chain_all fun x hx => h x (by simp [hx])
theorem any_true {l : List Tn} {lim : Int × Int} {x : Int} (hx : lim.1 ≤ x ∧ x ≤ lim.2) (hf : fitL l x = true) {s : List Int} (hs : ∀ i ∈ s, 0 ≤ i ∧ i < (l.length : Int)) : anyF l lim s = true := by
 unfold anyF anyD
 rw [List.any_eq_true]
 refine ⟨(x - lim.1).toNat, List.mem_range.2 (by unfold cnt; omega), ?_⟩
 rw [show lim.1 + (((x - lim.1).toNat : Nat) : Int) = x by omega]
 unfold fitS
 rw [List.all_eq_true]
 intro i hi
 obtain ⟨h0, h1⟩ := hs i hi
 exact fitL_iff.1 hf i.toNat (by omega)
theorem none7 : ∀ (l : List Tn) (lim : Int × Int) (x : Int), l.length ≤ 7 → tonE l lim = 0 → lim.1 ≤ x ∧ x ≤ lim.2 → fitL l x = true → o7n7 (l, lim) = some ([], 12)
 | [], lim, x, _, h, hx, hf => by
   have hg : Good 0 subs0 := good0
   exact l7_0  lim ((prog0 h).trans (chain_all fun s hs => (hit_good (l := []) lim (by simp) hg s hs).trans (any_true hx hf (hg s hs).2.2.1)))
 | [t0], lim, x, _, h, hx, hf => by
   have hg : Good 1 subs1 := good1
   exact l7_1 t0 lim ((prog1 h).trans (chain_all fun s hs => (hit_good (l := [t0]) lim (by simp) hg s hs).trans (any_true hx hf (hg s hs).2.2.1)))
 | [t0, t1], lim, x, _, h, hx, hf => by
   have hg : Good 2 subs2 := good2
   exact l7_2 t0 t1 lim ((prog2 h).trans (chain_all fun s hs => (hit_good (l := [t0, t1]) lim (by simp) hg s hs).trans (any_true hx hf (hg s hs).2.2.1)))
 | [t0, t1, t2], lim, x, _, h, hx, hf => by
   have hg : Good 3 subs3 := good3
   exact l7_3 t0 t1 t2 lim ((prog3 h).trans (chain_all fun s hs => (hit_good (l := [t0, t1, t2]) lim (by simp) hg s hs).trans (any_true hx hf (hg s hs).2.2.1)))
 | [t0, t1, t2, t3], lim, x, _, h, hx, hf => by
   have hg : Good 4 subs4 := good4
   exact l7_4 t0 t1 t2 t3 lim ((prog4 h).trans (chain_all fun s hs => (hit_good (l := [t0, t1, t2, t3]) lim (by simp) hg s hs).trans (any_true hx hf (hg s hs).2.2.1)))
 | [t0, t1, t2, t3, t4], lim, x, _, h, hx, hf => by
   have hg : Good 5 subs5 := good5
   exact l7_5 t0 t1 t2 t3 t4 lim ((prog5 h).trans (chain_all fun s hs => (hit_good (l := [t0, t1, t2, t3, t4]) lim (by simp) hg s hs).trans (any_true hx hf (hg s hs).2.2.1)))
 | [t0, t1, t2, t3, t4, t5], lim, x, _, h, hx, hf => by
   have hg : Good 6 subs6 := good6
   exact l7_6 t0 t1 t2 t3 t4 t5 lim ((prog6 h).trans (chain_all fun s hs => (hit_good (l := [t0, t1, t2, t3, t4, t5]) lim (by simp) hg s hs).trans (any_true hx hf (hg s hs).2.2.1)))
 | [t0, t1, t2, t3, t4, t5, t6], lim, x, _, h, hx, hf => by
   have hg : Good 7 subs7 := good7
   exact l7_7 t0 t1 t2 t3 t4 t5 t6 lim (prog7 h fun s hs => (hit_good (l := [t0, t1, t2, t3, t4, t5, t6]) lim (by simp) hg s hs).trans (any_true hx hf (hg s hs).2.2.1))
 | _ :: _ :: _ :: _ :: _ :: _ :: _ :: _ :: _, _, _, hl, _, _, _ => absurd hl (by simp)
end Go.Proofs.YtdoehknomnhlkaaDoor
