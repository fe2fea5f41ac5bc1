import Derived.Test.YtoflbpmbkmephaaGreatDoorPkScriptWords3
set_option linter.unusedSimpArgs false
set_option linter.unusedVariables false
set_option linter.unusedSectionVars false
set_option maxRecDepth 100000
set_option maxHeartbeats 4000000
namespace Go.Proofs.YtoflbpmbkmephaaGreatDoor
open Go.RowKit
open Go.Lib (decDigits)
theorem Bo (c : UInt8) : ∀ l : List (List UInt8), Lib.join l [c] = Ni c l
  | [] => rfl
  | [p] => Lib.join_one p [c]
  | p :: q :: ps => by
    have ih := Bo c (q :: ps)
    rw [Lib.join_cons] at ih ⊢
    show p ++ Lib.joinTail [c] (q :: ps) = p ++ c :: Ni c (q :: ps)
    rw [← ih]
    simp [Lib.joinTail]
theorem Rf (c : UInt8) : ∀ l : List (List UInt8), (Ni c l).length ≤ (l.map List.length).sum + l.length
  | [] => by simp [Ni]
  | [p] => by simp [Ni]
  | p :: q :: ps => by
    have ih := Rf c (q :: ps)
    simp only [Ni, List.length_append, List.length_cons, List.map_cons, List.sum_cons] at ih ⊢
    omega
theorem Bp (c : UInt8) : ∀ l : List (List UInt8), l ≠ [] → (∀ w ∈ l, c ∉ w) → Qp c (Ni c l) = l
  | [], h, _ => absurd rfl h
  | [p], _, h => Rr c p (h p (by simp))
  | p :: q :: ps, _, h => by
    rw [Ni, U1 c p _ (h p (by simp)), Bp c (q :: ps) (by simp) fun w hw => h w (by simp [hw])]
def E3 (n : Int) : Bool := decide (0 ≤ n) && decide (n ≤ 1099511627776)
def Jy (e : EvL) : List Str × Bool :=
  if e.1 = 1 then ([Vi 1, Gp e.2.2.1.toNat, Ul e.2.2.2.2.2.2.2], true)
  else if e.1 = 2 then ([Vi 2, D4 e.2.1, Ul e.2.2.2.1, Ul e.2.2.2.2.2.2.2], E3 e.2.1)
  else if e.1 = 3 then ([Vi 3, D4 e.2.1, D4 e.2.2.2.2.1], E3 e.2.1 && E3 e.2.2.2.2.1)
  else if e.1 = 4 then ([Vi 4, D4 e.2.1, Ul e.2.2.2.2.2.2.2], E3 e.2.1)
  else if e.1 = 5 then ([Vi 5, D4 e.2.1], E3 e.2.1)
  else if e.1 = 6 then ([Vi 6, D4 e.2.2.2.2.1], E3 e.2.2.2.2.1)
  else if e.1 = 7 then ([Vi 7, e.2.2.2.2.2.1, e.2.2.2.2.2.2.1], Nw e.2.2.2.2.2.1 && Nw e.2.2.2.2.2.2.1)
  else if e.1 = 8 then ([Vi 8, e.2.2.2.2.2.1], Nw e.2.2.2.2.2.1)
  else ([Vi 9], true)
def E4 (e : EvL) : EvL :=
  if e.1 = 1 then (1, 0, e.2.2.1, [], 0, [], [], e.2.2.2.2.2.2.2)
  else if e.1 = 2 then (2, e.2.1, 0, e.2.2.2.1, 0, [], [], e.2.2.2.2.2.2.2)
  else if e.1 = 3 then (3, e.2.1, 0, [], e.2.2.2.2.1, [], [], [])
  else if e.1 = 4 then (4, e.2.1, 0, [], 0, [], [], e.2.2.2.2.2.2.2)
  else if e.1 = 5 then (5, e.2.1, 0, [], 0, [], [], [])
  else if e.1 = 6 then (6, 0, 0, [], e.2.2.2.2.1, [], [], [])
  else if e.1 = 7 then (7, 0, 0, [], 0, e.2.2.2.2.2.1, e.2.2.2.2.2.2.1, [])
  else if e.1 = 8 then (8, 0, 0, [], 0, e.2.2.2.2.2.1, [], [])
  else (9, 0, 0, [], 0, [], [], [])
structure EvOk (e : EvL) (N : Nat) : Prop where
  addr : 0 ≤ e.2.2.1 ∧ e.2.2.1 < 4294967296
  b : e.2.2.2.1.length ≤ N
  name : e.2.2.2.2.2.1.length ≤ N
  token : e.2.2.2.2.2.2.1.length ≤ N
  draw : e.2.2.2.2.2.2.2.length ≤ N
def C9 (x e : EvL) : Bool := (x.1 == e.1) && ((x.2.1 == e.2.1) && ((x.2.2.1 == e.2.2.1) && ((x.2.2.2.1 == e.2.2.2.1) && ((x.2.2.2.2.1 == e.2.2.2.2.1) && ((x.2.2.2.2.2.1 == e.2.2.2.2.2.1) && ((x.2.2.2.2.2.2.1 == e.2.2.2.2.2.2.1) && (x.2.2.2.2.2.2.2 == e.2.2.2.2.2.2.2)))))))
theorem D0 {x e : EvL} : C9 x e = true ↔ x = e := by
  obtain ⟨x1, x2, x3, x4, x5, x6, x7, x8⟩ := x
  obtain ⟨e1, e2, e3, e4, e5, e6, e7, e8⟩ := e
  simp [C9]
def Rg (e : EvL) : Str := if kin e.1 = true ∧ (Jy e).2 = true ∧ C9 (E4 e) e = true then Ni 32 (Jy e).1 else []
theorem D1 (s : Str) : unb (Ul s) = some s := by
  unfold Ul
  by_cases hs : s = []
  · rw [if_pos hs, hs]; rfl
  · rw [if_neg hs]
    unfold unb
    have hl := Jk s
    have hp : 0 < s.length := List.length_pos_iff.2 hs
    have hne : B5 s ≠ [45] := fun h => by rw [h] at hl; simp at hl; omega
    rw [if_neg hne, C8]
    simp only [if_neg hs]
theorem Rh {w s : Str} (h : unb w = some s) : Ul s = w := by
  unfold unb at h
  by_cases hw : w = [45]
  · rw [if_pos hw] at h
    injection h with h
    rw [← h, hw]
    rfl
  · rw [if_neg hw] at h
    cases hu : Y2 w with
    | none => rw [hu] at h; cases h
    | some b =>
      rw [hu] at h
      simp only at h
      by_cases hb : b = []
      · rw [if_pos hb] at h; cases h
      · rw [if_neg hb] at h
        injection h with h
        subst h
        unfold Ul
        rw [if_neg hb, Rt hu]
theorem hex_no {c : UInt8} (h : C7 c = none) (s : Str) : c ∉ B5 s := by
  induction s with
  | nil => simp [B5]
  | cons x s ih =>
    have hx := x.toNat_lt
    have h1 := B8 (show x.toNat / 16 < 16 by omega)
    have h2 := B8 (show x.toNat % 16 < 16 by omega)
    show c ∉ Ub.getD (x.toNat / 16) 0 :: Ub.getD (x.toNat % 16) 0 :: B5 s
    rw [List.mem_cons, List.mem_cons]
    rintro (e | e | e)
    · rw [← e, h] at h1; cases h1
    · rw [← e, h] at h2; cases h2
    · exact ih e
theorem bytes_no {c : UInt8} (h : C7 c = none) (h2 : c ≠ 45) (s : Str) : c ∉ Ul s := by
  unfold Ul
  split
  · simpa using h2
  · exact hex_no h s
theorem dec_no' {c : UInt8} (hc : Gm c = false) (n : Int) : c ∉ D4 n := by
  unfold D4
  split
  · exact Bk hc
  · simp
theorem dots_no {c : UInt8} (hc : Gm c = false) (h : c ≠ 46) (a : Nat) : c ∉ Gp a := by
  unfold Gp
  simp only [List.mem_append, List.mem_cons]
  have := fun n => Bk (n := n) hc
  rintro (e | e | e | e | e | e | e)
  all_goals first | exact this _ e | exact h e
theorem name_no {c : UInt8} (hc : isNm c = false) {s : Str} (h : Nw s = true) : c ∉ s := by
  unfold Nw at h
  simp only [Bool.and_eq_true] at h
  have := h.1.1.2
  rw [List.all_eq_true] at this
  intro hm
  rw [this c hm] at hc
  cases hc
theorem Gj {n : Int} (h : E3 n = true) : ∃ m : Nat, Vp (D4 n) = some m ∧ (m : Int) = n := by
  unfold E3 at h
  rw [Bool.and_eq_true, decide_eq_true_eq, decide_eq_true_eq] at h
  refine ⟨n.toNat, ?_, by omega⟩
  unfold D4
  rw [if_pos h]
  exact Cy (by unfold Jq; omega)
theorem U2 {w : Str} {m : Nat} (h : Vp w = some m) : D4 (m : Int) = w ∧ E3 (m : Int) = true := by
  obtain ⟨h1, h2⟩ := N3 h
  unfold Jq at h2
  refine ⟨?_, ?_⟩
  · unfold D4
    rw [if_pos (by omega), Int.toNat_natCast]
    exact h1
  · unfold E3
    rw [decide_eq_true (by omega), decide_eq_true (by omega)]
    rfl
theorem ev_cases {e : EvL} (h : kin e.1 = true) : e.1 = 1 ∨ e.1 = 2 ∨ e.1 = 3 ∨ e.1 = 4 ∨ e.1 = 5 ∨ e.1 = 6 ∨ e.1 = 7 ∨ e.1 = 8 ∨ e.1 = 9 := Uz h
theorem raw_ne (e : EvL) : (Jy e).1 ≠ [] := by
  unfold Jy
  repeat' split
  all_goals simp
theorem kword_no (n : Int) : (32 : UInt8) ∉ Vi n := by
  unfold Vi
  cases (n == 1) <;> cases (n == 2) <;> cases (n == 3) <;> cases (n == 4) <;> cases (n == 5) <;> cases (n == 6) <;> cases (n == 7) <;> cases (n == 8) <;> decide
theorem raw_no {e : EvL} (h : (Jy e).2 = true) : ∀ w ∈ (Jy e).1, (32 : UInt8) ∉ w := by
  have k : ∀ n, (32 : UInt8) ∉ Vi n := kword_no
  have d := fun n => dec_no' (c := 32) (by decide) n
  have o := fun n => dots_no (c := 32) (by decide) (by decide) n
  have b := fun s => bytes_no (c := 32) (by decide) (by decide) s
  have nm : ∀ s, Nw s = true → (32 : UInt8) ∉ s := fun s hs => name_no (by decide) hs
  unfold Jy at h ⊢
  repeat' split at h
  all_goals rename_i hk
  · simp only [if_pos hk]
    intro w hw; simp only [List.mem_cons, List.not_mem_nil, or_false] at hw
    rcases hw with rfl | rfl | rfl <;> simp [k, o, b]
  · rename_i h1
    simp only [if_neg h1, if_pos hk]
    intro w hw; simp only [List.mem_cons, List.not_mem_nil, or_false] at hw
    rcases hw with rfl | rfl | rfl | rfl <;> simp [k, d, b]
  · rename_i h1 h2
    simp only [if_neg h1, if_neg h2, if_pos hk]
    intro w hw; simp only [List.mem_cons, List.not_mem_nil, or_false] at hw
    rcases hw with rfl | rfl | rfl <;> simp [k, d]
  · rename_i h1 h2 h3
    simp only [if_neg h1, if_neg h2, if_neg h3, if_pos hk]
    intro w hw; simp only [List.mem_cons, List.not_mem_nil, or_false] at hw
    rcases hw with rfl | rfl | rfl <;> simp [k, d, b]
  · rename_i h1 h2 h3 h4
    simp only [if_neg h1, if_neg h2, if_neg h3, if_neg h4, if_pos hk]
    intro w hw; simp only [List.mem_cons, List.not_mem_nil, or_false] at hw
    rcases hw with rfl | rfl <;> simp [k, d]
  · rename_i h1 h2 h3 h4 h5
    simp only [if_neg h1, if_neg h2, if_neg h3, if_neg h4, if_neg h5, if_pos hk]
    intro w hw; simp only [List.mem_cons, List.not_mem_nil, or_false] at hw
    rcases hw with rfl | rfl <;> simp [k, d]
  · rename_i h1 h2 h3 h4 h5 h6
    simp only [if_neg h1, if_neg h2, if_neg h3, if_neg h4, if_neg h5, if_neg h6, if_pos hk]
    rw [Bool.and_eq_true] at h
    intro w hw; simp only [List.mem_cons, List.not_mem_nil, or_false] at hw
    rcases hw with rfl | rfl | rfl
    · exact k 7
    · exact nm _ h.1
    · exact nm _ h.2
  · rename_i h1 h2 h3 h4 h5 h6 h7
    simp only [if_neg h1, if_neg h2, if_neg h3, if_neg h4, if_neg h5, if_neg h6, if_neg h7, if_pos hk]
    intro w hw; simp only [List.mem_cons, List.not_mem_nil, or_false] at hw
    rcases hw with rfl | rfl
    · exact k 8
    · exact nm _ h
  · rename_i h1 h2 h3 h4 h5 h6 h7
    simp only [if_neg h1, if_neg h2, if_neg h3, if_neg h4, if_neg h5, if_neg h6, if_neg h7, if_neg hk]
    intro w hw; simp only [List.mem_cons, List.not_mem_nil, or_false] at hw
    subst hw
    exact k 9
theorem Jm (w : Str) (q : List Str) : evL (w :: q) = (D7 w).bind fun n => gtL n q := rfl
theorem ev_raw {e : EvL} (hk : kin e.1 = true) (ha : 0 ≤ e.2.2.1 ∧ e.2.2.1 < 4294967296) (h : (Jy e).2 = true) : evL (Jy e).1 = some (E4 e) := by
  rcases ev_cases hk with k | k | k | k | k | k | k | k | k
  · simp only [Jy, E4, k, if_pos]
    rw [Jm, Yj rfl]
    simp only [Option.bind_some, gtL, if_pos, addr_dots (show e.2.2.1.toNat < 4294967296 by omega), D1, Option.map_some]
    rw [Int.toNat_of_nonneg ha.1]
  · simp only [Jy, k, show (2 : Int) ≠ 1 by decide, if_false, if_pos] at h
    obtain ⟨m, h1, h2⟩ := Gj h
    simp only [Jy, E4, k, show (2 : Int) ≠ 1 by decide, if_false, if_pos]
    rw [Jm, Yj rfl]
    simp only [Option.bind_some, gtL, show (2 : Int) ≠ 1 by decide, if_false, if_pos, h1, D1, Option.map_some, h2]
  · simp only [Jy, k, show (3 : Int) ≠ 1 by decide, show (3 : Int) ≠ 2 by decide, if_false, if_pos, Bool.and_eq_true] at h
    obtain ⟨m, h1, h2⟩ := Gj h.1
    obtain ⟨m', h3, h4⟩ := Gj h.2
    simp only [Jy, E4, k, show (3 : Int) ≠ 1 by decide, show (3 : Int) ≠ 2 by decide, if_false, if_pos]
    rw [Jm, Yj rfl]
    simp only [Option.bind_some, gtL, show (3 : Int) ≠ 1 by decide, show (3 : Int) ≠ 2 by decide, if_false, if_pos, h1, h3, Option.map_some, h2, h4]
  · simp only [Jy, k, show (4 : Int) ≠ 1 by decide, show (4 : Int) ≠ 2 by decide, show (4 : Int) ≠ 3 by decide, if_false, if_pos] at h
    obtain ⟨m, h1, h2⟩ := Gj h
    simp only [Jy, E4, k, show (4 : Int) ≠ 1 by decide, show (4 : Int) ≠ 2 by decide, show (4 : Int) ≠ 3 by decide, if_false, if_pos]
    rw [Jm, Yj rfl]
    simp only [Option.bind_some, gtL, show (4 : Int) ≠ 1 by decide, show (4 : Int) ≠ 2 by decide, show (4 : Int) ≠ 3 by decide, if_false, if_pos, h1, D1, Option.map_some, h2]
  · simp only [Jy, k, show (5 : Int) ≠ 1 by decide, show (5 : Int) ≠ 2 by decide, show (5 : Int) ≠ 3 by decide, show (5 : Int) ≠ 4 by decide, if_false, if_pos] at h
    obtain ⟨m, h1, h2⟩ := Gj h
    simp only [Jy, E4, k, show (5 : Int) ≠ 1 by decide, show (5 : Int) ≠ 2 by decide, show (5 : Int) ≠ 3 by decide, show (5 : Int) ≠ 4 by decide, if_false, if_pos]
    rw [Jm, Yj rfl]
    simp only [Option.bind_some, gtL, show (5 : Int) ≠ 1 by decide, show (5 : Int) ≠ 2 by decide, show (5 : Int) ≠ 3 by decide, show (5 : Int) ≠ 4 by decide, if_false, if_pos, h1, Option.map_some, h2]
  · simp only [Jy, k, show (6 : Int) ≠ 1 by decide, show (6 : Int) ≠ 2 by decide, show (6 : Int) ≠ 3 by decide, show (6 : Int) ≠ 4 by decide, show (6 : Int) ≠ 5 by decide, if_false, if_pos] at h
    obtain ⟨m, h1, h2⟩ := Gj h
    simp only [Jy, E4, k, show (6 : Int) ≠ 1 by decide, show (6 : Int) ≠ 2 by decide, show (6 : Int) ≠ 3 by decide, show (6 : Int) ≠ 4 by decide, show (6 : Int) ≠ 5 by decide, if_false, if_pos]
    rw [Jm, Yj rfl]
    simp only [Option.bind_some, gtL, show (6 : Int) ≠ 1 by decide, show (6 : Int) ≠ 2 by decide, show (6 : Int) ≠ 3 by decide, show (6 : Int) ≠ 4 by decide, show (6 : Int) ≠ 5 by decide, if_false, if_pos, h1, Option.map_some, h2]
  · simp only [Jy, k, show (7 : Int) ≠ 1 by decide, show (7 : Int) ≠ 2 by decide, show (7 : Int) ≠ 3 by decide, show (7 : Int) ≠ 4 by decide, show (7 : Int) ≠ 5 by decide, show (7 : Int) ≠ 6 by decide, if_false, if_pos] at h
    simp only [Jy, E4, k, show (7 : Int) ≠ 1 by decide, show (7 : Int) ≠ 2 by decide, show (7 : Int) ≠ 3 by decide, show (7 : Int) ≠ 4 by decide, show (7 : Int) ≠ 5 by decide, show (7 : Int) ≠ 6 by decide, if_false, if_pos]
    rw [Jm, Yj rfl]
    simp only [Option.bind_some, gtL, show (7 : Int) ≠ 1 by decide, show (7 : Int) ≠ 2 by decide, show (7 : Int) ≠ 3 by decide, show (7 : Int) ≠ 4 by decide, show (7 : Int) ≠ 5 by decide, show (7 : Int) ≠ 6 by decide, if_false, if_pos, h]
  · simp only [Jy, k, show (8 : Int) ≠ 1 by decide, show (8 : Int) ≠ 2 by decide, show (8 : Int) ≠ 3 by decide, show (8 : Int) ≠ 4 by decide, show (8 : Int) ≠ 5 by decide, show (8 : Int) ≠ 6 by decide, show (8 : Int) ≠ 7 by decide, if_false, if_pos] at h
    simp only [Jy, E4, k, show (8 : Int) ≠ 1 by decide, show (8 : Int) ≠ 2 by decide, show (8 : Int) ≠ 3 by decide, show (8 : Int) ≠ 4 by decide, show (8 : Int) ≠ 5 by decide, show (8 : Int) ≠ 6 by decide, show (8 : Int) ≠ 7 by decide, if_false, if_pos]
    rw [Jm, Yj rfl]
    simp only [Option.bind_some, gtL, show (8 : Int) ≠ 1 by decide, show (8 : Int) ≠ 2 by decide, show (8 : Int) ≠ 3 by decide, show (8 : Int) ≠ 4 by decide, show (8 : Int) ≠ 5 by decide, show (8 : Int) ≠ 6 by decide, show (8 : Int) ≠ 7 by decide, if_false, if_pos, h]
  · simp only [Jy, E4, k]
    rfl
theorem ev_line {e : EvL} (hk : kin e.1 = true) (ha : 0 ≤ e.2.2.1 ∧ e.2.2.1 < 4294967296) (h : (Jy e).2 = true) : evL (Qp 32 (Ni 32 (Jy e).1)) = some (E4 e) := by
  rw [Bp 32 _ (raw_ne e) (raw_no h)]
  exact ev_raw hk ha h
theorem line_ev {e : EvL} (ha : 0 ≤ e.2.2.1 ∧ e.2.2.1 < 4294967296) (h : Rg e ≠ []) : evL (Qp 32 (Rg e)) = some e := by
  unfold Rg at h ⊢
  split
  · rename_i hc
    rw [ev_line hc.1 ha hc.2.1, D0.1 hc.2.2]
  · rename_i hc
    rw [if_neg hc] at h
    exact absurd rfl h
theorem gtL_inv {n : Int} {q : List Str} {e : EvL} (hn : kin n = true) (h : gtL n q = some e) : e.1 = n ∧ (Jy e).1 = Vi n :: q ∧ (Jy e).2 = true ∧ E4 e = e ∧ 0 ≤ e.2.2.1 ∧ e.2.2.1 < 4294967296 := by
  rcases Uz hn with rfl | rfl | rfl | rfl | rfl | rfl | rfl | rfl | rfl
  · simp only [gtL, if_pos] at h
    rcases q with _ | ⟨a, _ | ⟨d, _ | ⟨c, r⟩⟩⟩ <;> try (cases h; done)
    simp only [Option.bind_eq_some_iff, Option.map_eq_some_iff] at h
    obtain ⟨x, hx, y, hy, rfl⟩ := h
    have := addrL_lt hx
    refine ⟨rfl, ?_, rfl, rfl, by show (0 : Int) ≤ (x : Int); omega, by show (x : Int) < 4294967296; omega⟩
    simp only [Jy, if_pos, Int.toNat_natCast, dots_addr hx, Rh hy]
  · simp only [gtL, show (2 : Int) ≠ 1 by decide, if_false, if_pos] at h
    rcases q with _ | ⟨a, _ | ⟨d, _ | ⟨c, _ | ⟨z, r⟩⟩⟩⟩ <;> try (cases h; done)
    simp only [Option.bind_eq_some_iff, Option.map_eq_some_iff] at h
    obtain ⟨x, hx, y, hy, z, hz, rfl⟩ := h
    obtain ⟨h1, h2⟩ := U2 hx
    refine ⟨rfl, ?_, ?_, rfl, Int.le_refl 0, show (0 : Int) < 4294967296 by decide⟩
    · simp only [Jy, show (2 : Int) ≠ 1 by decide, if_false, if_pos, h1, Rh hy, Rh hz]
    · exact h2
  · simp only [gtL, show (3 : Int) ≠ 1 by decide, show (3 : Int) ≠ 2 by decide, if_false, if_pos] at h
    rcases q with _ | ⟨a, _ | ⟨d, _ | ⟨c, r⟩⟩⟩ <;> try (cases h; done)
    simp only [Option.bind_eq_some_iff, Option.map_eq_some_iff] at h
    obtain ⟨x, hx, y, hy, rfl⟩ := h
    obtain ⟨h1, h2⟩ := U2 hx
    obtain ⟨h3, h4⟩ := U2 hy
    refine ⟨rfl, ?_, ?_, rfl, Int.le_refl 0, show (0 : Int) < 4294967296 by decide⟩
    · simp only [Jy, show (3 : Int) ≠ 1 by decide, show (3 : Int) ≠ 2 by decide, if_false, if_pos, h1, h3]
    · show (E3 (x : Int) && E3 (y : Int)) = true
      rw [h2, h4]; rfl
  · simp only [gtL, show (4 : Int) ≠ 1 by decide, show (4 : Int) ≠ 2 by decide, show (4 : Int) ≠ 3 by decide, if_false, if_pos] at h
    rcases q with _ | ⟨a, _ | ⟨d, _ | ⟨c, r⟩⟩⟩ <;> try (cases h; done)
    simp only [Option.bind_eq_some_iff, Option.map_eq_some_iff] at h
    obtain ⟨x, hx, y, hy, rfl⟩ := h
    obtain ⟨h1, h2⟩ := U2 hx
    refine ⟨rfl, ?_, ?_, rfl, Int.le_refl 0, show (0 : Int) < 4294967296 by decide⟩
    · simp only [Jy, show (4 : Int) ≠ 1 by decide, show (4 : Int) ≠ 2 by decide, show (4 : Int) ≠ 3 by decide, if_false, if_pos, h1, Rh hy]
    · exact h2
  · simp only [gtL, show (5 : Int) ≠ 1 by decide, show (5 : Int) ≠ 2 by decide, show (5 : Int) ≠ 3 by decide, show (5 : Int) ≠ 4 by decide, if_false, if_pos] at h
    rcases q with _ | ⟨a, _ | ⟨d, r⟩⟩ <;> try (cases h; done)
    simp only [Option.map_eq_some_iff] at h
    obtain ⟨x, hx, rfl⟩ := h
    obtain ⟨h1, h2⟩ := U2 hx
    refine ⟨rfl, ?_, ?_, rfl, Int.le_refl 0, show (0 : Int) < 4294967296 by decide⟩
    · simp only [Jy, show (5 : Int) ≠ 1 by decide, show (5 : Int) ≠ 2 by decide, show (5 : Int) ≠ 3 by decide, show (5 : Int) ≠ 4 by decide, if_false, if_pos, h1]
    · exact h2
  · simp only [gtL, show (6 : Int) ≠ 1 by decide, show (6 : Int) ≠ 2 by decide, show (6 : Int) ≠ 3 by decide, show (6 : Int) ≠ 4 by decide, show (6 : Int) ≠ 5 by decide, if_false, if_pos] at h
    rcases q with _ | ⟨a, _ | ⟨d, r⟩⟩ <;> try (cases h; done)
    simp only [Option.map_eq_some_iff] at h
    obtain ⟨x, hx, rfl⟩ := h
    obtain ⟨h1, h2⟩ := U2 hx
    refine ⟨rfl, ?_, ?_, rfl, Int.le_refl 0, show (0 : Int) < 4294967296 by decide⟩
    · simp only [Jy, show (6 : Int) ≠ 1 by decide, show (6 : Int) ≠ 2 by decide, show (6 : Int) ≠ 3 by decide, show (6 : Int) ≠ 4 by decide, show (6 : Int) ≠ 5 by decide, if_false, if_pos, h1]
    · exact h2
  · simp only [gtL, show (7 : Int) ≠ 1 by decide, show (7 : Int) ≠ 2 by decide, show (7 : Int) ≠ 3 by decide, show (7 : Int) ≠ 4 by decide, show (7 : Int) ≠ 5 by decide, show (7 : Int) ≠ 6 by decide, if_false, if_pos] at h
    rcases q with _ | ⟨a, _ | ⟨d, _ | ⟨c, r⟩⟩⟩ <;> try (cases h; done)
    simp only at h
    split at h
    · rename_i hc
      injection h with h
      subst h
      exact ⟨rfl, rfl, hc, rfl, Int.le_refl 0, show (0 : Int) < 4294967296 by decide⟩
    · cases h
  · simp only [gtL, show (8 : Int) ≠ 1 by decide, show (8 : Int) ≠ 2 by decide, show (8 : Int) ≠ 3 by decide, show (8 : Int) ≠ 4 by decide, show (8 : Int) ≠ 5 by decide, show (8 : Int) ≠ 6 by decide, show (8 : Int) ≠ 7 by decide, if_false, if_pos] at h
    rcases q with _ | ⟨a, _ | ⟨d, r⟩⟩ <;> try (cases h; done)
    simp only at h
    split at h
    · rename_i hc
      injection h with h
      subst h
      exact ⟨rfl, rfl, hc, rfl, Int.le_refl 0, show (0 : Int) < 4294967296 by decide⟩
    · cases h
  · simp only [gtL, show (9 : Int) ≠ 1 by decide, show (9 : Int) ≠ 2 by decide, show (9 : Int) ≠ 3 by decide, show (9 : Int) ≠ 4 by decide, show (9 : Int) ≠ 5 by decide, show (9 : Int) ≠ 6 by decide, show (9 : Int) ≠ 7 by decide, show (9 : Int) ≠ 8 by decide, if_false] at h
    rcases q with _ | ⟨a, r⟩ <;> try (cases h; done)
    injection h with h
    subst h
    exact ⟨rfl, rfl, rfl, rfl, Int.le_refl 0, show (0 : Int) < 4294967296 by decide⟩
theorem evL_inv {s : Str} {e : EvL} (h : evL (Qp 32 s) = some e) : Rg e = s ∧ kin e.1 = true ∧ 0 ≤ e.2.2.1 ∧ e.2.2.1 < 4294967296 := by
  cases hw : Qp 32 s with
  | nil => exact absurd hw (Ye 32 s)
  | cons w q =>
    rw [hw] at h
    change (D7 w).bind (fun n => gtL n q) = some e at h
    rw [Option.bind_eq_some_iff] at h
    obtain ⟨n, hn, h⟩ := h
    have hin : kin n = true := (Ey (List.mem_of_find?_eq_some hn)).1
    obtain ⟨h1, h2, h3, h4, h5, h6⟩ := gtL_inv hin h
    have hkw : Vi n = w := by
      have := List.find?_some hn
      exact eq_of_beq this
    refine ⟨?_, by rw [h1]; exact hin, h5, h6⟩
    unfold Rg
    rw [if_pos ⟨by rw [h1]; exact hin, h3, D0.2 h4⟩, h2, hkw, ← hw]
    exact Rs 32 s
end Go.Proofs.YtoflbpmbkmephaaGreatDoor
namespace Go.Proofs.YtoflbpmbkmephaaGreatDoor
open Go.RowKit
theorem Ea (q : List Str) (b : Bool) (p : List Str) (h : q.length + p.length ≤ 1000000) : Qm q b p = some (q ++ p, b) := by
  unfold Qm
  rw [Bi (by omega)]
  rfl
theorem fin_gt (n : Int) : (if n < 0 then true else decide (n > 1099511627776)) = !(E3 n) := by
  unfold E3
  by_cases h : n < 0
  · rw [if_pos h, show decide (0 ≤ n) = false by rw [decide_eq_false_iff_not]; omega]; rfl
  · rw [if_neg h, show decide (0 ≤ n) = true by rw [decide_eq_true_eq]; omega, Bool.true_and, ← decide_not]
    exact decide_eq_decide.2 (by omega)
theorem Bq (q : List Str) (b : Bool) (n : Int) (h : q.length ≤ 1000000 - 1) : Qr q b n = some (q ++ [D4 n], b || !(E3 n)) := by
  unfold Qr Vd
  simp only [B3, Option.bind_some]
  have hp : ∀ b, Qm q b [D4 n] = some (q ++ [D4 n], b) := fun b => Ea q b _ (by simp; omega)
  simp only [hp, Option.bind_some]
  rw [← fin_gt]
  cases b
  · by_cases h0 : n < 0
    · rw [if_pos h0, show decide (n < 0) = true by rw [decide_eq_true_eq]; exact h0]; rfl
    · rw [if_neg h0, show decide (n < 0) = false by rw [decide_eq_false_iff_not]; exact h0]; rfl
  · rfl
theorem E5 (q : List Str) (b : Bool) (p : Str) (h : q.length ≤ 1000000 - 1) (hp : p.length ≤ 1000000) : Va q b p = some (q ++ [p], b || !(Nw p)) := by
  unfold Va Vq
  have hq : ∀ b, Qm q b [p] = some (q ++ [p], b) := fun b => Ea q b _ (by simp; omega)
  simp only [lNameW p hp, hq, Option.bind_some]
  cases b <;> rfl
theorem sw_line (q : List Str) (b : Bool) (h : b = false → (q.map List.length).sum + q.length ≤ 1000000) (hq : q.length ≤ 1000000) : Vb q b = some (if b = true then [] else Ni 32 q) := by
  unfold Vb
  cases b
  · have hl := Rf 32 q
    have := h rfl
    unfold X6
    rw [Bo, Nat.ble_eq_true_of_le (show q.length ≤ 140737488355328 by omega), Nat.ble_eq_true_of_le (show (Ni 32 q).length ≤ 140737488355328 by omega)]
    rfl
  · rfl
theorem kput_eq (e : EvL) (hk : kin e.1 = true) (hok : EvOk e 100000) : Fd e.1 [Vi e.1] false e.1 e.2.1 e.2.2.1 e.2.2.2.1 e.2.2.2.2.1 e.2.2.2.2.2.1 e.2.2.2.2.2.2.1 e.2.2.2.2.2.2.2 = some ((Jy e).1, !(Jy e).2) := by
  obtain ⟨e1, e2, e3, e4, e5, e6, e7, e8⟩ := e
  obtain ⟨ha, hB, hN, hT, hD⟩ := hok
  simp only at ha hB hN hT hD hk
  have a1 : Yi e3 = some (Gp e3.toNat) := by
    have := lDots e3.toNat (by omega)
    rwa [Int.toNat_of_nonneg ha.1] at this
  have b4 := lBytes e4 (by omega)
  have b8 := lBytes e8 (by omega)
  rcases Uz hk with rfl | rfl | rfl | rfl | rfl | rfl | rfl | rfl | rfl
  · show Xs [Vi 1] false 1 e2 e3 e4 e5 e6 e7 e8 = _
    unfold Xs
    rw [a1, b8]
    simp only [Option.bind_some]
    rw [Ea _ _ _ (by simp)]
    rfl
  · show Xu [Vi 2] false 2 e2 e3 e4 e5 e6 e7 e8 = _
    unfold Xu
    rw [Bq _ _ _ (by simp), b4, b8]
    simp only [Option.bind_some]
    rw [Ea _ _ _ (by simp)]
    rfl
  · show Xw [Vi 3] false 3 e2 e3 e4 e5 e6 e7 e8 = _
    unfold Xw
    rw [Bq _ _ _ (by simp)]
    simp only [Option.bind_some]
    rw [Bq _ _ _ (by simp)]
    simp only [Option.bind_some, Jy]
    simp [Bool.not_and]
  · show Xy [Vi 4] false 4 e2 e3 e4 e5 e6 e7 e8 = _
    unfold Xy
    rw [Bq _ _ _ (by simp), b8]
    simp only [Option.bind_some]
    rw [Ea _ _ _ (by simp)]
    rfl
  · show X0 [Vi 5] false 5 e2 e3 e4 e5 e6 e7 e8 = _
    unfold X0
    rw [Bq _ _ _ (by simp)]
    rfl
  · show Z6 [Vi 6] false 6 e2 e3 e4 e5 e6 e7 e8 = _
    unfold Z6
    rw [Bq _ _ _ (by simp)]
    rfl
  · show Z8 [Vi 7] false 7 e2 e3 e4 e5 e6 e7 e8 = _
    unfold Z8
    rw [E5 _ _ _ (by simp) (by omega)]
    simp only [Option.bind_some]
    rw [E5 _ _ _ (by simp) (by omega)]
    simp only [Option.bind_some, Jy]
    simp [Bool.not_and]
  · show Xa [Vi 8] false 8 e2 e3 e4 e5 e6 e7 e8 = _
    unfold Xa
    rw [E5 _ _ _ (by simp) (by omega)]
    rfl
  · rfl
theorem decL_len (n : Int) : (D4 n).length ≤ 13 := by
  unfold D4
  split
  · exact dec_len13 (by unfold Jq; omega)
  · simp
theorem Br (s : Str) : (Ul s).length ≤ 2 * s.length + 1 := by
  unfold Ul
  split
  · simp
  · rw [Jk]; omega
theorem kword_len (n : Int) : (Vi n).length ≤ 10 := by
  unfold Vi
  cases (n == 1) <;> cases (n == 2) <;> cases (n == 3) <;> cases (n == 4) <;> cases (n == 5) <;> cases (n == 6) <;> cases (n == 7) <;> cases (n == 8) <;> decide
theorem E6 (e : EvL) (hok : EvOk e 100000) (h : (Jy e).2 = true) : ((Jy e).1.map List.length).sum + (Jy e).1.length ≤ 1000000 - 1000 := by
  obtain ⟨e1, e2, e3, e4, e5, e6, e7, e8⟩ := e
  obtain ⟨ha, hB, hN, hT, hD⟩ := hok
  simp only at ha hB hN hT hD
  have k := kword_len
  have d := decL_len
  have o := C4
  have b4 := Br e4
  have b8 := Br e8
  have d2 := d e2
  have d5 := d e5
  have o3 := o e3.toNat
  unfold Jy at h ⊢
  simp only at h ⊢
  have k1 := k 1; have k2 := k 2; have k3 := k 3; have k4 := k 4; have k5 := k 5; have k6 := k 6; have k7 := k 7; have k8 := k 8; have k9 := k 9
  repeat' split
  all_goals simp only [List.map_cons, List.map_nil, List.sum_cons, List.sum_nil, List.length_cons, List.length_nil]
  all_goals omega
theorem raw_cnt (e : EvL) : (Jy e).1.length ≤ 4 := by
  unfold Jy
  repeat' split
  all_goals simp
theorem lineL_len (e : EvL) (hok : EvOk e 100000) : (Rg e).length ≤ 1000000 - 1000 := by
  unfold Rg
  split
  · rename_i h
    exact Nat.le_trans (Rf 32 _) (E6 e hok h.2.1)
  · simp
theorem lLine (e : EvL) (hok : EvOk e 100000) : Zx e.1 e.2.1 e.2.2.1 e.2.2.2.1 e.2.2.2.2.1 e.2.2.2.2.2.1 e.2.2.2.2.2.2.1 e.2.2.2.2.2.2.2 = some (Rg e) := by
  unfold Zx
  simp only [X7, Option.bind_some]
  cases hk : kin e.1 with
  | false => unfold Rg; rw [if_neg (by rw [hk]; simp)]; rfl
  | true =>
    rw [kput_eq e hk hok]
    simp only [cond_true, Option.bind_some]
    rw [sw_line _ _ (fun h => Nat.le_trans (E6 e hok (by simpa using h)) (by omega)) (Nat.le_trans (raw_cnt e) (by omega))]
    simp only [Option.bind_some]
    cases hr : (Jy e).2 with
    | false =>
      have hl : Rg e = [] := by unfold Rg; exact if_neg (by rw [hr]; simp)
      rw [hl, show (if (!false) = true then ([] : Str) else Ni 32 (Jy e).1) = [] from rfl, Bn [] (by simp)]
      rfl
    | true =>
      rw [show (if (!true) = true then ([] : Str) else Ni 32 (Jy e).1) = Ni 32 (Jy e).1 from rfl, Bn _ (Nat.le_trans (Rf 32 _) (Nat.le_trans (E6 e hok hr) (by omega))), ev_line hk hok.addr hr]
      unfold Rg
      show X1 (Ni 32 (Jy e).1) (!(C9 (E4 e) e)) = _
      cases hs : C9 (E4 e) e with
      | true => rw [if_pos ⟨hk, hr, rfl⟩]; rfl
      | false => rw [if_neg (by simp)]; rfl
end Go.Proofs.YtoflbpmbkmephaaGreatDoor
namespace Go.Proofs.YtoflbpmbkmephaaGreatDoor
open Go.RowKit
set_option maxRecDepth 1000000 in
theorem scrHead : Yd = some true := by decide +kernel
theorem great_ok (e1 e2 e3 : Int) (e4 : Str) (e5 : Int) (e6 e7 e8 : Str) (h4 : e4.length ≤ 140737488355328) (h6 : e6.length ≤ 140737488355328) (h7 : e7.length ≤ 140737488355328) (h8 : e8.length ≤ 140737488355328) :
    ∃ b, Xp e1 e2 e3 e4 e5 e6 e7 e8 = some b ∧ (b = false → e4.length + e6.length + e7.length + e8.length ≤ 9000) := by
  refine ⟨_, rfl, fun h => ?_⟩
  rw [Yf (x := ((List.length e4 : Nat) : Int) + ((List.length e6 : Nat) : Int)) (by omega), Yf (x := ((List.length e4 : Nat) : Int) + ((List.length e6 : Nat) : Int) + ((List.length e7 : Nat) : Int)) (by omega), Yf (by omega)] at h
  have := of_decide_eq_false h
  omega
end Go.Proofs.YtoflbpmbkmephaaGreatDoor
namespace Go.Proofs.YtoflbpmbkmephaaGreatDoor
open Go.RowKit
theorem EvOk.mono {e : EvL} {n m : Nat} (h : EvOk e n) (hm : n ≤ m) : EvOk e m := ⟨h.addr, Nat.le_trans h.b hm, Nat.le_trans h.name hm, Nat.le_trans h.token hm, Nat.le_trans h.draw hm⟩
theorem Ru (c : UInt8) : ∀ x y : List UInt8, Qp c (x ++ c :: y) = Qp c x ++ Qp c y
  | [], y => by simp [Qp]
  | a :: x, y => by
    have ih := Ru c x y
    rw [List.cons_append]
    conv => lhs; unfold Qp
    conv => rhs; lhs; unfold Qp
    by_cases h : a = c
    · rw [if_pos h, if_pos h, ih]; rfl
    · rw [if_neg h, if_neg h, ih]
      cases hs : Qp c x with
      | nil => exact absurd hs (Ye c x)
      | cons p ps => rfl
theorem gtL_cnt {n : Int} {q : List Str} {e : EvL} (h : gtL n q = some e) : q.length = if n = 2 then 3 else if n = 1 ∨ n = 3 ∨ n = 4 ∨ n = 7 then 2 else if n = 5 ∨ n = 6 ∨ n = 8 then 1 else 0 := by
  unfold gtL at h
  repeat' split at h
  all_goals first | (cases h; done) | skip
  all_goals simp_all
theorem ev_more {ws ex : List Str} {e : EvL} (h : evL ws = some e) (hx : ex ≠ []) : evL (ws ++ ex) = none := by
  cases ws with
  | nil => cases h
  | cons w q =>
    rw [Jm, Option.bind_eq_some_iff] at h
    obtain ⟨n, hn, h⟩ := h
    rw [List.cons_append, Jm, hn, Option.bind_some]
    cases hg : gtL n (q ++ ex) with
    | none => rfl
    | some y =>
      have h1 := gtL_cnt h
      have h2 := gtL_cnt hg
      rw [List.length_append, h1] at h2
      have : 0 < ex.length := List.length_pos_iff.2 hx
      omega
theorem ev_blank (s : Str) : evL (Qp 32 (32 :: s)) = none := by
  have : Qp 32 (32 :: s) = [] :: Qp 32 s := by simp [Qp]
  rw [this]
  rfl
end Go.Proofs.YtoflbpmbkmephaaGreatDoor
namespace Go.Proofs.YtoflbpmbkmephaaGreatDoor
theorem Rv (e1 e2 e3 : Int) (e4 : Str) (e5 : Int) (e6 e7 e8 s : Str) (h3 : 0 ≤ e3 ∧ e3 < 4294967296) (h4 : e4.length ≤ 140737488355328) (h6 : e6.length ≤ 140737488355328) (h7 : e7.length ≤ 140737488355328) (h8 : e8.length ≤ 140737488355328) :
    V5 e1 e2 e3 e4 e5 e6 e7 e8 s = some true := by
  unfold V5
  obtain ⟨b, hb, hq⟩ := great_ok e1 e2 e3 e4 e5 e6 e7 e8 h4 h6 h7 h8
  rw [scrHead, hb]
  simp only [Option.bind_some]
  cases b with
  | true => rfl
  | false =>
    have hq := hq rfl
    simp only [cond_false]
    by_cases hs : ((List.length s : Nat) : Int) > 100
    · rw [decide_eq_true hs]; rfl
    · rw [decide_eq_false hs]
      have hs : s.length ≤ 100 := by omega
      have hok : EvOk (e1, e2, e3, e4, e5, e6, e7, e8) 100000 := ⟨h3, by show e4.length ≤ _; omega, by show e6.length ≤ _; omega, by show e7.length ≤ _; omega, by show e8.length ≤ _; omega⟩
      have hl := lLine (e1, e2, e3, e4, e5, e6, e7, e8) hok
      have hlen := lineL_len _ hok
      unfold Q4
      simp only at hl
      rw [hl]
      simp only [cond_false, Option.bind_some]
      by_cases hne : Rg (e1, e2, e3, e4, e5, e6, e7, e8) = []
      · rw [hne]; rfl
      · rw [beq_eq_false_iff_ne.2 hne]
        have hev := line_ev (e := (e1, e2, e3, e4, e5, e6, e7, e8)) h3 hne
        have hinv := (evL_inv hev).1
        generalize hL : Rg (e1, e2, e3, e4, e5, e6, e7, e8) = l at *
        rw [Bi (by simp; omega)]
        simp only [cond_false, Option.bind_some]
        rw [Bi (by simp; omega)]
        simp only [Option.bind_some]
        rw [Bn _ (by simp; omega), Bi (by simp; omega)]
        simp only [Option.bind_some]
        rw [Bn _ (by simp; omega)]
        simp only [Option.bind_some]
        rw [Bn _ (by simp; omega), Bi (by omega)]
        simp only [Option.bind_some]
        rw [Bn _ (by simp; omega)]
        simp only [Option.bind_some]
        have n1 : evL (Qp 32 (l ++ [32] ++ s)) = none := by
          rw [List.append_assoc, List.singleton_append, Ru]
          exact ev_more hev (Ye 32 s)
        have n2 : evL (Qp 32 ([32] ++ l)) = none := ev_blank l
        have n3 : evL (Qp 32 (l ++ [32])) = none := by
          rw [Ru]
          exact ev_more hev (Ye 32 [])
        rw [n1, n2, n3]
        simp only [evD, Bool.not_false, cond_true]
        by_cases hs0 : s = []
        · subst hs0
          rw [List.append_nil, hev]
          simp only [evD, beq_self_eq_true, Bool.and_self, cond_true]
          rfl
        · rw [beq_eq_false_iff_ne.2 hs0]
          simp only [cond_false, Bool.not_false, cond_true]
          cases hy : evL (Qp 32 (l ++ s)) with
          | none => rfl
          | some y =>
            simp only [Bool.not_true, cond_false]
            have hyne : C9 y (e1, e2, e3, e4, e5, e6, e7, e8) = false := by
              cases hc : C9 y (e1, e2, e3, e4, e5, e6, e7, e8) with
              | false => rfl
              | true =>
                have hye := D0.1 hc
                have h1 := (evL_inv hy).1
                rw [hye, hL] at h1
                have h2 := congrArg List.length h1
                rw [List.length_append] at h2
                have := List.length_pos_iff.2 hs0
                omega
            show Qd (!(C9 y (e1, e2, e3, e4, e5, e6, e7, e8))) = some true
            rw [hyne]
            rfl
end Go.Proofs.YtoflbpmbkmephaaGreatDoor
namespace Go.Proofs.YtoflbpmbkmephaaGreatDoor
open Go.RowKit Go.ChangeShapes Go.WideShapes Go.Deep
theorem own : ownKnob Tryz.prog.godebug = none := by kernel_rfl
theorem laidOut : laidOutB Tryz.prog = true := by kernel_rfl
section
variable {H : Type} {enc : TypeId × Value → H} {W : World} {spare : Nat → Bool} {held : Bool} {base b0 : Nat} {r : Reach}
end
end Go.Proofs.YtoflbpmbkmephaaGreatDoor
namespace Go.Proofs.YtoflbpmbkmephaaGreatDoor
open Go.RowKit Go.ChangeShapes Go.WideShapes Go.Deep
section
variable {H : Type} {enc : TypeId × Value → H} {P : Program} {W : World}
def Rds (enc : TypeId × Value → H) (P : Program) (W : World) (t : TypeId) {α : Type} (e : Enc α) (Q : Nat → α → Prop) : Prop :=
  ∀ (Ju : Nat) (cs : List Value) (x : DataW H × List MemPlace), DataW.trod enc P W 0 (fun _ => true) true Ju t cs = some x → ∃ a, cs = e.enc a ∧ ∀ r, (x.1.weights P t).all (· ≤ r) = true → Q r a
def RdsFs (enc : TypeId × Value → H) (P : Program) (W : World) (o : Nat) (fs : List (TypeId × Nat)) {α : Type} (e : Enc α) (Q : Nat → α → Prop) : Prop :=
  ∀ (Ju : Nat) (cs : List Value) (xs : List (DataW H × List MemPlace)), xs.length = fs.length → (∀ (i : Nat) f, fs[i]? = some f → DataW.trod enc P W 0 (fun _ => true) true Ju f.1 ((cs.drop f.2).take (P.cellsOf f.1)) = xs[i]?) →
    ∃ a, (cs.drop o).take e.sz = e.enc a ∧ ∀ r, (DataW.weightsEach P (fs.map (·.1)) (xs.map (·.1))).all (· ≤ r) = true → Q r a
theorem B9 {t : TypeId} {k : IntKind} (ht : P.underlying t = some (.int k)) : Rds enc P W t (Ny k) (fun _ n => (Lit.int k n).wf = true) := by
  intro Ju cs x h
  obtain ⟨n, rfl, rfl, hw⟩ := DataW.trod_int ht h
  exact ⟨n, rfl, fun _ _ => hw⟩
theorem Ca {t : TypeId} (ht : P.underlying t = some .string) : Rds enc P W t Qj (fun r s => s.length ≤ r) := by
  intro Ju cs x h
  obtain ⟨s, rfl, rfl, hs⟩ := DataW.trod_string ht h
  refine ⟨s.data.toList, rfl, fun r hr => ?_⟩
  simpa [DataW.weights] using hr
theorem fs_one {t : TypeId} {o : Nat} {α : Type} {e : Enc α} {Q : Nat → α → Prop} (h : Rds enc P W t e Q) (hc : P.cellsOf t = e.sz) : RdsFs enc P W o [(t, o)] e Q := by
  intro Ju cs xs hl hf
  match xs, hl with
  | [x], _ =>
    have := hf 0 (t, o) rfl
    obtain ⟨a, ha, hq⟩ := h Ju _ _ this
    rw [hc] at ha
    refine ⟨a, ha, fun r hr => hq r ?_⟩
    simpa [DataW.weightsEach] using hr
theorem G2 {t : TypeId} {o : Nat} {fs : List (TypeId × Nat)} {α β : Type} {e : Enc α} {e' : Enc β} {Q : Nat → α → Prop} {Q' : Nat → β → Prop} (h : Rds enc P W t e Q) (hc : P.cellsOf t = e.sz) (hr : RdsFs enc P W (o + e.sz) fs e' Q') :
    RdsFs enc P W o ((t, o) :: fs) (Qw e e') (fun r a => Q r a.1 ∧ Q' r a.2) := by
  intro Ju cs xs hl hf
  match xs, hl with
  | x :: xs, hl =>
    have := hf 0 (t, o) rfl
    obtain ⟨a, ha, hq⟩ := h Ju _ _ this
    obtain ⟨b, hb, hq'⟩ := hr Ju cs xs (by simpa using hl) (fun i f hi => by have := hf (i + 1) f (by simpa using hi); simpa using this)
    refine ⟨(a, b), ?_, fun r hw => ?_⟩
    · show (cs.drop o).take (e.sz + e'.sz) = e.enc a ++ e'.enc b
      rw [hc] at ha
      rw [← ha, ← hb, List.take_add, List.drop_drop]
    · simp only [List.map_cons, DataW.weightsEach, List.all_append, Bool.and_eq_true] at hw
      exact ⟨hq r hw.1, hq' r hw.2⟩
theorem F2 {t : TypeId} {l : List (TypeId × Nat)} {α : Type} {e : Enc α} {Q : Nat → α → Prop} (hl : (match P.underlying t with | some (.struct fs) => some (fs.toList.map (fun f => (f.type, f.offset))) | _ => none) = some l) (hc : P.cellsOf t = e.sz)
    (hr : RdsFs enc P W 0 l e Q) : Rds enc P W t e Q := by
  intro Ju cs x hx
  split at hl
  · rename_i fs hs
    simp only [Option.some.injEq] at hl
    subst hl
    obtain ⟨xs, n, _, rfl, hlen, hxs, hg⟩ := DataW.trod_struct hs hx
    obtain ⟨a, ha, hq⟩ := hr n cs xs (by simpa using hxs) (fun i f hi => by
      rw [List.getElem?_map, Option.map_eq_some_iff] at hi
      obtain ⟨f', hf', rfl⟩ := hi
      exact hg i f' (by simpa using hf'))
    rw [List.drop_zero, List.take_of_length_le (by omega)] at ha
    refine ⟨a, ha, fun r hw => hq r ?_⟩
    simp only [DataW.weights, hs] at hw
    simpa [List.map_map, Function.comp_def] using hw
  · cases hl
variable {r0 : Reach} {b0 : Nat}
theorem open_agg {t : TypeId} {fs : Array Field} {α : Type} {e : Enc α} {Q : Nat → α → Prop} (hs : P.underlying t = some (.struct fs)) (h : Rds enc P W t e Q) {v : Value} {d : DataW H} {p : List MemPlace} (hv : Value.okWide P W r0 b0 t v)
    (hd : DataW.Trod enc P W 0 (fun _ => true) true t v d p) (hr : ∀ n ∈ d.weights P t, n ≤ reachBytes) : ∃ a, v = .agg ⟨e.enc a⟩ ∧ Q reachBytes a := by
  obtain ⟨cs, rfl, hsz⟩ := okWide_struct hs hv
  obtain ⟨Ju, hf⟩ := hd
  obtain ⟨a, ha, hq⟩ := h Ju _ _ hf
  refine ⟨a, ?_, hq _ (by rw [List.all_eq_true]; intro n hn; exact decide_eq_true (hr n hn))⟩
  simp only [Value.cells] at ha
  rw [← ha]
end
end Go.Proofs.YtoflbpmbkmephaaGreatDoor
namespace Go.Proofs.YtoflbpmbkmephaaGreatDoor
theorem Fh : reachBytes ≤ 140737488355328 := by decide
section
variable {H : Type} {enc : TypeId × Value → H} {P : Program} {W : World}
abbrev EvV := Int × Int × Int × List UInt8 × Int × List UInt8 × List UInt8 × List UInt8
def EvQ (r : Nat) (e : EvV) : Prop := (Lit.int .i64 e.1).wf = true ∧ (Lit.int .i64 e.2.1).wf = true ∧ (Lit.int .u32 e.2.2.1).wf = true ∧ e.2.2.2.1.length ≤ r ∧ (Lit.int .i64 e.2.2.2.2.1).wf = true ∧ e.2.2.2.2.2.1.length ≤ r ∧ e.2.2.2.2.2.2.1.length ≤ r ∧ e.2.2.2.2.2.2.2.length ≤ r
theorem ev_rds : Rds enc Tryz.prog W 52 (Qw (Ny .i64) (Qw (Ny .i64) (Qw (Ny .u32) (Qw Qj (Qw (Ny .i64) (Qw Qj (Qw Qj Qj))))))) EvQ :=
  F2 (l := [(3, 0), (3, 1), (50, 2), (9, 3), (2, 4), (9, 5), (9, 6), (9, 7)]) (by kernel_rfl) (by kernel_rfl)
    (G2 (B9 Tryz.underlying3) (by kernel_rfl) (G2 (B9 Tryz.underlying3) (by kernel_rfl) (G2 (B9 Tryz.underlying50) (by kernel_rfl) (G2 (Ca Tryz.underlying9) (by kernel_rfl)
      (G2 (B9 Tryz.underlying2) (by kernel_rfl) (G2 (Ca Tryz.underlying9) (by kernel_rfl) (G2 (Ca Tryz.underlying9) (by kernel_rfl) (fs_one (Ca Tryz.underlying9) (by kernel_rfl)))))))))
theorem u32_wf {a : Int} (h : (Lit.int .u32 a).wf = true) : 0 ≤ a ∧ a < 4294967296 := by
  simp [Lit.wf, IntKind.min, IntKind.max, IntKind.signed, IntKind.bits] at h
  omega
end
end Go.Proofs.YtoflbpmbkmephaaGreatDoor
namespace Go.Proofs.YtoflbpmbkmephaaGreatDoor
open Go.RowKit
abbrev Fi : List (String × DataW Unit) := [("math/bits.deBruijn32tab", Rows.laid_math_bits_deBruijn32tab), ("math/bits.deBruijn64tab", Rows.laid_math_bits_deBruijn64tab), ("internal/strconv.uint64pow10", Rows.laid_internal_strconv_uint64pow10)
  , ("unicode/utf8.acceptRanges", Rows.laid_unicode_utf8_acceptRanges), ("unicode/utf8.first", Rows.laid_unicode_utf8_first)
  ]
theorem gTab : Tryz.prog.globalNamed N2 = some 1 := by kernel_rfl
theorem gTabType : (Tryz.prog.globals[1]?).map (·.type) = some 209 := by kernel_rfl
theorem cellsTab : Tryz.prog.cellsOf 209 = 20 := by kernel_rfl
theorem cellsU64 : Tryz.prog.cellsOf 196 = 1 := by kernel_rfl
theorem laid_of {W : World} (h : laidMetH Tryz.prog Fi W) : Yo W := by
  have h1 := h.filter (fun x => x.1 == N2)
  have e : Fi.filter (fun x => x.1 == N2) = [(N2, Lib.tabData .u64 Lib.pow10Tab)] := by kernel_rfl
  rw [e] at h1
  have ht : Lib.TabIs Tryz.prog W N2 .u64 Lib.pow10Tab := Lib.tabIs_of_head (rest := []) gTab gTabType Tryz.underlying209 Tryz.underlying196 cellsU64 cellsTab h1
  refine ⟨ht, fun g hg => ?_⟩
  obtain rfl := Option.some.inj (gTab.symm.trans hg)
  have := ht.cell gTab 0 (by decide)
  exact block_lt_of_cell this
def cells1 : DataW Unit → List Value
  | .lit (.int k z) => [.int k z]
  | .lit (.bool b) => [.bool b]
  | _ => []
def cells2 : DataW Unit → List Value
  | .agg l => l.flatMap cells1
  | d => cells1 d
def cells3 : DataW Unit → List Value
  | .agg l => l.flatMap cells2
  | d => cells2 d
def Ri (d : DataW Unit) : Obj → Obj
  | .cells _ t frozen => .cells (cells3 d).toArray t frozen
  | o => o
noncomputable def D2 (os : Os) : World :=
  { World.holding Tryz.prog os ⟨#[], #[], []⟩ with heap := ((((World.holding Tryz.prog os ⟨#[], #[], []⟩).heap.modify 4 (Ri Rows.laid_math_bits_deBruijn32tab)).modify 5 (Ri Rows.laid_math_bits_deBruijn64tab)).modify 1 (Ri Rows.laid_internal_strconv_uint64pow10)
    |>.modify 3 (Ri Rows.laid_unicode_utf8_acceptRanges) |>.modify 2 (Ri Rows.laid_unicode_utf8_first)
    ) }
end Go.Proofs.YtoflbpmbkmephaaGreatDoor
namespace Go.Proofs.YtoflbpmbkmephaaGreatDoor
open Go.ChangeShapes Go.WideShapes Go.ChangeAt Go.RowKit
open Go.ChangeMaps (open_string shut_string)
theorem Gq (H : Type) (enc : TypeId × Value → H) (W : World) (base : Nat) (args : Array Value) (ds gs : List (DataW H)) (before : List MemPlace) (vt : List TypeId)
    (hval : ∀ (j : Nat) t v, Tryz.f12.params[j]? = some t → args[j]? = some v → Value.okWide Tryz.prog W .any base t v)
    (hW : DataW.Whole enc Tryz.prog Tryz.f12.params.toList Rows.scriptWordsSpec.vars false W args.toList ds gs before) (hL : laidMetH Tryz.prog Rows.scriptWordsRow.laid W)
    (hZ : (DataW.weightsEach Tryz.prog (Tryz.f12.params.toList ++ vt) (ds ++ gs)).all (· ≤ reachBytes) = true) :
    Calls Tryz.prog 12 args W fun e W' => ∃ v, e = .returned v ∧ Rows.scriptWordsSpec.post enc Tryz.prog Tryz.f12 false true false false W args v W' := by
  have hW' := hW
  obtain ⟨p, q, hA0, hV, rfl, hfz, hnd⟩ := hW
  have hA : DataW.TrodAll enc Tryz.prog W 0 (fun _ => true) true Tryz.f12.params.toList args.toList ds p := hA0
  rw [Tryz.params12] at hA hval hZ
  obtain ⟨v0, vs0, d0, ds0, p0, q0, hargs, rfl, rfl, h0, r0⟩ := trodAll_cons hA
  obtain ⟨v1, vs1, d1, ds1, p1, q1, rfl, rfl, rfl, h1, r1⟩ := trodAll_cons r0
  obtain ⟨rfl, rfl, rfl⟩ := trodAll_nil r1
  obtain rfl : args = #[v0, v1] := by cases args; simp_all
  obtain ⟨rfl, rfl⟩ := trodVars_none hV
  have wz : ∀ (j : Nat) t d, _ → _ → ∀ n ∈ DataW.weights Tryz.prog t d, n ≤ reachBytes := fun j t d ht hd n hn => of_decide_eq_true (List.all_eq_true.1 hZ n (DataW.weights_mem_each (j := j) ht hd n hn))
  have k0 := h0
  have lt0 : ∀ x ∈ p0, x.block < W.heap.size := by obtain ⟨m, hm⟩ := k0; exact DataW.trod_lt m _ _ _ hm
  have k1 := h1
  have lt1 : ∀ x ∈ p1, x.block < W.heap.size := by obtain ⟨m, hm⟩ := k1; exact DataW.trod_lt m _ _ _ hm
  obtain ⟨⟨a0_0, a0_1, a0_2, a0_3, a0_4, a0_5, a0_6, a0_7⟩, rfl, q0_⟩ := open_agg Tryz.underlying52 ev_rds (hval 0 52 v0 rfl rfl) h0 (wz 0 52 d0 rfl rfl)
  obtain ⟨s1_, rfl, ed1_, _, hs1_⟩ := open_string Tryz.underlying9 (hval 1 9 v1 rfl rfl) h1
  have hn1_ : s1_.data.toList.length ≤ reachBytes := (wz 1 9 d1 rfl rfl) _ (by rw [ed1_]; simp [DataW.weights])
  clear hA0
  refine (Jt  a0_0 a0_1 a0_2 a0_3 a0_4 a0_5 a0_6 a0_7 s1_.data.toList W (laid_of hL)  true (Rv _ _ _ _ _ _ _ _ _ (u32_wf q0_.2.2.1) (Nat.le_trans q0_.2.2.2.1 Fh) (Nat.le_trans q0_.2.2.2.2.2.1 Fh) (Nat.le_trans q0_.2.2.2.2.2.2.1 Fh) (Nat.le_trans q0_.2.2.2.2.2.2.2 Fh))).mono fun e W' ⟨he, bel0⟩ => ?_
  have bel := SP.keeps bel0
  subst he
  exact ⟨_, rfl, _, _, _, [], _, [], hW', trodAll_mk1 (shut_bool Tryz.underlying4 _), (trodAll_cons_mk (Below.trod laidOut (by kernel_rfl) (of_decide_eq_true (by kernel_rfl)) k0 bel lt0) (trodAll_cons_mk (Below.trod laidOut (by kernel_rfl) (of_decide_eq_true (by kernel_rfl)) k1 bel lt1) trodAll_mk0)), rfl, bel.frame _, fun h => by cases h⟩
theorem Gr (os : Os) : laidMet Tryz.prog Rows.scriptWordsRow.laid ((D2 os).forCall (fun _ _ => 0) ⟨#[], #[.agg #[.int .i64 0, .int .i64 0, .int .u32 0, .string ⟨#[]⟩, .int .i64 0, .string ⟨#[]⟩, .string ⟨#[]⟩, .string ⟨#[]⟩], .string ⟨#[]⟩], []⟩).memory :=
  laidMet_of_run' 8 (by kernel_rfl) (by kernel_rfl)
theorem Rw (os : Os) {H : Type} (enc : TypeId × Value → H) : ∃ places, DataW.whole enc Tryz.prog ((D2 os).forCall (fun _ _ => 0) ⟨#[], #[.agg #[.int .i64 0, .int .i64 0, .int .u32 0, .string ⟨#[]⟩, .int .i64 0, .string ⟨#[]⟩, .string ⟨#[]⟩, .string ⟨#[]⟩], .string ⟨#[]⟩], []⟩).memory Tryz.f12.params.toList Rows.scriptWordsSpec.vars false [.agg #[.int .i64 0, .int .i64 0, .int .u32 0, .string ⟨#[]⟩, .int .i64 0, .string ⟨#[]⟩, .string ⟨#[]⟩, .string ⟨#[]⟩], .string ⟨#[]⟩] 8 = some ([.agg [.lit (.int .i64 0), .lit (.int .i64 0), .lit (.int .u32 0), .lit (.string []), .lit (.int .i64 0), .lit (.string []), .lit (.string []), .lit (.string [])], .lit (.string [])], [], places) :=
  ⟨[], by kernel_rfl⟩
theorem Rj (os : Os) (started : os.Started) (H : Type) (enc : TypeId × Value → H) (F : Stop.Interp) :
    ReturnsInHanded {} Tryz.checked os 12 .any ((OpenSpec.ofChange Rows.scriptWordsSpec).preRow enc Tryz.prog Tryz.f12 Rows.scriptWordsRow.domain false Rows.scriptWordsRow.laid) (((OpenSpec.ofChange Rows.scriptWordsSpec).at F).post enc Tryz.prog Tryz.f12 false true false false) := by
  obtain ⟨places, hx⟩ := Rw os enc
  refine returnsInHanded_of_row (C := Tryz.checked) (s := OpenSpec.ofChange Rows.scriptWordsSpec) own started (by kernel_rfl) Tryz.func12
    (witness_row_at (enc := enc) (C := Tryz.checked) false (D2 os) #[.agg #[.int .i64 0, .int .i64 0, .int .u32 0, .string ⟨#[]⟩, .int .i64 0, .string ⟨#[]⟩, .string ⟨#[]⟩, .string ⟨#[]⟩], .string ⟨#[]⟩] rfl (by kernel_rfl) (by kernel_rfl) (by kernel_rfl)
      (OpenSpec.preRow_of_cond 8 hx (by kernel_rfl) (fun k hk => by cases hk) (by kernel_rfl) (Gr os))) ?_
  intro W base args ds gs before hval hW _ _ hZ hL _ _
  exact Gq H enc W base args ds gs before _ hval hW hL hZ
theorem R9 : Rows.ScriptWordsSaid :=
  OpenClaim.holds_of_cond 12 Tryz.f12 rfl rfl rfl rfl rfl rfl rfl ⟨rfl, rfl, rfl, rfl, rfl⟩ rfl rfl rfl rfl rfl (by kernel_rfl) Tryz.func12 (by kernel_rfl)
    (of_decide_eq_true (by kernel_rfl)) (by unfold Func.isWrapper; first | (rw [if_pos (by decide +kernel)]; kernel_rfl) | (rw [if_neg (by decide +kernel)]; exact ⟨rfl, rfl⟩))
    (fun os started H enc _ F => by rw [OpenClaim.pre_eq_preRow]; exact Rj os started H enc F)
theorem Gd (f : FuncId) (fn : Func) (hf : Tryz.pinned.checked.prog.funcNamed Rows.scriptWordsRow.func = some f) (hfn : Tryz.pinned.checked.prog.funcs[f]? = some fn) :
    false = Tryz.pinned.checked.prog.looks [] ∧ ∀ (j : Nat) t, fn.params[j]? = some t → Tryz.pinned.checked.prog.wantsStandIn t = false := by
  obtain rfl : f = 12 := Option.some.inj ((show Tryz.prog.funcNamed Rows.scriptWordsRow.func = some 12 by kernel_rfl).symm.trans hf) |>.symm
  obtain rfl : fn = Tryz.f12 := (Option.some.inj (Tryz.func12.symm.trans hfn)).symm
  refine ⟨by kernel_rfl, fun j t ht => ?_⟩
  have ha : (Tryz.f12.params.toList.all fun t => !Tryz.prog.wantsStandIn t) = true := by kernel_rfl
  rw [List.all_eq_true] at ha
  have := ha t (by rw [← Array.getElem?_toList] at ht; exact List.mem_of_getElem? ht)
  have h2 : Tryz.prog.wantsStandIn t = false := by simpa using this
  exact h2
theorem scriptWords_card : Rows.ScriptWordsCardSaid :=
  Claim7.holds_tied_plain_at .later [] _ _ _ _ R9 (fun _ h => by cases h) (by kernel_rfl) (fun _ h => by cases h) scriptWords_row_tie rfl ⟨rfl, rfl⟩ (by kernel_rfl) rfl Gd (by kernel_rfl)
#print axioms scriptWords_card
end Go.Proofs.YtoflbpmbkmephaaGreatDoor
