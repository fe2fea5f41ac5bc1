import Derived.Test.YtoflbpmbkmephaaGreatDoorPkConfigTells5
set_option linter.unusedSimpArgs false
set_option linter.unusedVariables false
set_option linter.unusedSectionVars false
set_option maxRecDepth 100000
set_option maxHeartbeats 40000000
namespace Go.Proofs.YtoflbpmbkmephaaGreatDoor
open Go.RowKit
def Gk (ws : List Str) : Str := C1 32 ws ++ [10]
def Sa (n : La) : List Str := [Dt, Cg n.1.toNat n.2]
def O9 (x : E8) : List Str := [Y2, x.1, K6 x.2.1, Br x.2.2]
def tenW (t : Qb) : List Str := [Zs, t.1, Br t.2.1, Br t.2.2.1]
def C8 (c : Bp) : List Str := [Zi, Br c.1, Br c.2.1, Br c.2.2.1, Br c.2.2.2.1]
def Es (t : Qb) : List (List Str) := tenW t :: (t.2.2.2.1.map Sa ++ t.2.2.2.2.map O9)
def Ii (c : Bp) : List (List Str) := C8 c :: c.2.2.2.2.flatMap Es
def K1 (c : Bp) : Str := if okC c = true then (Ii c).flatMap Gk else []
theorem Tz (a : Nat) (b : Int) : (Cg a b).length ≤ 5000 := by
  unfold Cg
  cases h : Dm a b with
  | false => simp
  | true =>
    have h1 := Hq a
    have h2 := Eg h
    have h3 := Ci b
    unfold Br at h3
    rw [if_pos (by omega)] at h3
    simp only [List.length_append, List.length_cons]
    omega
theorem Pa {ws : List Str} {m k : Nat} (h : ∀ w ∈ ws, w.length ≤ m) (hk : ws.length ≤ k) : (Gk ws).length ≤ k * m + k + 1 := by
  have h1 := O0 32 ws
  have h2 : (ws.map List.length).sum ≤ ws.length * m := by
    clear h1 hk
    induction ws with
    | nil => simp
    | cons w ws ih =>
      have := ih fun x hx => h x (by simp [hx])
      have := h w (by simp)
      simp only [List.map_cons, List.sum_cons, List.length_cons, Nat.succ_mul]
      omega
  have h3 : ws.length * m ≤ k * m := Nat.mul_le_mul_right _ hk
  unfold Gk
  simp only [List.length_append, List.length_cons, List.length_nil]
  omega
theorem S8 (ws : List Str) (out : Str) (h : ∀ w ∈ ws, w.length ≤ 10000) (hk : ws.length ≤ 5) (ho : out.length ≤ 2000000000) : J6 ws out = some (out ++ Gk ws) := by
  have hl := Pa h hk
  unfold Gk at hl ⊢
  simp only [List.length_append, List.length_cons, List.length_nil] at hl
  unfold J6 G2 Y5
  rw [Lx, Nat.ble_eq_true_of_le (show ws.length ≤ 140737488355328 by omega), Nat.ble_eq_true_of_le (show (C1 32 ws).length ≤ 140737488355328 by omega)]
  simp only [Bool.and_true, cond_true, Option.bind_some]
  rw [Ur (by simp; omega), Option.bind_some, Ur (by simp; omega)]
  rfl
def SmT (t : Qb) : Prop := t.1.length ≤ 5000 ∧ t.2.2.2.1.length ≤ 4 ∧ t.2.2.2.2.length ≤ 4 ∧ (∀ n ∈ t.2.2.2.1, 0 ≤ n.1 ∧ n.1 < 4294967296) ∧ ∀ x ∈ t.2.2.2.2, x.1.length ≤ 5000 ∧ x.2.1.length ≤ 5000
theorem Sb (n : La) : (∀ w ∈ Sa n, w.length ≤ 10000) ∧ (Sa n).length ≤ 5 := by
  refine ⟨fun w hw => ?_, by simp [Sa]⟩
  have := Tz n.1.toNat n.2
  simp only [Sa, List.mem_cons, List.not_mem_nil, or_false] at hw
  rcases hw with rfl | rfl
  · decide
  · omega
theorem Sc {x : E8} (h : x.1.length ≤ 5000 ∧ x.2.1.length ≤ 5000) : (∀ w ∈ O9 x, w.length ≤ 10000) ∧ (O9 x).length ≤ 5 := by
  refine ⟨fun w hw => ?_, by simp [O9]⟩
  have h1 := Ci x.2.2
  have h2 := D5 x.2.1
  simp only [O9, List.mem_cons, List.not_mem_nil, or_false] at hw
  rcases hw with rfl | rfl | rfl | rfl
  · decide
  · omega
  · omega
  · omega
theorem Sd {t : Qb} (h : t.1.length ≤ 5000) : (∀ w ∈ tenW t, w.length ≤ 10000) ∧ (tenW t).length ≤ 5 := by
  refine ⟨fun w hw => ?_, by simp [tenW]⟩
  have h1 := Ci t.2.1
  have h2 := Ci t.2.2.1
  simp only [tenW, List.mem_cons, List.not_mem_nil, or_false] at hw
  rcases hw with rfl | rfl | rfl | rfl
  · decide
  · omega
  · omega
  · omega
theorem Pb (c : Bp) : (∀ w ∈ C8 c, w.length ≤ 10000) ∧ (C8 c).length ≤ 5 := by
  refine ⟨fun w hw => ?_, by simp [C8]⟩
  have h1 := Ci c.1
  have h2 := Ci c.2.1
  have h3 := Ci c.2.2.1
  have h4 := Ci c.2.2.2.1
  simp only [C8, List.mem_cons, List.not_mem_nil, or_false] at hw
  rcases hw with rfl | rfl | rfl | rfl | rfl
  · decide
  · omega
  · omega
  · omega
  · omega
theorem Bc {ws : List Str} (h : (∀ w ∈ ws, w.length ≤ 10000) ∧ ws.length ≤ 5) : (Gk ws).length ≤ 60000 := by
  have := Pa h.1 h.2
  omega
theorem Se {α : Type} (g : α → List Str) : ∀ l : List α, (∀ x ∈ l, (∀ w ∈ g x, w.length ≤ 10000) ∧ (g x).length ≤ 5) → (l.flatMap fun x => Gk (g x)).length ≤ l.length * 60000
  | [], _ => by simp
  | x :: l, h => by
    have h1 := Se g l fun y hy => h y (by simp [hy])
    have h2 := Bc (h x (by simp))
    simp only [List.flatMap_cons, List.length_append, List.length_cons, Nat.succ_mul]
    omega
theorem Ij (t : Qb) : (Es t).flatMap Gk = Gk (tenW t) ++ ((t.2.2.2.1.flatMap fun n => Gk (Sa n)) ++ t.2.2.2.2.flatMap fun x => Gk (O9 x)) := by
  unfold Es
  rw [List.flatMap_cons, List.flatMap_append, List.flatMap_map, List.flatMap_map]
theorem S9 {t : Qb} (h : SmT t) : ((Es t).flatMap Gk).length ≤ 600000 := by
  obtain ⟨h1, h2, h3, h4, h5⟩ := h
  have a1 := Bc (Sd h1)
  have a2 := Se Sa t.2.2.2.1 fun n _ => Sb n
  have a3 := Se O9 t.2.2.2.2 fun x hx => Sc (h5 x hx)
  rw [Ij]
  simp only [List.length_append]
  have : t.2.2.2.1.length * 60000 ≤ 4 * 60000 := Nat.mul_le_mul_right _ h2
  have : t.2.2.2.2.length * 60000 ≤ 4 * 60000 := Nat.mul_le_mul_right _ h3
  omega
theorem pTok_loop (r16 r20 : Str → Int → Option Str) (v : Int) (t : Qb) (ht : SmT t) : ∀ (d i f : Nat) (out : Str), d = t.2.2.2.2.length - i → i ≤ t.2.2.2.2.length → d < f → out.length + d * 60000 ≤ 2000000000 →
    J0 r16 r20 v t f out (i : Int) = r16 (out ++ (t.2.2.2.2.drop i).flatMap fun x => Gk (O9 x)) (IntKind.wrap .i64 (v + 1)) := by
  intro d
  induction d with
  | zero =>
    intro i f out hd hi hf ho
    obtain ⟨f, rfl⟩ : ∃ g, f = g + 1 := ⟨f - 1, by omega⟩
    show Jz r16 r20 (J0 r16 r20 v t f) v t out (i : Int) = _
    unfold Jz
    rw [show decide ((i : Int) < ((List.length t.2.2.2.2 : Nat) : Int)) = false from decide_eq_false (by omega), cond_false, List.drop_of_length_le (by omega)]
    simp
  | succ d ih =>
    intro i f out hd hi hf ho
    obtain ⟨f, rfl⟩ : ∃ g, f = g + 1 := ⟨f - 1, by omega⟩
    have hlt : i < t.2.2.2.2.length := by omega
    have h2 := ht.2.2.1
    have hx := ht.2.2.2.2 _ (List.getElem_mem hlt)
    have hw := Sc hx
    have hle := Bc hw
    show Jz r16 r20 (J0 r16 r20 v t f) v t out (i : Int) = _
    unfold Jz
    rw [show decide ((i : Int) < ((List.length t.2.2.2.2 : Nat) : Int)) = true from decide_eq_true (by omega), cond_true, Zr hlt, Option.bind_some, Nat.ble_eq_true_of_le (show (t.2.2.2.2[i]).2.1.length ≤ 281474976710656 by omega), show chk true = some () from rfl, Option.bind_some, prog_hex _ (by omega), Option.bind_some, D9, Option.bind_some]
    have hp := S8 (O9 t.2.2.2.2[i]) out hw.1 hw.2 (by omega)
    unfold O9 at hp
    rw [hp, Option.bind_some, show ((i : Int) + 1) = ((i + 1 : Nat) : Int) by omega, Uy (by omega)]
    have hle' : (Gk [Y2, (t.2.2.2.2[i]).1, K6 (t.2.2.2.2[i]).2.1, Br (t.2.2.2.2[i]).2.2]).length ≤ 60000 := hle
    rw [ih (i + 1) f _ (by omega) (by omega) (by omega) (by simp only [List.length_append]; omega), List.drop_eq_getElem_cons hlt, List.flatMap_cons, ← List.append_assoc]
    rfl
theorem pNet_loop (r16 : Str → Int → Option Str) (v : Int) (t : Qb) (ht : SmT t) : ∀ (d i f : Nat) (out : Str), d = t.2.2.2.1.length - i → i ≤ t.2.2.2.1.length → d < f → out.length + d * 60000 + 300000 ≤ 2000000000 →
    Zq r16 v t f out (i : Int) = r16 (out ++ ((t.2.2.2.1.drop i).flatMap fun n => Gk (Sa n)) ++ t.2.2.2.2.flatMap fun x => Gk (O9 x)) (IntKind.wrap .i64 (v + 1)) := by
  intro d
  induction d with
  | zero =>
    intro i f out hd hi hf ho
    obtain ⟨f, rfl⟩ : ∃ g, f = g + 1 := ⟨f - 1, by omega⟩
    show J1 r16 (Zq r16 v t f) v t out (i : Int) = _
    unfold J1
    have := pTok_loop r16 (Zq r16 v t f) v t ht t.2.2.2.2.length 0 Zj out (by omega) (by omega) (by have := ht.2.2.1; unfold Zj; omega) (by have := ht.2.2.1; omega)
    rw [show ((0 : Nat) : Int) = 0 from rfl, List.drop_zero] at this
    rw [show decide ((i : Int) < ((List.length t.2.2.2.1 : Nat) : Int)) = false from decide_eq_false (by omega), cond_false, List.drop_of_length_le (by omega), this]
    simp
  | succ d ih =>
    intro i f out hd hi hf ho
    obtain ⟨f, rfl⟩ : ∃ g, f = g + 1 := ⟨f - 1, by omega⟩
    have hlt : i < t.2.2.2.1.length := by omega
    have h2 := ht.2.1
    obtain ⟨hn0, hn1⟩ := ht.2.2.2.1 _ (List.getElem_mem hlt)
    have hw := Sb t.2.2.2.1[i]
    have hle := Bc hw
    show J1 r16 (Zq r16 v t f) v t out (i : Int) = _
    unfold J1
    have hs := lSlash (t.2.2.2.1[i]).1.toNat (by omega) (t.2.2.2.1[i]).2
    rw [show (((t.2.2.2.1[i]).1.toNat : Nat) : Int) = (t.2.2.2.1[i]).1 by omega] at hs
    rw [show decide ((i : Int) < ((List.length t.2.2.2.1 : Nat) : Int)) = true from decide_eq_true (by omega), cond_true, Zr hlt, Option.bind_some, hs, Option.bind_some]
    have hp := S8 (Sa t.2.2.2.1[i]) out hw.1 hw.2 (by omega)
    unfold Sa at hp
    rw [hp, Option.bind_some, show ((i : Int) + 1) = ((i + 1 : Nat) : Int) by omega, Uy (by omega)]
    have hle' : (Gk [Dt, Cg (t.2.2.2.1[i]).1.toNat (t.2.2.2.1[i]).2]).length ≤ 60000 := hle
    rw [ih (i + 1) f _ (by omega) (by omega) (by omega) (by simp only [List.length_append]; omega), List.drop_eq_getElem_cons hlt, List.flatMap_cons, ← List.append_assoc]
    rfl
theorem pTen_loop (l : List Qb) (hl : l.length ≤ 8) (ht : ∀ t ∈ l, SmT t) : ∀ (d i f : Nat) (out : Str), d = l.length - i → i ≤ l.length → d < f → out.length + d * 600000 ≤ 1000000000 →
    Vg l f out (i : Int) = some (out ++ (l.drop i).flatMap fun t => (Es t).flatMap Gk) := by
  intro d
  induction d with
  | zero =>
    intro i f out hd hi hf ho
    obtain ⟨f, rfl⟩ : ∃ g, f = g + 1 := ⟨f - 1, by omega⟩
    show J2 (Vg l f) l out (i : Int) = _
    unfold J2
    rw [show decide ((i : Int) < ((List.length l : Nat) : Int)) = false from decide_eq_false (by omega), cond_false, List.drop_of_length_le (by omega)]
    simp
  | succ d ih =>
    intro i f out hd hi hf ho
    obtain ⟨f, rfl⟩ : ∃ g, f = g + 1 := ⟨f - 1, by omega⟩
    have hlt : i < l.length := by omega
    have hs := ht _ (List.getElem_mem hlt)
    have hw := Sd hs.1
    have hle := Bc hw
    have htl := S9 hs
    show J2 (Vg l f) l out (i : Int) = _
    unfold J2
    rw [show decide ((i : Int) < ((List.length l : Nat) : Int)) = true from decide_eq_true (by omega), cond_true, Zr hlt, Option.bind_some, D9, Option.bind_some, D9, Option.bind_some]
    have hp := S8 (tenW l[i]) out hw.1 hw.2 (by omega)
    unfold tenW at hp
    have hle' : (Gk [Zs, (l[i]).1, Br (l[i]).2.1, Br (l[i]).2.2.1]).length ≤ 60000 := hle
    have hnet := pNet_loop (Vg l f) (i : Int) l[i] hs l[i].2.2.2.1.length 0 Zj (out ++ Gk [Zs, (l[i]).1, Br (l[i]).2.1, Br (l[i]).2.2.1]) (by omega) (by omega) (by have := hs.2.1; unfold Zj; omega) (by have := hs.2.1; simp only [List.length_append]; omega)
    rw [show ((0 : Nat) : Int) = 0 from rfl, List.drop_zero] at hnet
    rw [hp, Option.bind_some, hnet, show ((i : Int) + 1) = ((i + 1 : Nat) : Int) by omega, Uy (by omega), List.append_assoc, List.append_assoc]
    have he : Gk [Zs, (l[i]).1, Br (l[i]).2.1, Br (l[i]).2.2.1] ++ ((l[i].2.2.2.1.flatMap fun n => Gk (Sa n)) ++ l[i].2.2.2.2.flatMap fun x => Gk (O9 x)) = (Es l[i]).flatMap Gk := (Ij l[i]).symm
    rw [he, ih (i + 1) f _ (by omega) (by omega) (by omega) (by simp only [List.length_append]; omega), List.drop_eq_getElem_cons hlt, List.flatMap_cons, ← List.append_assoc]
theorem okC_sm {c : Bp} (hq : ∀ t ∈ c.2.2.2.2, Pe t) (ho : okC c = true) : c.2.2.2.2.length ≤ 8 ∧ ∀ t ∈ c.2.2.2.2, SmT t ∧ Hf t = true := by
  unfold okC Ok at ho
  simp only [Bool.and_eq_true, decide_eq_true_eq, List.all_eq_true] at ho
  obtain ⟨_, h1, h2, _⟩ := ho
  refine ⟨h1, fun t ht => ⟨?_, h2 t ht⟩⟩
  have h3 := h2 t ht
  obtain ⟨q1, q2, q3, q4, q5⟩ := hq t ht
  unfold Hf at h3
  simp only [Bool.and_eq_true, decide_eq_true_eq, List.all_eq_true] at h3
  obtain ⟨⟨_, hk⟩, ⟨hn, h4, h5⟩, _⟩ := h3
  refine ⟨by have := Sz hn; omega, h4, h5, q4, fun x hx => ?_⟩
  have hx' := hk x hx
  unfold I4 at hx'
  simp only [Bool.and_eq_true, decide_eq_true_eq] at hx'
  exact ⟨by have := Sz hx'.1; omega, by omega⟩
theorem pPrint (c : Bp) (hl : c.2.2.2.2.length ≤ 140737488355328) (hq : ∀ t ∈ c.2.2.2.2, Pe t) : G6 c.1 c.2.1 c.2.2.1 c.2.2.2.1 c.2.2.2.2 = some (K1 c) := by
  unfold G6 K1
  rw [lCfg _ _ _ _ _ hl hq, Option.bind_some]
  show cond (!okC c) _ _ = _
  cases ho : okC c with
  | false => rfl
  | true =>
    obtain ⟨h1, h2⟩ := okC_sm hq ho
    have hw := Pb c
    have hle := Bc hw
    have hp := S8 (C8 c) [] hw.1 hw.2 (by simp)
    unfold C8 at hp
    have hle' : (Gk [Zi, Br c.1, Br c.2.1, Br c.2.2.1, Br c.2.2.2.1]).length ≤ 60000 := hle
    have ht := pTen_loop c.2.2.2.2 h1 (fun t ht => (h2 t ht).1) c.2.2.2.2.length 0 Zj (Gk (C8 c)) (by omega) (by omega) (by unfold Zj; omega) (by omega)
    rw [show ((0 : Nat) : Int) = 0 from rfl, List.drop_zero] at ht
    rw [Bool.not_true, cond_false, D9, Option.bind_some, D9, Option.bind_some, D9, Option.bind_some, D9, Option.bind_some, hp, Option.bind_some, List.nil_append, if_pos rfl]
    unfold Ii
    rw [List.flatMap_cons, List.flatMap_assoc]
    exact ht
theorem L3 (c : UInt8) : ∀ (p : Str) (ps : List Str), C1 c (p :: ps) = p ++ ps.flatMap fun w => c :: w
  | p, [] => by simp [C1]
  | p, q :: ps => by
    rw [C1, L3 c q ps]
    simp
theorem T0 (ws : List Str) (hl : ws.length ≤ 5) (hw : ∀ w ∈ ws, w.length ≤ 10000) : ∀ (d i f : Nat) (out : Str), d = ws.length - i → 1 ≤ i → i ≤ ws.length → d < f → out.length + d * 20000 ≤ 1000000 →
    Zn ws f out (i : Int) = some (out ++ ((ws.drop i).flatMap fun w => 32 :: w) ++ [10]) := by
  intro d
  induction d with
  | zero =>
    intro i f out hd h1 hi hf ho
    obtain ⟨f, rfl⟩ : ∃ g, f = g + 1 := ⟨f - 1, by omega⟩
    show Zm (Zn ws f) ws out (i : Int) = _
    unfold Zm
    rw [show decide ((i : Int) < ((List.length ws : Nat) : Int)) = false from decide_eq_false (by omega), cond_false, Ur (by simp; omega), List.drop_of_length_le (by omega)]
    simp
  | succ d ih =>
    intro i f out hd h1 hi hf ho
    obtain ⟨f, rfl⟩ : ∃ g, f = g + 1 := ⟨f - 1, by omega⟩
    have hlt : i < ws.length := by omega
    have hx := hw _ (List.getElem_mem hlt)
    show Zm (Zn ws f) ws out (i : Int) = _
    unfold Zm Jj
    rw [show decide ((i : Int) < ((List.length ws : Nat) : Int)) = true from decide_eq_true (by omega), cond_true, show decide ((i : Int) > 0) = true from decide_eq_true (by omega), cond_true, Ur (by simp; omega), Option.bind_some, Zr hlt, Option.bind_some, Ur (by simp; omega), Option.bind_some, show ((i : Int) + 1) = ((i + 1 : Nat) : Int) by omega, Uy (by omega),
      ih (i + 1) f _ (by omega) (by omega) (by omega) (by omega) (by simp; omega), List.drop_eq_getElem_cons hlt, List.flatMap_cons]
    simp
theorem Ta (w : Str) (ws : List Str) (hl : (w :: ws).length ≤ 5) (hw : ∀ x ∈ w :: ws, x.length ≤ 10000) : Yu (w :: ws) = some (Gk (w :: ws)) := by
  have hx := hw w (by simp)
  have h1 := T0 (w :: ws) hl hw ws.length 1 18446744073709551615 w (by simp) (by omega) (by simp) (by simp at hl; omega) (by simp at hl; omega)
  unfold Yu Gk
  rw [show Zj = 18446744073709551615 + 1 from rfl]
  show Zm (Zn (w :: ws) 18446744073709551615) (w :: ws) [] 0 = _
  unfold Zm Jj
  rw [show decide ((0 : Int) < ((List.length (w :: ws) : Nat) : Int)) = true from decide_eq_true (by rw [List.length_cons]; omega), cond_true, show decide ((0 : Int) > 0) = false from rfl, cond_false, show idx (w :: ws) 0 = some w from rfl, Option.bind_some, Ur (by simp; omega), Option.bind_some, List.nil_append, show IntKind.wrap .i64 ((0 : Int) + 1) = ((1 : Nat) : Int) from rfl, h1, L3]
  rfl
theorem Sf (n : Int) : Zy n = some (Br n) := by
  unfold Zy
  rw [Mi]
  rfl
theorem T1 (r9 r12 : Str → Int → Option Str) (v : Int) (t : Qb) (ht : SmT t) : ∀ (d i f : Nat) (out : Str), d = t.2.2.2.2.length - i → i ≤ t.2.2.2.2.length → d < f → out.length + d * 60000 ≤ 2000000000 →
    Z9 r9 r12 v t f out (i : Int) = r9 (out ++ (t.2.2.2.2.drop i).flatMap fun x => Gk (O9 x)) (IntKind.wrap .i64 (v + 1)) := by
  intro d
  induction d with
  | zero =>
    intro i f out hd hi hf ho
    obtain ⟨f, rfl⟩ : ∃ g, f = g + 1 := ⟨f - 1, by omega⟩
    show Z8 r9 r12 (Z9 r9 r12 v t f) v t out (i : Int) = _
    unfold Z8
    rw [show decide ((i : Int) < ((List.length t.2.2.2.2 : Nat) : Int)) = false from decide_eq_false (by omega), cond_false, List.drop_of_length_le (by omega)]
    simp
  | succ d ih =>
    intro i f out hd hi hf ho
    obtain ⟨f, rfl⟩ : ∃ g, f = g + 1 := ⟨f - 1, by omega⟩
    have hlt : i < t.2.2.2.2.length := by omega
    have h2 := ht.2.2.1
    have hx := ht.2.2.2.2 _ (List.getElem_mem hlt)
    have hw := Sc hx
    have hle := Bc hw
    show Z8 r9 r12 (Z9 r9 r12 v t f) v t out (i : Int) = _
    unfold Z8
    have hp := Ta Y2 [(t.2.2.2.2[i]).1, K6 (t.2.2.2.2[i]).2.1, Br (t.2.2.2.2[i]).2.2] hw.2 hw.1
    have hle' : (Gk [Y2, (t.2.2.2.2[i]).1, K6 (t.2.2.2.2[i]).2.1, Br (t.2.2.2.2[i]).2.2]).length ≤ 60000 := hle
    rw [show decide ((i : Int) < ((List.length t.2.2.2.2 : Nat) : Int)) = true from decide_eq_true (by omega), cond_true, Zr hlt, Option.bind_some, Nat.ble_eq_true_of_le (show (t.2.2.2.2[i]).2.1.length ≤ 281474976710656 by omega), show chk true = some () from rfl, Option.bind_some, ref_hex _ (by omega), Option.bind_some, Sf, Option.bind_some,
      hp, Option.bind_some, Ur (by omega), Option.bind_some, show ((i : Int) + 1) = ((i + 1 : Nat) : Int) by omega, Uy (by omega)]
    rw [ih (i + 1) f _ (by omega) (by omega) (by omega) (by simp only [List.length_append]; omega), List.drop_eq_getElem_cons hlt, List.flatMap_cons, ← List.append_assoc]
    rfl
theorem T2 (r9 r12 : Str → Int → Option Str) (v : Int) (t : Qb) (ht : SmT t) : ∀ (d i f : Nat) (out : Str), d = t.2.2.2.1.length - i → i ≤ t.2.2.2.1.length → d < f → out.length + d * 60000 + 300000 ≤ 2000000000 →
    Vp r9 v t f out (i : Int) = r9 (out ++ ((t.2.2.2.1.drop i).flatMap fun n => Gk (Sa n)) ++ t.2.2.2.2.flatMap fun x => Gk (O9 x)) (IntKind.wrap .i64 (v + 1)) := by
  intro d
  induction d with
  | zero =>
    intro i f out hd hi hf ho
    obtain ⟨f, rfl⟩ : ∃ g, f = g + 1 := ⟨f - 1, by omega⟩
    show Xa r9 (Vp r9 v t f) v t out (i : Int) = _
    unfold Xa
    have := T1 r9 (Vp r9 v t f) v t ht t.2.2.2.2.length 0 Zj out (by omega) (by omega) (by have := ht.2.2.1; unfold Zj; omega) (by have := ht.2.2.1; omega)
    rw [show ((0 : Nat) : Int) = 0 from rfl, List.drop_zero] at this
    rw [show decide ((i : Int) < ((List.length t.2.2.2.1 : Nat) : Int)) = false from decide_eq_false (by omega), cond_false, List.drop_of_length_le (by omega), this]
    simp
  | succ d ih =>
    intro i f out hd hi hf ho
    obtain ⟨f, rfl⟩ : ∃ g, f = g + 1 := ⟨f - 1, by omega⟩
    have hlt : i < t.2.2.2.1.length := by omega
    have h2 := ht.2.1
    obtain ⟨hn0, hn1⟩ := ht.2.2.2.1 _ (List.getElem_mem hlt)
    have hw := Sb t.2.2.2.1[i]
    have hle := Bc hw
    show Xa r9 (Vp r9 v t f) v t out (i : Int) = _
    unfold Xa
    have hs := rSlash (t.2.2.2.1[i]).1.toNat (by omega) (t.2.2.2.1[i]).2
    rw [show (((t.2.2.2.1[i]).1.toNat : Nat) : Int) = (t.2.2.2.1[i]).1 by omega] at hs
    have hp := Ta Dt [Cg (t.2.2.2.1[i]).1.toNat (t.2.2.2.1[i]).2] hw.2 hw.1
    have hle' : (Gk [Dt, Cg (t.2.2.2.1[i]).1.toNat (t.2.2.2.1[i]).2]).length ≤ 60000 := hle
    rw [show decide ((i : Int) < ((List.length t.2.2.2.1 : Nat) : Int)) = true from decide_eq_true (by omega), cond_true, Zr hlt, Option.bind_some, hs, Option.bind_some, hp, Option.bind_some, Ur (by omega), Option.bind_some, show ((i : Int) + 1) = ((i + 1 : Nat) : Int) by omega, Uy (by omega)]
    rw [ih (i + 1) f _ (by omega) (by omega) (by omega) (by simp only [List.length_append]; omega), List.drop_eq_getElem_cons hlt, List.flatMap_cons, ← List.append_assoc]
    rfl
theorem T3 (l : List Qb) (hl : l.length ≤ 8) (ht : ∀ t ∈ l, SmT t) : ∀ (d i f : Nat) (out : Str), d = l.length - i → i ≤ l.length → d < f → out.length + d * 600000 ≤ 1000000000 →
    Q1 l f out (i : Int) = some (out ++ (l.drop i).flatMap fun t => (Es t).flatMap Gk) := by
  intro d
  induction d with
  | zero =>
    intro i f out hd hi hf ho
    obtain ⟨f, rfl⟩ : ∃ g, f = g + 1 := ⟨f - 1, by omega⟩
    show Xq (Q1 l f) l out (i : Int) = _
    unfold Xq
    rw [show decide ((i : Int) < ((List.length l : Nat) : Int)) = false from decide_eq_false (by omega), cond_false, List.drop_of_length_le (by omega)]
    simp
  | succ d ih =>
    intro i f out hd hi hf ho
    obtain ⟨f, rfl⟩ : ∃ g, f = g + 1 := ⟨f - 1, by omega⟩
    have hlt : i < l.length := by omega
    have hs := ht _ (List.getElem_mem hlt)
    have hw := Sd hs.1
    have hle := Bc hw
    have htl := S9 hs
    show Xq (Q1 l f) l out (i : Int) = _
    unfold Xq
    have hp := Ta Zs [(l[i]).1, Br (l[i]).2.1, Br (l[i]).2.2.1] hw.2 hw.1
    have hle' : (Gk [Zs, (l[i]).1, Br (l[i]).2.1, Br (l[i]).2.2.1]).length ≤ 60000 := hle
    have hnet := T2 (Q1 l f) (Q1 l f) (i : Int) l[i] hs l[i].2.2.2.1.length 0 Zj (out ++ Gk [Zs, (l[i]).1, Br (l[i]).2.1, Br (l[i]).2.2.1]) (by omega) (by omega) (by have := hs.2.1; unfold Zj; omega) (by have := hs.2.1; simp only [List.length_append]; omega)
    rw [show ((0 : Nat) : Int) = 0 from rfl, List.drop_zero] at hnet
    rw [show decide ((i : Int) < ((List.length l : Nat) : Int)) = true from decide_eq_true (by omega), cond_true, Zr hlt, Option.bind_some, Sf, Option.bind_some, Sf, Option.bind_some,
      hp, Option.bind_some, Ur (by omega), Option.bind_some, hnet, show ((i : Int) + 1) = ((i + 1 : Nat) : Int) by omega, Uy (by omega), List.append_assoc, List.append_assoc]
    have he : Gk [Zs, (l[i]).1, Br (l[i]).2.1, Br (l[i]).2.2.1] ++ ((l[i].2.2.2.1.flatMap fun n => Gk (Sa n)) ++ l[i].2.2.2.2.flatMap fun x => Gk (O9 x)) = (Es l[i]).flatMap Gk := (Ij l[i]).symm
    rw [he, ih (i + 1) f _ (by omega) (by omega) (by omega) (by simp only [List.length_append]; omega), List.drop_eq_getElem_cons hlt, List.flatMap_cons, ← List.append_assoc]
theorem rPrint (c : Bp) (hl : c.2.2.2.2.length ≤ 9000) (hq : ∀ t ∈ c.2.2.2.2, Pe t) (hs : ∀ t ∈ c.2.2.2.2, TenS t) : Nl c.1 c.2.1 c.2.2.1 c.2.2.2.1 c.2.2.2.2 = some (K1 c) := by
  unfold Nl K1
  rw [rCfg _ _ _ _ _ hl hq hs, Option.bind_some]
  show cond (!okC c) _ _ = _
  cases ho : okC c with
  | false => rfl
  | true =>
    obtain ⟨h1, h2⟩ := okC_sm hq ho
    have hw := Pb c
    have hle := Bc hw
    have hp := Ta Zi [Br c.1, Br c.2.1, Br c.2.2.1, Br c.2.2.2.1] hw.2 hw.1
    have ht := T3 c.2.2.2.2 h1 (fun t ht => (h2 t ht).1) c.2.2.2.2.length 0 Zj (Gk (C8 c)) (by omega) (by omega) (by unfold Zj; omega) (by omega)
    rw [show ((0 : Nat) : Int) = 0 from rfl, List.drop_zero] at ht
    rw [Bool.not_true, cond_false, Sf, Option.bind_some, Sf, Option.bind_some, Sf, Option.bind_some, Sf, Option.bind_some, hp, Option.bind_some, if_pos rfl]
    unfold Ii
    rw [List.flatMap_cons, List.flatMap_assoc]
    exact ht
end Go.Proofs.YtoflbpmbkmephaaGreatDoor
namespace Go.Proofs.YtoflbpmbkmephaaGreatDoor
open Go.RowKit
open Go.Lib (decDigits)
theorem H0 (c : Bp) (l : List Qb) (t : Qb) : Ii (O4 c (l ++ [t])) = (C8 c :: l.flatMap Es) ++ Es t := by
  unfold Ii O4
  simp [C8]
theorem tenLs_net {t : Qb} (n : La) (h : t.2.2.2.2 = []) : Es (F6 t n) = Es t ++ [Sa n] := by
  unfold Es F6
  simp [h, tenW]
theorem tenLs_tok (t : Qb) (x : E8) : Es (F7 t x) = Es t ++ [O9 x] := by
  unfold Es F7
  simp [tenW]
theorem T4 {c c' : Bp} {f : Bool} {ws : List Str} (h : P5 c f ws = some c') : Ii c' = (if f = true then [] else Ii c) ++ [ws] := by
  obtain ⟨k, q, rfl, hf, hw, ho⟩ := L2 h
  unfold Dv at hw
  have lastE : ∀ t : Qb, c.2.2.2.2.getLast? = some t → Ii c = (C8 c :: c.2.2.2.2.dropLast.flatMap Es) ++ Es t := by
    intro t ht
    have := H0 c c.2.2.2.2.dropLast t
    rw [← P4 ht] at this
    exact this
  split at hw
  · rename_i hk
    subst hk
    have hf : f = true := by simpa using hf
    rw [if_pos hf]
    split at hw
    · simp only [Option.bind_eq_some_iff, Option.map_eq_some_iff] at hw
      obtain ⟨n1, h1, n2, h2, n3, h3, n4, h4, rfl⟩ := hw
      unfold Ii C8
      simp [(B6 h1).1, (B6 h2).1, (B6 h3).1, (B6 h4).1]
    · cases hw
  · rename_i hk
    have hf : f = false := by
      rw [beq_eq_false_iff_ne.2 hk] at hf
      cases f
      · rfl
      · cases hf
    rw [if_neg (by rw [hf]; decide)]
    split at hw
    · split at hw
      · simp only [Option.bind_eq_some_iff, Option.map_eq_some_iff] at hw
        obtain ⟨n, h1, m, h2, rfl⟩ := hw
        rename_i hkt _ _ _ _
        rw [H0, hkt]
        unfold Ii Es tenW
        simp [(B6 h1).1, (B6 h2).1]
      · cases hw
    · split at hw
      · split at hw
        · simp only [Option.bind_eq_some_iff] at hw
          obtain ⟨t, ht, hw⟩ := hw
          split at hw
          · rename_i hkt _ _ h0
            simp only [Option.map_eq_some_iff] at hw
            obtain ⟨⟨x, y⟩, hn, rfl⟩ := hw
            have hs := (Ou hn).1
            rw [H0, tenLs_net _ h0, lastE t ht, hkt]
            unfold Sa
            simp [hs]
          · cases hw
        · cases hw
      · split at hw
        · split at hw
          · simp only [Option.bind_eq_some_iff, Option.map_eq_some_iff] at hw
            obtain ⟨t, ht, x, hx, n, hn, rfl⟩ := hw
            rename_i hkt _ _ _ _
            rw [H0, tenLs_tok, lastE t ht, hkt]
            unfold O9
            simp [If hx, (B6 hn).1]
          · cases hw
        · cases hw
theorem Pc : ∀ (ps : List Str) (c c' : Bp) (n n' : Nat), P9 ps c n = .inr (c', n') → Ii c' = (if n = 0 ∧ ps ≠ [] then [] else Ii c) ++ ps.map (Q3 32) ∧ n' = n + ps.length
  | [], c, c', n, n', h => by
    injection h with h
    injection h with h1 h2
    subst h1 h2
    simp
  | p :: ps, c, c', n, n', h => by
    unfold P9 at h
    cases hw : P5 c (decide (n = 0)) (Q3 32 p) with
    | none => rw [hw] at h; cases h
    | some c1 =>
      rw [hw] at h
      obtain ⟨h1, h2⟩ := Pc ps c1 c' (n + 1) n' h
      have h3 := T4 hw
      rw [h1, if_neg (by simp), h3]
      refine ⟨?_, by simp; omega⟩
      by_cases h0 : n = 0
      · rw [if_pos (decide_eq_true h0), if_pos ⟨h0, by simp⟩]
        simp
      · rw [if_neg (by simpa using h0), if_neg (fun h => h0 h.1)]
        simp
theorem L4 (c : UInt8) : ∀ (ps : List Str) (q : Str), C1 c (ps ++ [q]) = ps.flatMap (fun p => p ++ [c]) ++ q
  | [], q => rfl
  | [p], q => by simp [C1]
  | p :: p2 :: ps, q => by
    have := L4 c (p2 :: ps) q
    rw [List.cons_append] at this
    show C1 c (p :: p2 :: (ps ++ [q])) = _
    rw [C1, this]
    simp
theorem T5 (s : Str) : s = (Q3 10 s).dropLast.flatMap (fun p => p ++ [10]) ++ (Q3 10 s).getLastD [] := by
  have h := Ft 10 s
  rw [Ih 10 s, L4] at h
  rw [Ih 10 s, List.dropLast_concat] at *
  simpa using h.symm
theorem Pd {c : Bp} (ho : okC c = true) : K1 c = ((Ii c).map (C1 32)).flatMap (fun p => p ++ [10]) := by
  unfold K1
  rw [if_pos ho, List.flatMap_map]
  rfl
theorem Sg {s : Str} (h : (Y6 s).2.2.2.2.2.1 = 0) : ∃ c : Bp, Y6 s = (c.1, c.2.1, c.2.2.1, c.2.2.2.1, c.2.2.2.2, 0, 0) ∧ okC c = true ∧ Mu 0 c ∧ K1 c = s ∧ s.length ≤ 4096 ∧ ∃ n, P9 (Q3 10 s).dropLast c0C 0 = .inr (c, n) ∧ 0 < n ∧ n = (Q3 10 s).dropLast.length ∧ (Q3 10 s).getLastD [] = [] := by
  unfold Y6 at h ⊢
  by_cases hl : 4096 < s.length
  · rw [if_pos hl] at h
    cases h
  · rw [if_neg hl] at h ⊢
    cases hr : P9 (Q3 10 s).dropLast c0C 0 with
    | inl n =>
      rw [hr] at h
      cases h
    | inr cn =>
      obtain ⟨c, n⟩ := cn
      rw [hr] at h
      unfold finC at h ⊢
      simp only at h ⊢
      by_cases hn : (Q3 10 s).getLastD [] ≠ [] ∨ n = 0
      · rw [if_pos hn] at h
        cases h
      · rw [if_neg hn]
        have hlen := Rr 10 s
        have hcnt := B5 10 s
        have hc2 : s.count 10 ≤ s.length := List.count_le_length
        obtain ⟨_, h2⟩ := K0 (Q3 10 s).dropLast c0C 0 bnd_c0 (fun _ => rfl) (by rw [List.length_dropLast]; omega) fun p hp => by have := hlen p (List.dropLast_subset _ hp); omega
        obtain ⟨e1, e2, e3, e4⟩ := h2 c n hr
        have hn0 : n ≠ 0 := fun e => hn (.inr e)
        have hlast : (Q3 10 s).getLastD [] = [] := Decidable.byContradiction fun e => hn (.inl e)
        have ho := e4 (by omega)
        obtain ⟨p1, p2⟩ := Pc _ _ _ _ _ hr
        have hne : (Q3 10 s).dropLast ≠ [] := fun e => by rw [e] at p2; simp at p2; exact hn0 p2
        rw [if_pos ⟨rfl, hne⟩, List.nil_append] at p1
        refine ⟨c, rfl, ho, e2, ?_, by omega, n, rfl, by omega, by omega, hlast⟩
        rw [Pd ho, p1, List.map_map, show (C1 32 ∘ Q3 32) = id from funext fun p => Ft 32 p, List.map_id]
        have := T5 s
        rw [hlast, List.append_nil] at this
        exact this.symm
end Go.Proofs.YtoflbpmbkmephaaGreatDoor
namespace Go.Proofs.YtoflbpmbkmephaaGreatDoor
open Go.RowKit
def Rp (a : (List UInt8)) (c : Int) (d : Int) (e : (List (Int × Int))) (f : (List ((List UInt8) × (List UInt8) × Int))) (b : (List UInt8)) : Option (Bool) :=
  (some ((a == b)))
set_option maxHeartbeats 40000000 in
theorem F0 (A5 : Option Addr) (c6 : Nat) (A9 : Option Addr) (h : Nat) (i : Nat) (a : Bs) (j : Int) (l : Int) (c : (List (Int × Int))) (f : (List Tk)) (b : Bs) (w0 : World) (q : RdT (Qf (Qv .u32) (Qv .i64)) w0 A5 c6 c) (s : RdT (Qf Qj (Qf Qj (Qv .i64))) w0 A9 h f) (hg13 : w0.heap[i]? = some (.cells #[(sv b)] 9 (0, 0))) (r : (Bool)) (H : Rp a j l c f b = some r) :
  Calls Tryz.prog 45 #[(.agg #[(sv a), (iv j), (iv l), (lv A5 c c6), (lv A9 f h)]), (pt i 0)] w0 (fun e W => e = .returned (bv r) ∧ SP [] w0 W []) := by
 unfold Rp at H
 refine Qt (n := 8) Tryz.func45 K K K ?_
 have p := Qw [] w0
 refine aC ?_
 refine iS 1 ?_
 refine zB 33 (.tmp 0) (.agg #[(sv a), (iv j), (iv l), (lv A5 c c6), (lv A9 f h)]) 2 p ?_
 intro o u m
 refine iR 1 2 [(3, (bv false))] ?_
 refine iF ?_
 refine aC ?_
 refine iR 1 1 [(4, (pt o 0))] ?_
 refine jL 2 9 4 o 0 0 (sv a) 5 m rfl ?_
 refine iS 3 ?_
 refine Lm (t := 9) (t' := 9) (x := (.tmp 1)) (g := i) (off := 0) (cs := #[(sv b)]) (v := (sv b)) (d := (some 6)) (k := 2) K rfl K (Hi hg13 (SP.keeps m)) K ?_
 refine jO 4 9 (.tmp 5) (.tmp 6) a b 7 ?_
 refine iR 1 5 [(3, (bv (a == b)))] ?_
 refine iF ?_
 refine At.ret K ?_
 refine ⟨(bv (a == b)), K, ?_⟩
 obtain rfl := Qe H
 exact ⟨rfl, SP.sel m [] rfl rfl⟩
def Rt (e : Int) (f : Int) (g : Int) (h : Int) (b : (List Qb)) (d : (List UInt8)) : Option ((List UInt8) × Int × Int × (List (Int × Int)) × (List ((List UInt8) × (List UInt8) × Int)) × Bool) :=
  ((Vj b (fun y0 y1 y2 y3 y4 => Rp y0 y1 y2 y3 y4 d)).bind fun c => (cond (decide (c < 0)) (some (([] : List UInt8), 0, 0, ([] : List (Int × Int)), ([] : List ((List UInt8) × (List UInt8) × Int)), false)) ((idx b c).bind fun a => (some (a.1, a.2.1, a.2.2.1, a.2.2.2.1, a.2.2.2.2, true)))))
set_option maxHeartbeats 40000000 in
theorem Ck {R : World → Prop} (A6 : Option Addr) (c7 : Nat) (v : Int) (y : Int) (a0 : Int) (a1 : Int) (d9 : (List Qg)) (j : Bs) (w0 : World) (hR : ∀ w, Below w0.heap.size w0 w → R w) (m : ∀ w, R w → (dDS Vu Fv).ok w (A6, c7, d9)) (r : (Bs × Int × Int × (List (Int × Int)) × (List Tk) × Bool)) (H : Rt v y a0 a1 (mT d9) j = some r) :
  Calls Tryz.prog 18 #[(.agg #[(iv v), (iv y), (iv a0), (iv a1), (lv A6 (mT d9) c7)]), (sv j)] w0 (fun e W => ∃ (a4 : Option Addr) (a5 : Nat) (a6 : Option Addr) (a7 : Nat), e = .returned (.tuple #[(.agg #[(sv r.1), (iv r.2.1), (iv r.2.2.1), (lv a4 r.2.2.2.1 a5), (lv a6 r.2.2.2.2.1 a7)]), (bv r.2.2.2.2.2)]) ∧ (∀ w, R w → RdT (Qf (Qv .u32) (Qv .i64)) w a4 a5 r.2.2.2.1) ∧ (∀ w, R w → RdT (Qf Qj (Qf Qj (Qv .i64))) w a6 a7 r.2.2.2.2.1) ∧ SP [] w0 W []) := by
 unfold Rt at H
 refine Qt (n := 19) Tryz.func18 K K K ?_
 have b3 := Qw [] w0
 refine aC ?_
 refine iS 1 ?_
 refine zB 24 (.tmp 0) (.agg #[(iv v), (iv y), (iv a0), (iv a1), (lv A6 (mT d9) c7)]) 2 b3 ?_
 intro p c0 b4
 refine iS 2 ?_
 refine zB 9 (.tmp 1) (sv j) 3 b4 ?_
 intro q c1 b5
 refine iS 3 ?_
 refine zA 33 (.agg #[(sv ([] : Bs)), (iv 0), (iv 0), (lv none ([] : List (Int × Int)) 0), (lv none ([] : List Tk) 0)]) 4 b5 ?_
 intro s a2 u
 refine iR 1 4 [(5, (bv false))] ?_
 refine iF ?_
 refine aC ?_
 refine iR 1 1 [(7, (pt p 4))] ?_
 refine jL 2 22 7 p 4 0 (lv A6 (mT d9) c7) 8 u rfl ?_
 refine iR 1 3 [(9, (.func (.func 45) #[] #[(pt q 0)]))] ?_
 obtain ⟨h, b6, H⟩ := Qd H
 refine iS 4 ?_
 refine cS u 44 #[(.tmp 8), (.tmp 9)] #[22, 82] 10 Tryz.call44 (Je A6 c7 45 #[(pt q 0)] d9 (fun y0 y1 y2 y3 y4 => Rp y0 y1 y2 y3 y4 j) a2 (m a2 (hR _ (SP.keeps u))) Tryz.call45 (fun y0 y1 y2 y3 y4 z w Ay3 cy3 Ay4 cy4 hw hy3 hy4 hz => F0 Ay3 cy3 Ay4 cy4 q y0 y1 y2 y3 y4 j w hy3 hy4 (Hi (show a2.heap[q]? = some (.cells #[(sv j)] 9 (0, 0)) from SP.get u (i := 1) rfl) hw) z hz) h b6) ?_
 intro a8 o
 refine iR 1 5 [(6, (iv h))] ?_
 refine iF ?_
 refine aQ ?_
 refine aC ?_
 refine iR 2 2 [(11, (iv h)), (12, (bv (decide (h < 0))))] ?_
 refine iF ?_
 refine cD 12 H (fun H => ?_) fun H => ?_
 ·refine aC ?_
  refine iR 1 1 [(13, (.agg #[(sv ([] : Bs)), (iv 0), (iv 0), (lv none ([] : List (Int × Int)) 0), (lv none ([] : List Tk) 0)]))] ?_
  refine iS 2 ?_
  refine zT 33 (.tmp 4) (.tmp 13) s 0 2 (.agg #[(sv ([] : Bs)), (iv 0), (iv 0), (lv none ([] : List (Int × Int)) 0), (lv none ([] : List Tk) 0)]) #[(sv ([] : Bs)), (iv 0), (iv 0), (lv none ([] : List (Int × Int)) 0), (lv none ([] : List Tk) 0)] none o ?_
  intro c2 a9
  refine iR 1 3 [(5, (bv false))] ?_
  refine iF ?_
  refine At.ret K ?_
  refine ⟨(.tuple #[(.agg #[(sv ([] : Bs)), (iv 0), (iv 0), (lv none ([] : List (Int × Int)) 0), (lv none ([] : List Tk) 0)]), (bv false)]), Cl K (Uf (a := 4) (t := 33) (g := s) (off := 0) K (SP.get a9 (i := 2) rfl) K) (Nv (t := 5) K), ?_⟩
  obtain rfl := Qe H
  exact ⟨none, 0, none, 0, rfl, (fun w _ => RdT.nil (Qf (Qv .u32) (Qv .i64)) w), (fun w _ => RdT.nil (Qf Qj (Qf Qj (Qv .i64))) w), SP.sel a9 [] rfl rfl⟩
 refine At.skip K ?_
 refine aC ?_
 refine iR 1 1 [(14, (pt p 4))] ?_
 refine jL 2 22 14 p 4 0 (lv A6 (mT d9) c7) 15 o rfl ?_
 refine iR 1 3 [(16, (iv h))] ?_
 obtain ⟨f, b0, b1, a3, H⟩ := J9 H
 refine iS 4 ?_
 refine Xd stT (e := Vu) (l := d9) (A := A6) (c := c7) (T := 22) (E := 33) (x := (.tmp 15)) (ix := (.tmp 16)) (ki := .i64) (iz := h) (d := (some 17)) (k := 3) K rfl K K K K ((fun w hm => (Zh (m w hm))) a8 (hR _ (SP.keeps o))) b0 b1 ?_
 intro b7 b8 b9 c3 hc46
 refine iS 5 ?_
 refine Qx.cells (t := 33) (x := (.tmp 17)) (b := b7) (off := (b8 + Int.toNat h * Vu.sz)) (xs := [(sv (stT f).1), (iv (stT f).2.1), (iv (stT f).2.2.1), (lv f.2.2.2.1.1 (stT f).2.2.2.1 f.2.2.2.1.2.1), (lv f.2.2.2.2.1 (stT f).2.2.2.2 f.2.2.2.2.2.1)]) (d := (some 18)) (k := 4) K rfl K K K (Vd (e := Vu) (Qh ((fun w hm => (Zh (m w hm))) a8 (hR _ (SP.keeps o))) b9 b0 b1) a3 rfl) ?_
 refine iS 6 ?_
 refine zT 33 (.tmp 4) (.tmp 18) s 0 2 (.agg #[(sv (stT f).1), (iv (stT f).2.1), (iv (stT f).2.2.1), (lv f.2.2.2.1.1 (stT f).2.2.2.1 f.2.2.2.1.2.1), (lv f.2.2.2.2.1 (stT f).2.2.2.2 f.2.2.2.2.2.1)]) #[(sv (stT f).1), (iv (stT f).2.1), (iv (stT f).2.2.1), (lv f.2.2.2.1.1 (stT f).2.2.2.1 f.2.2.2.1.2.1), (lv f.2.2.2.2.1 (stT f).2.2.2.2 f.2.2.2.2.2.1)] none o ?_
 intro c4 b2
 refine iR 1 7 [(5, (bv true))] ?_
 refine iF ?_
 refine At.ret K ?_
 refine ⟨(.tuple #[(.agg #[(sv (stT f).1), (iv (stT f).2.1), (iv (stT f).2.2.1), (lv f.2.2.2.1.1 (stT f).2.2.2.1 f.2.2.2.1.2.1), (lv f.2.2.2.2.1 (stT f).2.2.2.2 f.2.2.2.2.2.1)]), (bv true)]), Cl K (Uf (a := 4) (t := 33) (g := s) (off := 0) K (SP.get b2 (i := 2) rfl) K) (Nv (t := 5) K), ?_⟩
 obtain rfl := Qe H
 exact ⟨f.2.2.2.1.1, f.2.2.2.1.2.1, f.2.2.2.2.1, f.2.2.2.2.2.1, rfl, (fun w hm => (Zh ((fun w hm => (dp1 (dp2 (dp2 (dp2 (Gd (m w hm) a3)))))) w hm))), (fun w hm => (Zh ((fun w hm => (dp2 (dp2 (dp2 (dp2 (Gd (m w hm) a3)))))) w hm))), SP.sel b2 [] rfl rfl⟩
def G1 (a : (List UInt8)) (b : (List UInt8)) (c : Int) (c6 : (List UInt8)) : Option (Bool) :=
  (some ((a == c6)))
set_option maxHeartbeats 40000000 in
theorem Fl (g4 : Nat) (a : Bs) (b : Bs) (c : Int) (c6 : Bs) (w0 : World) (hg5 : w0.heap[g4]? = some (.cells #[(sv c6)] 9 (0, 0))) (r : (Bool)) (H : G1 a b c c6 = some r) :
  Calls Tryz.prog 47 #[(.agg #[(sv a), (sv b), (iv c)]), (pt g4 0)] w0 (fun e W => e = .returned (bv r) ∧ SP [] w0 W []) := by
 unfold G1 at H
 refine Qt (n := 8) Tryz.func47 K K K ?_
 have h := Qw [] w0
 refine aC ?_
 refine iS 1 ?_
 refine zB 37 (.tmp 0) (.agg #[(sv a), (sv b), (iv c)]) 2 h ?_
 intro g7 w8 f
 refine iR 1 2 [(3, (bv false))] ?_
 refine iF ?_
 refine aC ?_
 refine iR 1 1 [(4, (pt g7 0))] ?_
 refine jL 2 9 4 g7 0 0 (sv a) 5 f rfl ?_
 refine iS 3 ?_
 refine Lm (t := 9) (t' := 9) (x := (.tmp 1)) (g := g4) (off := 0) (cs := #[(sv c6)]) (v := (sv c6)) (d := (some 6)) (k := 2) K rfl K (Hi hg5 (SP.keeps f)) K ?_
 refine jO 4 9 (.tmp 5) (.tmp 6) a c6 7 ?_
 refine iR 1 5 [(3, (bv (a == c6)))] ?_
 refine iF ?_
 refine At.ret K ?_
 refine ⟨(bv (a == c6)), K, ?_⟩
 obtain rfl := Qe H
 exact ⟨rfl, SP.sel f [] rfl rfl⟩
def G7 (e : (List UInt8)) (f : Int) (g : Int) (h : (List (Int × Int))) (b : (List ((List UInt8) × (List UInt8) × Int))) (d : (List UInt8)) : Option ((List UInt8) × (List UInt8) × Int × Bool) :=
  ((Vl b (fun y0 y1 y2 => G1 y0 y1 y2 d)).bind fun c => (cond (decide (c < 0)) (some (([] : List UInt8), ([] : List UInt8), 0, false)) ((idx b c).bind fun a => (some (a.1, a.2.1, a.2.2, true)))))
set_option maxHeartbeats 40000000 in
theorem B8 (A5 : Option Addr) (c6 : Nat) (A9 : Option Addr) (h : Nat) (v : Bs) (y : Int) (a0 : Int) (o : (List (Int × Int))) (f : (List Tk)) (l : Bs) (w0 : World) (b5 : RdT (Qf (Qv .u32) (Qv .i64)) w0 A5 c6 o) (a1 : RdT (Qf Qj (Qf Qj (Qv .i64))) w0 A9 h f) (r : (Bs × Bs × Int × Bool)) (H : G7 v y a0 o f l = some r) :
  Calls Tryz.prog 20 #[(.agg #[(sv v), (iv y), (iv a0), (lv A5 o c6), (lv A9 f h)]), (sv l)] w0 (fun e W => e = .returned (.tuple #[(.agg #[(sv r.1), (sv r.2.1), (iv r.2.2.1)]), (bv r.2.2.2)]) ∧ SP [] w0 W []) := by
 unfold G7 at H
 refine Qt (n := 19) Tryz.func20 K K K ?_
 have a7 := Qw [] w0
 refine aC ?_
 refine iS 1 ?_
 refine zB 33 (.tmp 0) (.agg #[(sv v), (iv y), (iv a0), (lv A5 o c6), (lv A9 f h)]) 2 a7 ?_
 intro p b6 a8
 refine iS 2 ?_
 refine zB 9 (.tmp 1) (sv l) 3 a8 ?_
 intro q b7 a9
 refine iS 3 ?_
 refine zA 37 (.agg #[(sv ([] : Bs)), (sv ([] : Bs)), (iv 0)]) 4 a9 ?_
 intro s a2 u
 refine iR 1 4 [(5, (bv false))] ?_
 refine iF ?_
 refine aC ?_
 refine iR 1 1 [(7, (pt p 4))] ?_
 refine jL 2 31 7 p 4 0 (lv A9 f h) 8 u rfl ?_
 refine iR 1 3 [(9, (.func (.func 47) #[] #[(pt q 0)]))] ?_
 obtain ⟨j, b0, H⟩ := Qd H
 refine iS 4 ?_
 refine cS u 46 #[(.tmp 8), (.tmp 9)] #[31, 84] 10 Tryz.call46 (Js A9 h 47 #[(pt q 0)] f (fun y0 y1 y2 => G1 y0 y1 y2 l) a2 (RdT.sp a1 u) Tryz.call47 (fun y0 y1 y2 z w  hw  hz => Fl q y0 y1 y2 l w (Hi (show a2.heap[q]? = some (.cells #[(sv l)] 9 (0, 0)) from SP.get u (i := 1) rfl) hw) z hz) j b0) ?_
 intro b8 m
 refine iR 1 5 [(6, (iv j))] ?_
 refine iF ?_
 refine aQ ?_
 refine aC ?_
 refine iR 2 2 [(11, (iv j)), (12, (bv (decide (j < 0))))] ?_
 refine iF ?_
 refine cD 12 H (fun H => ?_) fun H => ?_
 ·refine aC ?_
  refine iR 1 1 [(13, (.agg #[(sv ([] : Bs)), (sv ([] : Bs)), (iv 0)]))] ?_
  refine iS 2 ?_
  refine zT 37 (.tmp 4) (.tmp 13) s 0 2 (.agg #[(sv ([] : Bs)), (sv ([] : Bs)), (iv 0)]) #[(sv ([] : Bs)), (sv ([] : Bs)), (iv 0)] none m ?_
  intro w32 a3
  refine iR 1 3 [(5, (bv false))] ?_
  refine iF ?_
  refine At.ret K ?_
  refine ⟨(.tuple #[(.agg #[(sv ([] : Bs)), (sv ([] : Bs)), (iv 0)]), (bv false)]), Cl K (Uf (a := 4) (t := 37) (g := s) (off := 0) K (SP.get a3 (i := 2) rfl) K) (Nv (t := 5) K), ?_⟩
  obtain rfl := Qe H
  exact ⟨rfl, SP.sel a3 [] rfl rfl⟩
 refine At.skip K ?_
 refine aC ?_
 refine iR 1 1 [(14, (pt p 4))] ?_
 refine jL 2 31 14 p 4 0 (lv A9 f h) 15 m rfl ?_
 refine iR 1 3 [(16, (iv j))] ?_
 obtain ⟨c, a4, a5, b1, H⟩ := Qu H
 refine jE 4 (Qf Qj (Qf Qj (Qv .i64))) f A9 h 31 37 (.tmp 15) (.tmp 16) j 17 (RdT.sp a1 m) a4 a5 ?_
 intro b2 b3 b4 b9 hc41
 refine iS 5 ?_
 refine Qx.cells (t := 37) (x := (.tmp 17)) (b := b2) (off := (b3 + Int.toNat j * (Qf Qj (Qf Qj (Qv .i64))).sz)) (xs := [(sv c.1), (sv c.2.1), (iv c.2.2)]) (d := (some 18)) (k := 4) K rfl K K K (Vd (e := (Qf Qj (Qf Qj (Qv .i64)))) (Qh (RdT.sp a1 m) b4 a4 a5) b1 rfl) ?_
 refine iS 6 ?_
 refine zT 37 (.tmp 4) (.tmp 18) s 0 2 (.agg #[(sv c.1), (sv c.2.1), (iv c.2.2)]) #[(sv c.1), (sv c.2.1), (iv c.2.2)] none m ?_
 intro c0 a6
 refine iR 1 7 [(5, (bv true))] ?_
 refine iF ?_
 refine At.ret K ?_
 refine ⟨(.tuple #[(.agg #[(sv c.1), (sv c.2.1), (iv c.2.2)]), (bv true)]), Cl K (Uf (a := 4) (t := 37) (g := s) (off := 0) K (SP.get a6 (i := 2) rfl) K) (Nv (t := 5) K), ?_⟩
 obtain rfl := Qe H
 exact ⟨rfl, SP.sel a6 [] rfl rfl⟩
end Go.Proofs.YtoflbpmbkmephaaGreatDoor
namespace Go.Proofs.YtoflbpmbkmephaaGreatDoor
open Go.RowKit
theorem Sh {α : Type} {P : α → Bool} {l : List α} {i : Nat} (hi : i < l.length) (hn : (l.take i).any P = false) (hx : P l[i] = true) : l.findIdx? P = some i := by
  rw [List.findIdx?_eq_some_iff_getElem]
  refine ⟨hi, hx, fun j hj => ?_⟩
  rw [List.any_eq_false] at hn
  have := hn l[j] (by rw [List.mem_take_iff_getElem]; exact ⟨j, by omega, rfl⟩)
  simpa using this
theorem Si {α : Type} {P : α → Bool} {l : List α} (hn : l.any P = false) : l.findIdx? P = none := by
  rw [List.findIdx?_eq_none_iff]
  intro x hx
  rw [List.any_eq_false] at hn
  simpa using hn x hx
theorem Sj {α : Type} {P : α → Bool} {l : List α} {i : Nat} (hi : i < l.length) (hn : (l.take i).any P = false) (hx : P l[i] = false) : (l.take (i + 1)).any P = false := by
  rw [List.take_add_one, List.getElem?_eq_getElem hi, List.any_append, hn]
  simp [hx]
def ixI (o : Option Nat) : Int := match o with | some i => (i : Int) | none => -1
theorem T6 (l : List Qb) (P : Qb → Bool) (p : Str → Int → Int → List La → List E8 → Option Bool) (hp : ∀ x : Qb, p x.1 x.2.1 x.2.2.1 x.2.2.2.1 x.2.2.2.2 = some (P x)) (hl : l.length ≤ 140737488355328) :
    ∀ (d i f : Nat), d = l.length - i → i ≤ l.length → d < f → (l.take i).any P = false → Qk l p f (i : Int) = some (ixI (l.findIdx? P)) := by
  intro d
  induction d with
  | zero =>
    intro i f hd hi hf hn
    obtain ⟨f, rfl⟩ : ∃ g, f = g + 1 := ⟨f - 1, by omega⟩
    show Qn (Qk l p f) l p (i : Int) = _
    unfold Qn
    rw [List.take_of_length_le (by omega)] at hn
    rw [show decide ((i : Int) < ((l.length : Nat) : Int)) = false from decide_eq_false (by omega), cond_false, Si hn]
    rfl
  | succ d ih =>
    intro i f hd hi hf hn
    obtain ⟨f, rfl⟩ : ∃ g, f = g + 1 := ⟨f - 1, by omega⟩
    have hlt : i < l.length := by omega
    show Qn (Qk l p f) l p (i : Int) = _
    unfold Qn
    rw [show decide ((i : Int) < ((l.length : Nat) : Int)) = true from decide_eq_true (by omega), cond_true, Zr hlt, Option.bind_some, hp, Option.bind_some]
    cases hx : P l[i] with
    | true => rw [cond_true, Sh hlt hn hx]; rfl
    | false =>
      rw [cond_false, show ((i : Int) + 1) = ((i + 1 : Nat) : Int) by omega, Uy (by omega)]
      exact ih (i + 1) f (by omega) (by omega) (by omega) (Sj hlt hn hx)
theorem T7 (l : List E8) (P : E8 → Bool) (p : Str → Str → Int → Option Bool) (hp : ∀ x : E8, p x.1 x.2.1 x.2.2 = some (P x)) (hl : l.length ≤ 140737488355328) :
    ∀ (d i f : Nat), d = l.length - i → i ≤ l.length → d < f → (l.take i).any P = false → Qm l p f (i : Int) = some (ixI (l.findIdx? P)) := by
  intro d
  induction d with
  | zero =>
    intro i f hd hi hf hn
    obtain ⟨f, rfl⟩ : ∃ g, f = g + 1 := ⟨f - 1, by omega⟩
    show Qp (Qm l p f) l p (i : Int) = _
    unfold Qp
    rw [List.take_of_length_le (by omega)] at hn
    rw [show decide ((i : Int) < ((l.length : Nat) : Int)) = false from decide_eq_false (by omega), cond_false, Si hn]
    rfl
  | succ d ih =>
    intro i f hd hi hf hn
    obtain ⟨f, rfl⟩ : ∃ g, f = g + 1 := ⟨f - 1, by omega⟩
    have hlt : i < l.length := by omega
    show Qp (Qm l p f) l p (i : Int) = _
    unfold Qp
    rw [show decide ((i : Int) < ((l.length : Nat) : Int)) = true from decide_eq_true (by omega), cond_true, Zr hlt, Option.bind_some, hp, Option.bind_some]
    cases hx : P l[i] with
    | true => rw [cond_true, Sh hlt hn hx]; rfl
    | false =>
      rw [cond_false, show ((i : Int) + 1) = ((i + 1 : Nat) : Int) by omega, Uy (by omega)]
      exact ih (i + 1) f (by omega) (by omega) (by omega) (Sj hlt hn hx)
theorem pl_lt' {l : List Qb} {nm : Str} {k : Nat} (h : pl l nm = some k) : k < l.length := (List.findIdx?_eq_some_iff_getElem.1 h).1
theorem lFind (w g i e : Int) (l : List Qb) (nm : Str) (hl : l.length ≤ 140737488355328) : Rt w g i e l nm = some (D3 l nm) := by
  have h := T6 l (fun x => x.1 == nm) (fun y0 y1 y2 y3 y4 => Rp y0 y1 y2 y3 y4 nm) (fun x => rfl) hl l.length 0 Zj (by omega) (by omega) (by unfold Zj; omega) rfl
  unfold Rt Vj
  rw [show ((0 : Nat) : Int) = 0 from rfl] at h
  rw [h, Option.bind_some]
  unfold D3
  show _ = some (match pl l nm with | some k => _ | none => _)
  rw [show l.findIdx? (fun x => x.1 == nm) = pl l nm from rfl]
  cases hp : pl l nm with
  | none => rfl
  | some k =>
    have hk := pl_lt' hp
    have hg : l.getD k Ol = l[k] := by simp [List.getD, hk]
    rw [show decide (ixI (some k) < 0) = false from decide_eq_false (by show ¬ ((k : Nat) : Int) < 0; omega), cond_false]
    show (idx l ((k : Nat) : Int)).bind _ = _
    rw [Zr hk, Option.bind_some]
    simp only [hg]
def tix (l : List E8) (nm : Str) : Option Nat := l.findIdx? (fun x => x.1 == nm)
def dTok0 : E8 := ([], [], 0)
def tokL (l : List E8) (nm : Str) : Str × Str × Int × Bool := match tix l nm with
  | some k => ((l.getD k dTok0).1, (l.getD k dTok0).2.1, (l.getD k dTok0).2.2, true)
  | none => ([], [], 0, false)
theorem tix_lt {l : List E8} {nm : Str} {k : Nat} (h : tix l nm = some k) : k < l.length := (List.findIdx?_eq_some_iff_getElem.1 h).1
theorem lTok (n : Str) (a b : Int) (ns : List La) (l : List E8) (nm : Str) (hl : l.length ≤ 140737488355328) : G7 n a b ns l nm = some (tokL l nm) := by
  have h := T7 l (fun x => x.1 == nm) (fun y0 y1 y2 => G1 y0 y1 y2 nm) (fun x => rfl) hl l.length 0 Zj (by omega) (by omega) (by unfold Zj; omega) rfl
  unfold G7 Vl
  rw [show ((0 : Nat) : Int) = 0 from rfl] at h
  rw [h, Option.bind_some]
  unfold tokL
  rw [show l.findIdx? (fun x => x.1 == nm) = tix l nm from rfl]
  cases hp : tix l nm with
  | none => rfl
  | some k =>
    have hk := tix_lt hp
    have hg : l.getD k dTok0 = l[k] := by simp [List.getD, hk]
    rw [show decide (ixI (some k) < 0) = false from decide_eq_false (by show ¬ ((k : Nat) : Int) < 0; omega), cond_false]
    show (idx l ((k : Nat) : Int)).bind _ = _
    rw [Zr hk, Option.bind_some]
    simp only [hg]
theorem rTok_loop (l : List E8) (nm : Str) (hl : l.length ≤ 9000) : ∀ (d i f : Nat), d = l.length - i → i ≤ l.length → d < f → (l.take i).any (fun x => x.1 == nm) = false → Xl l nm f (i : Int) = some (tokL l nm) := by
  intro d
  induction d with
  | zero =>
    intro i f hd hi hf hn
    obtain ⟨f, rfl⟩ : ∃ g, f = g + 1 := ⟨f - 1, by omega⟩
    show Xk (Xl l nm f) l nm (i : Int) = _
    unfold Xk tokL tix
    rw [List.take_of_length_le (by omega)] at hn
    rw [show decide ((i : Int) < ((l.length : Nat) : Int)) = false from decide_eq_false (by omega), cond_false, Si hn]
  | succ d ih =>
    intro i f hd hi hf hn
    obtain ⟨f, rfl⟩ : ∃ g, f = g + 1 := ⟨f - 1, by omega⟩
    have hlt : i < l.length := by omega
    show Xk (Xl l nm f) l nm (i : Int) = _
    unfold Xk
    rw [show decide ((i : Int) < ((l.length : Nat) : Int)) = true from decide_eq_true (by omega), cond_true, Zr hlt, Option.bind_some]
    cases hx : (l[i].1 == nm) with
    | true =>
      have hg : l.getD i dTok0 = l[i] := by simp [List.getD, hlt]
      rw [cond_true, Option.bind_some]
      unfold tokL tix
      rw [Sh hlt hn hx]
      simp only [hg]
    | false =>
      rw [cond_false, show ((i : Int) + 1) = ((i + 1 : Nat) : Int) by omega, Uy (by omega)]
      exact ih (i + 1) f (by omega) (by omega) (by omega) (Sj hlt hn hx)
theorem rTok (n : Str) (a b : Int) (ns : List La) (l : List E8) (nm : Str) (hl : l.length ≤ 9000) : Gr n a b ns l nm = some (tokL l nm) :=
  rTok_loop l nm hl l.length 0 Zj (by omega) (by omega) (by unfold Zj; omega) rfl
theorem stok_loop (r4 : Int → Option Bool) (l : List E8) (hl : l.length ≤ 140737488355328) : ∀ (d i f : Nat), d = l.length - i → i ≤ l.length → d < f → Zd r4 l l f (i : Int) = some true := by
  intro d
  induction d with
  | zero =>
    intro i f hd hi hf
    obtain ⟨f, rfl⟩ : ∃ g, f = g + 1 := ⟨f - 1, by omega⟩
    show Zc r4 (Zd r4 l l f) l l (i : Int) = _
    unfold Zc
    rw [decide_eq_false (show ¬ ((i : Int) < ((l.length : Nat) : Int)) by omega), cond_false]
  | succ d ih =>
    intro i f hd hi hf
    obtain ⟨f, rfl⟩ : ∃ g, f = g + 1 := ⟨f - 1, by omega⟩
    have hlt : i < l.length := by omega
    show Zc r4 (Zd r4 l l f) l l (i : Int) = _
    unfold Zc
    rw [decide_eq_true (show (i : Int) < ((l.length : Nat) : Int) by omega), cond_true, Zr hlt]
    simp only [Option.bind_some, beq_self_eq_true, Bool.and_self, Bool.not_true, cond_false]
    rw [show (i : Int) + 1 = ((i + 1 : Nat) : Int) by omega, Uy (by omega)]
    exact ih (i + 1) f (by omega) (by omega) (by omega)
theorem snet_loop (l : List La) (k : List E8) (hl : l.length ≤ 140737488355328) (hk : k.length ≤ 140737488355328) : ∀ (d i f : Nat), d = l.length - i → i ≤ l.length → d < f → Vi l k l k f (i : Int) = some true := by
  intro d
  induction d with
  | zero =>
    intro i f hd hi hf
    obtain ⟨f, rfl⟩ : ∃ g, f = g + 1 := ⟨f - 1, by omega⟩
    show Ze (Vi l k l k f) l k l k (i : Int) = _
    unfold Ze
    rw [decide_eq_false (show ¬ ((i : Int) < ((l.length : Nat) : Int)) by omega), cond_false]
    exact stok_loop _ k hk k.length 0 Zj (by omega) (by omega) (by unfold Zj; omega)
  | succ d ih =>
    intro i f hd hi hf
    obtain ⟨f, rfl⟩ : ∃ g, f = g + 1 := ⟨f - 1, by omega⟩
    have hlt : i < l.length := by omega
    show Ze (Vi l k l k f) l k l k (i : Int) = _
    unfold Ze
    rw [decide_eq_true (show (i : Int) < ((l.length : Nat) : Int) by omega), cond_true, Zr hlt]
    simp only [Option.bind_some, beq_self_eq_true, Bool.and_self, Bool.not_true, cond_false]
    rw [show (i : Int) + 1 = ((i + 1 : Nat) : Int) by omega, Uy (by omega)]
    exact ih (i + 1) f (by omega) (by omega) (by omega)
theorem rSameT (n : Str) (a b : Int) (l : List La) (k : List E8) (hl : l.length ≤ 140737488355328) (hk : k.length ≤ 140737488355328) : Z1 n a b l k n a b l k = some true := by
  unfold Z1 Vw
  simp only [beq_self_eq_true, Bool.not_true, bne_self_eq_false, cond_false]
  exact snet_loop l k hl hk l.length 0 Zj (by omega) (by omega) (by unfold Zj; omega)
theorem T8 (l : List Qb) (hl : l.length ≤ 140737488355328) (hq : ∀ t ∈ l, t.2.2.2.1.length ≤ 140737488355328 ∧ t.2.2.2.2.length ≤ 140737488355328) : ∀ (d i f : Nat), d = l.length - i → i ≤ l.length → d < f → Yf l l f (i : Int) = some true := by
  intro d
  induction d with
  | zero =>
    intro i f hd hi hf
    obtain ⟨f, rfl⟩ : ∃ g, f = g + 1 := ⟨f - 1, by omega⟩
    show Ye (Yf l l f) l l (i : Int) = _
    unfold Ye
    rw [decide_eq_false (show ¬ ((i : Int) < ((l.length : Nat) : Int)) by omega), cond_false]
  | succ d ih =>
    intro i f hd hi hf
    obtain ⟨f, rfl⟩ : ∃ g, f = g + 1 := ⟨f - 1, by omega⟩
    have hlt : i < l.length := by omega
    obtain ⟨q1, q2⟩ := hq _ (List.getElem_mem hlt)
    show Ye (Yf l l f) l l (i : Int) = _
    unfold Ye
    rw [decide_eq_true (show (i : Int) < ((l.length : Nat) : Int) by omega), cond_true, Zr hlt]
    simp only [Option.bind_some]
    rw [rSameT _ _ _ _ _ q1 q2, Option.bind_some, Bool.not_true, cond_false, show (i : Int) + 1 = ((i + 1 : Nat) : Int) by omega, Uy (by omega)]
    exact ih (i + 1) f (by omega) (by omega) (by omega)
theorem rSame (w g i e : Int) (l : List Qb) (hl : l.length ≤ 140737488355328) (hq : ∀ t ∈ l, t.2.2.2.1.length ≤ 140737488355328 ∧ t.2.2.2.2.length ≤ 140737488355328) : Jt w g i e l w g i e l = some true := by
  unfold Jt Z5
  simp only [bne_self_eq_false, cond_false]
  exact T8 l hl hq l.length 0 Zj (by omega) (by omega) (by unfold Zj; omega)
end Go.Proofs.YtoflbpmbkmephaaGreatDoor
namespace Go.Proofs.YtoflbpmbkmephaaGreatDoor
open Go.RowKit
def Q7 (a : Bool) : Option (Bool) :=
  (some (a))
def Rg  : Option (Bool) :=
  ((Y3 ([116, 105, 109, 101, 115, 32, 57, 32, 56, 32, 55, 32, 54, 10, 116, 101, 110, 97, 110, 116, 32, 97, 32, 50, 32, 51, 10, 110, 101, 116, 32, 49, 48, 46, 48, 46, 48, 46, 48, 47, 56, 10, 116, 111, 107, 101, 110, 32, 107, 32, 48, 48, 102, 102, 32, 53, 10, 116, 101, 110, 97, 110, 116, 32, 98, 32, 48, 32, 48, 10] : List UInt8)).bind fun z1 => ((some z1.2.2.2.2.1).bind fun l9 => ((Y3 ([116, 105, 109, 101, 115, 32, 57, 32, 56, 32, 55, 32, 54, 10, 110, 101, 116, 32, 49, 48, 46, 48, 46, 48, 46, 48, 47, 56, 10] : List UInt8)).bind fun b => ((some b.2.2.2.2.1).bind fun h => ((Y3 ([116, 105, 109, 101, 115, 32, 57, 32, 56, 32, 55, 32, 54, 10, 116, 101, 110, 97, 110, 116, 32, 98, 32, 49, 32, 49, 10, 116, 101, 110, 97, 110, 116, 32, 97, 32, 49, 32, 49, 10] : List UInt8)).bind fun c => ((some c.2.2.2.2.1).bind fun i => ((Rt z1.1 z1.2.1 z1.2.2.1 z1.2.2.2.1 l9 ([97] : List UInt8)).bind fun a => ((G7 a.1 a.2.1 a.2.2.1 a.2.2.2.1 a.2.2.2.2.1 ([107] : List UInt8)).bind fun d => (cond (z1.2.2.2.2.2.1 == 0) ((G6 z1.1 z1.2.1 z1.2.2.1 z1.2.2.2.1 l9).bind fun e => (cond (e == ([116, 105, 109, 101, 115, 32, 57, 32, 56, 32, 55, 32, 54, 10, 116, 101, 110, 97, 110, 116, 32, 97, 32, 50, 32, 51, 10, 110, 101, 116, 32, 49, 48, 46, 48, 46, 48, 46, 48, 47, 56, 10, 116, 111, 107, 101, 110, 32, 107, 32, 48, 48, 102, 102, 32, 53, 10, 116, 101, 110, 97, 110, 116, 32, 98, 32, 48, 32, 48, 10] : List UInt8)) (cond (((List.length l9 : Nat) : Int) == 2) (cond (z1.2.2.2.1 == 6) (cond (b.2.2.2.2.2.1 == 91) (cond (b.2.2.2.2.2.2 == 1) (cond (c.2.2.2.2.2.1 == 91) (cond (c.2.2.2.2.2.2 == 2) (cond a.2.2.2.2.2 (cond d.2.2.2 (cond (d.2.1 == ([0, 255] : List UInt8)) (cond (d.2.2.1 == 5) ((Jo z1.1 z1.2.1 z1.2.2.1 z1.2.2.2.1 l9).bind fun f => (cond f ((Jo 0 0 0 0 ([] : List Qb)).bind fun g => (Q7 (!g))) (Q7 false))) (Q7 false)) (Q7 false)) (Q7 false)) (Q7 false)) (Q7 false)) (Q7 false)) (Q7 false)) (Q7 false)) (Q7 false)) (Q7 false)) (Q7 false))) (Q7 false))))))))))
set_option maxHeartbeats 40000000 in
theorem Et   (w0 : World) (hL : Be w0)  (r : (Bool)) (H : Rg  = some r) :
  Calls Tryz.prog 14 #[] w0 (fun e W => e = .returned (bv r) ∧ SP [] w0 W []) := by
 unfold Rg at H
 refine Qt (n := 101) Tryz.func14 K K K ?_
 have a5 := Qw [] w0
 refine aC ?_
 refine iR 1 1 [(0, (bv false))] ?_
 refine iF ?_
 refine aC ?_
 refine iR 1 1 [(1, (sv ([116, 105, 109, 101, 115, 32, 57, 32, 56, 32, 55, 32, 54, 10, 116, 101, 110, 97, 110, 116, 32, 97, 32, 50, 32, 51, 10, 110, 101, 116, 32, 49, 48, 46, 48, 46, 48, 46, 48, 47, 56, 10, 116, 111, 107, 101, 110, 32, 107, 32, 48, 48, 102, 102, 32, 53, 10, 116, 101, 110, 97, 110, 116, 32, 98, 32, 48, 32, 48, 10] : Bs)))] ?_
 refine iF ?_
 refine aC ?_
 refine iR 1 1 [(16, (sv ([116, 105, 109, 101, 115, 32, 57, 32, 56, 32, 55, 32, 54, 10, 116, 101, 110, 97, 110, 116, 32, 97, 32, 50, 32, 51, 10, 110, 101, 116, 32, 49, 48, 46, 48, 46, 48, 46, 48, 47, 56, 10, 116, 111, 107, 101, 110, 32, 107, 32, 48, 48, 102, 102, 32, 53, 10, 116, 101, 110, 97, 110, 116, 32, 98, 32, 48, 32, 48, 10] : Bs)))] ?_
 obtain ⟨z1, b4, H⟩ := Qd H
 refine iS 2 ?_
 refine cF 16 #[(.tmp 16)] #[9] 17 Tryz.call16 (Gw  ([116, 105, 109, 101, 115, 32, 57, 32, 56, 32, 55, 32, 54, 10, 116, 101, 110, 97, 110, 116, 32, 97, 32, 50, 32, 51, 10, 110, 101, 116, 32, 49, 48, 46, 48, 46, 48, 46, 48, 47, 56, 10, 116, 111, 107, 101, 110, 32, 107, 32, 48, 48, 102, 102, 32, 53, 10, 116, 101, 110, 97, 110, 116, 32, 98, 32, 48, 32, 48, 10] : Bs) w0 (Q4 hL (SP.keeps a5)) z1 b4) ?_
 rintro e w3 ⟨A5, c6, d7, rfl, b5, a6⟩
 obtain ⟨e8, hll9, H⟩ := Z4 H
 rw [b5] at hll9
 subst hll9
 refine ⟨_, rfl, ?_⟩
 have b6 := SP.call a5 a6
 clear a6
 refine iR 4 6 [(15, (.tuple #[(.agg #[(iv z1.1), (iv z1.2.1), (iv z1.2.2.1), (iv z1.2.2.2.1), (lv A5 (mT d7) c6)]), (iv z1.2.2.2.2.2.1), (iv z1.2.2.2.2.2.2)])), (18, (.agg #[(iv z1.1), (iv z1.2.1), (iv z1.2.2.1), (iv z1.2.2.2.1), (lv A5 (mT d7) c6)])), (19, (iv z1.2.2.2.2.2.1)), (20, (iv z1.2.2.2.2.2.2))] ?_
 refine iS 7 ?_
 refine zA 24 (.agg #[(iv 0), (iv 0), (iv 0), (iv 0), (lv none ([] : List Qb) 0)]) 2 b6 ?_
 intro g e9 b7
 refine iS 8 ?_
 refine zT 24 (.tmp 2) (.tmp 18) g 0 1 (.agg #[(iv z1.1), (iv z1.2.1), (iv z1.2.2.1), (iv z1.2.2.2.1), (lv A5 (mT d7) c6)]) #[(iv z1.1), (iv z1.2.1), (iv z1.2.2.1), (iv z1.2.2.2.1), (lv A5 (mT d7) c6)] none b7 ?_
 intro b8 a7
 refine iR 2 10 [(3, (iv z1.2.2.2.2.2.1)), (4, (iv z1.2.2.2.2.2.2))] ?_
 refine iF ?_
 refine aC ?_
 obtain ⟨b, b9, H⟩ := Qd H
 refine iS 1 ?_
 refine cF 16 #[(.const (.string ⟨List.toArray ([116, 105, 109, 101, 115, 32, 57, 32, 56, 32, 55, 32, 54, 10, 110, 101, 116, 32, 49, 48, 46, 48, 46, 48, 46, 48, 47, 56, 10] : Bs)⟩))] #[9] 22 Tryz.call16 (Gw  ([116, 105, 109, 101, 115, 32, 57, 32, 56, 32, 55, 32, 54, 10, 110, 101, 116, 32, 49, 48, 46, 48, 46, 48, 46, 48, 47, 56, 10] : Bs) b8 (Q4 hL (SP.keeps a7)) b b9) ?_
 rintro e f0 ⟨s, t, u, rfl, c0, a8⟩
 obtain ⟨f1, hll27, H⟩ := Z4 H
 rw [c0] at hll27
 subst hll27
 refine ⟨_, rfl, ?_⟩
 have c1 := SP.call a7 a8
 clear a8
 refine iR 4 5 [(21, (.tuple #[(.agg #[(iv b.1), (iv b.2.1), (iv b.2.2.1), (iv b.2.2.2.1), (lv s (mT u) t)]), (iv b.2.2.2.2.2.1), (iv b.2.2.2.2.2.2)])), (23, (.agg #[(iv b.1), (iv b.2.1), (iv b.2.2.1), (iv b.2.2.2.1), (lv s (mT u) t)])), (24, (iv b.2.2.2.2.2.1)), (25, (iv b.2.2.2.2.2.2))] ?_
 refine iS 6 ?_
 refine zA 24 (.agg #[(iv 0), (iv 0), (iv 0), (iv 0), (lv none ([] : List Qb) 0)]) 5 c1 ?_
 intro c2 f2 c3
 refine iS 7 ?_
 refine zT 24 (.tmp 5) (.tmp 23) c2 0 3 (.agg #[(iv b.1), (iv b.2.1), (iv b.2.2.1), (iv b.2.2.2.1), (lv s (mT u) t)]) #[(iv b.1), (iv b.2.1), (iv b.2.2.1), (iv b.2.2.2.1), (lv s (mT u) t)] none c3 ?_
 intro c4 a9
 refine iR 2 9 [(6, (iv b.2.2.2.2.2.1)), (7, (iv b.2.2.2.2.2.2))] ?_
 refine iF ?_
 refine aC ?_
 obtain ⟨c, c5, H⟩ := Qd H
 refine iS 1 ?_
 refine cF 16 #[(.const (.string ⟨List.toArray ([116, 105, 109, 101, 115, 32, 57, 32, 56, 32, 55, 32, 54, 10, 116, 101, 110, 97, 110, 116, 32, 98, 32, 49, 32, 49, 10, 116, 101, 110, 97, 110, 116, 32, 97, 32, 49, 32, 49, 10] : Bs)⟩))] #[9] 27 Tryz.call16 (Gw  ([116, 105, 109, 101, 115, 32, 57, 32, 56, 32, 55, 32, 54, 10, 116, 101, 110, 97, 110, 116, 32, 98, 32, 49, 32, 49, 10, 116, 101, 110, 97, 110, 116, 32, 97, 32, 49, 32, 49, 10] : Bs) c4 (Q4 hL (SP.keeps a9)) c c5) ?_
 rintro e f3 ⟨v, x, y, rfl, c7, b0⟩
 obtain ⟨f4, hll45, H⟩ := Z4 H
 rw [c7] at hll45
 subst hll45
 refine ⟨_, rfl, ?_⟩
 have c8 := SP.call a9 b0
 clear b0
 refine iR 4 5 [(26, (.tuple #[(.agg #[(iv c.1), (iv c.2.1), (iv c.2.2.1), (iv c.2.2.2.1), (lv v (mT y) x)]), (iv c.2.2.2.2.2.1), (iv c.2.2.2.2.2.2)])), (28, (.agg #[(iv c.1), (iv c.2.1), (iv c.2.2.1), (iv c.2.2.2.1), (lv v (mT y) x)])), (29, (iv c.2.2.2.2.2.1)), (30, (iv c.2.2.2.2.2.2))] ?_
 refine iS 6 ?_
 refine zA 24 (.agg #[(iv 0), (iv 0), (iv 0), (iv 0), (lv none ([] : List Qb) 0)]) 8 c8 ?_
 intro c9 f5 d0
 refine iS 7 ?_
 refine zT 24 (.tmp 8) (.tmp 28) c9 0 5 (.agg #[(iv c.1), (iv c.2.1), (iv c.2.2.1), (iv c.2.2.2.1), (lv v (mT y) x)]) #[(iv c.1), (iv c.2.1), (iv c.2.2.1), (iv c.2.2.2.1), (lv v (mT y) x)] none d0 ?_
 intro d1 z
 refine iR 2 9 [(9, (iv c.2.2.2.2.2.1)), (10, (iv c.2.2.2.2.2.2))] ?_
 refine iF ?_
 refine aC ?_
 refine jL 1 24 2 g 0 1 (.agg #[(iv z1.1), (iv z1.2.1), (iv z1.2.2.1), (iv z1.2.2.2.1), (lv A5 (mT d7) c6)]) 32 z rfl ?_
 obtain ⟨a, d2, H⟩ := Qd H
 refine iS 2 ?_
 refine cF 18 #[(.tmp 32), (.const (.string ⟨List.toArray ([97] : Bs)⟩))] #[24, 9] 33 Tryz.call18 (Ck (R := fun w => Below w0.heap.size w0 w ∧ (Da A5 c6 d7).ok w) A5 c6 z1.1 z1.2.1 z1.2.2.1 z1.2.2.2.1 d7 ([97] : Bs) d1 (fun w hb => ⟨Gi z hb, SP.get (SP.below z hb) (i := 0) rfl⟩) (fun w hr => D6 hr.2) a d2) ?_
 rintro e f6 ⟨h, j, k, l, rfl, d3, d4, b1⟩
 refine ⟨_, rfl, ?_⟩
 have d5 := SP.call z b1
 clear b1
 refine iR 3 5 [(31, (.tuple #[(.agg #[(sv a.1), (iv a.2.1), (iv a.2.2.1), (lv h a.2.2.2.1 j), (lv k a.2.2.2.2.1 l)]), (bv a.2.2.2.2.2)])), (34, (.agg #[(sv a.1), (iv a.2.1), (iv a.2.2.1), (lv h a.2.2.2.1 j), (lv k a.2.2.2.2.1 l)])), (35, (bv a.2.2.2.2.2))] ?_
 refine iS 6 ?_
 refine zA 33 (.agg #[(sv ([] : Bs)), (iv 0), (iv 0), (lv none ([] : List (Int × Int)) 0), (lv none ([] : List Tk) 0)]) 11 d5 ?_
 intro b2 f7 d6
 refine iS 7 ?_
 refine zT 33 (.tmp 11) (.tmp 34) b2 0 6 (.agg #[(sv a.1), (iv a.2.1), (iv a.2.2.1), (lv h a.2.2.2.1 j), (lv k a.2.2.2.2.1 l)]) #[(sv a.1), (iv a.2.1), (iv a.2.2.1), (lv h a.2.2.2.1 j), (lv k a.2.2.2.2.1 l)] none d6 ?_
 intro a2 m
 refine iR 1 8 [(12, (bv a.2.2.2.2.2))] ?_
 refine iF ?_
 refine aC ?_
 refine jL 1 33 11 b2 0 6 (.agg #[(sv a.1), (iv a.2.1), (iv a.2.2.1), (lv h a.2.2.2.1 j), (lv k a.2.2.2.2.1 l)]) 37 m rfl ?_
 obtain ⟨d, d8, H⟩ := Qd H
 refine iS 2 ?_
 refine cS m 20 #[(.tmp 37), (.const (.string ⟨List.toArray ([107] : Bs)⟩))] #[33, 9] 38 Tryz.call20 (B8 h j k l a.1 a.2.1 a.2.2.1 a.2.2.2.1 a.2.2.2.2.1 ([107] : Bs) a2 (d3 a2 ⟨SP.keeps m, SP.get m (i := 0) rfl⟩) (d4 a2 ⟨SP.keeps m, SP.get m (i := 0) rfl⟩) d d8) ?_
 intro f8 d9
 refine iR 3 5 [(36, (.tuple #[(.agg #[(sv d.1), (sv d.2.1), (iv d.2.2.1)]), (bv d.2.2.2)])), (39, (.agg #[(sv d.1), (sv d.2.1), (iv d.2.2.1)])), (40, (bv d.2.2.2))] ?_
 refine iS 6 ?_
 refine zA 37 (.agg #[(sv ([] : Bs)), (sv ([] : Bs)), (iv 0)]) 13 d9 ?_
 intro o f9 e0
 refine iS 7 ?_
 refine zT 37 (.tmp 13) (.tmp 39) o 0 7 (.agg #[(sv d.1), (sv d.2.1), (iv d.2.2.1)]) #[(sv d.1), (sv d.2.1), (iv d.2.2.1)] none e0 ?_
 intro e1 p
 refine iR 1 8 [(14, (bv d.2.2.2))] ?_
 refine iF ?_
 refine aQ ?_
 refine At.join (fun ρ w => ∃ (a0 : Bool), Vq ρ [(0, (bv a0))] ∧ SP [] w0 w [] ∧ Q7 a0 = some r) ?_ ?_
 ·refine aR ?_
  refine iR 3 3 [(41, (iv z1.2.2.2.2.2.1)), (42, (bv (z1.2.2.2.2.2.1 == 0))), (43, (bv (z1.2.2.2.2.2.1 == 0)))] ?_
  refine gD 43 H (fun H => ?_) fun H => ?_
  ·refine jL 4 24 2 g 0 1 (.agg #[(iv z1.1), (iv z1.2.1), (iv z1.2.2.1), (iv z1.2.2.2.1), (lv A5 (mT d7) c6)]) 44 p rfl ?_
   obtain ⟨a1, e2, H⟩ := Qd H
   refine iS 5 ?_
   refine cS p 24 #[(.tmp 44)] #[24] 45 Tryz.call24 (Y9 A5 c6 z1.1 z1.2.1 z1.2.2.1 z1.2.2.2.1 d7 e1 (Q4 hL (SP.keeps p)) (D6 (SP.get p (i := 0) rfl)) a1 e2) ?_
   intro e3 f
   refine iR 1 6 [(46, (sv ([116, 105, 109, 101, 115, 32, 57, 32, 56, 32, 55, 32, 54, 10, 116, 101, 110, 97, 110, 116, 32, 97, 32, 50, 32, 51, 10, 110, 101, 116, 32, 49, 48, 46, 48, 46, 48, 46, 48, 47, 56, 10, 116, 111, 107, 101, 110, 32, 107, 32, 48, 48, 102, 102, 32, 53, 10, 116, 101, 110, 97, 110, 116, 32, 98, 32, 48, 32, 48, 10] : Bs)))] ?_
   refine jO 7 9 (.tmp 45) (.tmp 46) a1 ([116, 105, 109, 101, 115, 32, 57, 32, 56, 32, 55, 32, 54, 10, 116, 101, 110, 97, 110, 116, 32, 97, 32, 50, 32, 51, 10, 110, 101, 116, 32, 49, 48, 46, 48, 46, 48, 46, 48, 47, 56, 10, 116, 111, 107, 101, 110, 32, 107, 32, 48, 48, 102, 102, 32, 53, 10, 116, 101, 110, 97, 110, 116, 32, 98, 32, 48, 32, 48, 10] : Bs) 47 ?_
   refine iR 2 9 [(48, (bv (a1 == ([116, 105, 109, 101, 115, 32, 57, 32, 56, 32, 55, 32, 54, 10, 116, 101, 110, 97, 110, 116, 32, 97, 32, 50, 32, 51, 10, 110, 101, 116, 32, 49, 48, 46, 48, 46, 48, 46, 48, 47, 56, 10, 116, 111, 107, 101, 110, 32, 107, 32, 48, 48, 102, 102, 32, 53, 10, 116, 101, 110, 97, 110, 116, 32, 98, 32, 48, 32, 48, 10] : Bs)))), (49, (bv (a1 == ([116, 105, 109, 101, 115, 32, 57, 32, 56, 32, 55, 32, 54, 10, 116, 101, 110, 97, 110, 116, 32, 97, 32, 50, 32, 51, 10, 110, 101, 116, 32, 49, 48, 46, 48, 46, 48, 46, 48, 47, 56, 10, 116, 111, 107, 101, 110, 32, 107, 32, 48, 48, 102, 102, 32, 53, 10, 116, 101, 110, 97, 110, 116, 32, 98, 32, 48, 32, 48, 10] : Bs))))] ?_
   refine gD 49 H (fun H => ?_) fun H => ?_
   ·refine iR 1 10 [(50, (pt g 4))] ?_
    refine jL 11 22 50 g 4 1 (lv A5 (mT d7) c6) 51 f rfl ?_
    refine iR 4 15 [(52, (iv (ln (mT d7)))), (53, (bv ((ln (mT d7)) == 2))), (54, (bv ((ln (mT d7)) == 2))), (55, (bv ((ln (mT d7)) == 2)))] ?_
    refine gD 55 H (fun H => ?_) fun H => ?_
    ·refine iR 1 16 [(56, (pt g 3))] ?_
     refine jL 17 2 56 g 3 1 (iv z1.2.2.2.1) 57 f rfl ?_
     refine iR 3 20 [(58, (bv (z1.2.2.2.1 == 6))), (59, (bv (z1.2.2.2.1 == 6))), (60, (bv (z1.2.2.2.1 == 6)))] ?_
     refine gD 60 H (fun H => ?_) fun H => ?_
     ·refine iR 4 24 [(61, (iv b.2.2.2.2.2.1)), (62, (bv (b.2.2.2.2.2.1 == 91))), (63, (bv (b.2.2.2.2.2.1 == 91))), (64, (bv (b.2.2.2.2.2.1 == 91)))] ?_
      refine gD 64 H (fun H => ?_) fun H => ?_
      ·refine iR 4 28 [(65, (iv b.2.2.2.2.2.2)), (66, (bv (b.2.2.2.2.2.2 == 1))), (67, (bv (b.2.2.2.2.2.2 == 1))), (68, (bv (b.2.2.2.2.2.2 == 1)))] ?_
       refine gD 68 H (fun H => ?_) fun H => ?_
       ·refine iR 4 32 [(69, (iv c.2.2.2.2.2.1)), (70, (bv (c.2.2.2.2.2.1 == 91))), (71, (bv (c.2.2.2.2.2.1 == 91))), (72, (bv (c.2.2.2.2.2.1 == 91)))] ?_
        refine gD 72 H (fun H => ?_) fun H => ?_
        ·refine iR 4 36 [(73, (iv c.2.2.2.2.2.2)), (74, (bv (c.2.2.2.2.2.2 == 2))), (75, (bv (c.2.2.2.2.2.2 == 2))), (76, (bv (c.2.2.2.2.2.2 == 2)))] ?_
         refine gD 76 H (fun H => ?_) fun H => ?_
         ·refine iR 3 39 [(77, (bv a.2.2.2.2.2)), (78, (bv a.2.2.2.2.2)), (79, (bv a.2.2.2.2.2))] ?_
          refine gD 79 H (fun H => ?_) fun H => ?_
          ·refine iR 3 42 [(80, (bv d.2.2.2)), (81, (bv d.2.2.2)), (82, (bv d.2.2.2))] ?_
           refine gD 82 H (fun H => ?_) fun H => ?_
           ·refine iR 1 43 [(83, (pt o 1))] ?_
            refine jL 44 9 83 o 1 7 (sv d.2.1) 84 f rfl ?_
            refine jO 45 9 (.tmp 84) (.const (.string ⟨List.toArray ([0, 255] : Bs)⟩)) d.2.1 ([0, 255] : Bs) 85 ?_
            refine iR 2 47 [(86, (bv (d.2.1 == ([0, 255] : Bs)))), (87, (bv (d.2.1 == ([0, 255] : Bs))))] ?_
            refine gD 87 H (fun H => ?_) fun H => ?_
            ·refine iR 1 48 [(88, (pt o 2))] ?_
             refine jL 49 2 88 o 2 7 (iv d.2.2.1) 89 f rfl ?_
             refine iR 3 52 [(90, (bv (d.2.2.1 == 5))), (91, (bv (d.2.2.1 == 5))), (92, (bv (d.2.2.1 == 5)))] ?_
             refine gD 92 H (fun H => ?_) fun H => ?_
             ·refine jL 53 24 2 g 0 1 (.agg #[(iv z1.1), (iv z1.2.1), (iv z1.2.2.1), (iv z1.2.2.2.1), (lv A5 (mT d7) c6)]) 93 f rfl ?_
              obtain ⟨a3, e4, H⟩ := Qd H
              refine iS 54 ?_
              refine cS f 22 #[(.tmp 93)] #[24] 94 Tryz.call22 (Za A5 c6 z1.1 z1.2.1 z1.2.2.1 z1.2.2.2.1 d7 e3 (Q4 hL (SP.keeps f)) (D6 (SP.get f (i := 0) rfl)) a3 e4) ?_
              intro b3 a4
              refine iR 2 56 [(95, (bv a3)), (96, (bv a3))] ?_
              refine gD 96 H (fun H => ?_) fun H => ?_
              ·refine iR 1 57 [(97, (.agg #[(iv 0), (iv 0), (iv 0), (iv 0), (lv none ([] : List Qb) 0)]))] ?_
               obtain ⟨q, e5, H⟩ := Qd H
               refine iS 58 ?_
               refine cS a4 22 #[(.tmp 97)] #[24] 98 Tryz.call22 (Za none 0 0 0 0 0 ([] : List Qg) b3 (Q4 hL (SP.keeps a4)) (ds_nil Vu Fv b3) q e5) ?_
               intro g0 e6
               refine iR 3 61 [(99, (bv (!q))), (100, (bv (!q))), (0, (bv (!q)))] ?_
               refine iF ?_
               exact ⟨(!q), ⟨K, trivial⟩, SP.sel e6 [] rfl rfl, H⟩
              refine iR 5 61 (uN 97 3 [(100, (bv false)), (0, (bv false))]) ?_
              refine iF ?_
              exact ⟨false, ⟨K, trivial⟩, SP.sel a4 [] rfl rfl, H⟩
             refine iR 9 61 (uN 93 2 ((95, (bv false)) :: (96, (bv false)) :: (uN 97 3 [(100, (bv false)), (0, (bv false))]))) ?_
             refine iF ?_
             exact ⟨false, ⟨K, trivial⟩, SP.sel f [] rfl rfl, H⟩
            refine iR 14 61 (uN 88 3 ((91, (bv false)) :: (92, (bv false)) :: (uN 93 2 ((95, (bv false)) :: (96, (bv false)) :: (uN 97 3 [(100, (bv false)), (0, (bv false))]))))) ?_
            refine iF ?_
            exact ⟨false, ⟨K, trivial⟩, SP.sel f [] rfl rfl, H⟩
           refine iR 19 61 (uN 83 3 ((86, (bv false)) :: (87, (bv false)) :: (uN 88 3 ((91, (bv false)) :: (92, (bv false)) :: (uN 93 2 ((95, (bv false)) :: (96, (bv false)) :: (uN 97 3 [(100, (bv false)), (0, (bv false))]))))))) ?_
           refine iF ?_
           exact ⟨false, ⟨K, trivial⟩, SP.sel f [] rfl rfl, H⟩
          refine iR 22 61 ((80, undef) :: (81, (bv false)) :: (82, (bv false)) :: (uN 83 3 ((86, (bv false)) :: (87, (bv false)) :: (uN 88 3 ((91, (bv false)) :: (92, (bv false)) :: (uN 93 2 ((95, (bv false)) :: (96, (bv false)) :: (uN 97 3 [(100, (bv false)), (0, (bv false))])))))))) ?_
          refine iF ?_
          exact ⟨false, ⟨K, trivial⟩, SP.sel f [] rfl rfl, H⟩
         refine iR 25 61 ((77, undef) :: (78, (bv false)) :: (79, (bv false)) :: (80, undef) :: (81, (bv false)) :: (82, (bv false)) :: (uN 83 3 ((86, (bv false)) :: (87, (bv false)) :: (uN 88 3 ((91, (bv false)) :: (92, (bv false)) :: (uN 93 2 ((95, (bv false)) :: (96, (bv false)) :: (uN 97 3 [(100, (bv false)), (0, (bv false))])))))))) ?_
         refine iF ?_
         exact ⟨false, ⟨K, trivial⟩, SP.sel f [] rfl rfl, H⟩
        refine iR 29 61 (uN 73 2 ((75, (bv false)) :: (76, (bv false)) :: (77, undef) :: (78, (bv false)) :: (79, (bv false)) :: (80, undef) :: (81, (bv false)) :: (82, (bv false)) :: (uN 83 3 ((86, (bv false)) :: (87, (bv false)) :: (uN 88 3 ((91, (bv false)) :: (92, (bv false)) :: (uN 93 2 ((95, (bv false)) :: (96, (bv false)) :: (uN 97 3 [(100, (bv false)), (0, (bv false))]))))))))) ?_
        refine iF ?_
        exact ⟨false, ⟨K, trivial⟩, SP.sel f [] rfl rfl, H⟩
       refine iR 33 61 (uN 69 2 ((71, (bv false)) :: (72, (bv false)) :: (uN 73 2 ((75, (bv false)) :: (76, (bv false)) :: (77, undef) :: (78, (bv false)) :: (79, (bv false)) :: (80, undef) :: (81, (bv false)) :: (82, (bv false)) :: (uN 83 3 ((86, (bv false)) :: (87, (bv false)) :: (uN 88 3 ((91, (bv false)) :: (92, (bv false)) :: (uN 93 2 ((95, (bv false)) :: (96, (bv false)) :: (uN 97 3 [(100, (bv false)), (0, (bv false))]))))))))))) ?_
       refine iF ?_
       exact ⟨false, ⟨K, trivial⟩, SP.sel f [] rfl rfl, H⟩
      refine iR 37 61 (uN 65 2 ((67, (bv false)) :: (68, (bv false)) :: (uN 69 2 ((71, (bv false)) :: (72, (bv false)) :: (uN 73 2 ((75, (bv false)) :: (76, (bv false)) :: (77, undef) :: (78, (bv false)) :: (79, (bv false)) :: (80, undef) :: (81, (bv false)) :: (82, (bv false)) :: (uN 83 3 ((86, (bv false)) :: (87, (bv false)) :: (uN 88 3 ((91, (bv false)) :: (92, (bv false)) :: (uN 93 2 ((95, (bv false)) :: (96, (bv false)) :: (uN 97 3 [(100, (bv false)), (0, (bv false))]))))))))))))) ?_
      refine iF ?_
      exact ⟨false, ⟨K, trivial⟩, SP.sel f [] rfl rfl, H⟩
     refine iR 41 61 (uN 61 2 ((63, (bv false)) :: (64, (bv false)) :: (uN 65 2 ((67, (bv false)) :: (68, (bv false)) :: (uN 69 2 ((71, (bv false)) :: (72, (bv false)) :: (uN 73 2 ((75, (bv false)) :: (76, (bv false)) :: (77, undef) :: (78, (bv false)) :: (79, (bv false)) :: (80, undef) :: (81, (bv false)) :: (82, (bv false)) :: (uN 83 3 ((86, (bv false)) :: (87, (bv false)) :: (uN 88 3 ((91, (bv false)) :: (92, (bv false)) :: (uN 93 2 ((95, (bv false)) :: (96, (bv false)) :: (uN 97 3 [(100, (bv false)), (0, (bv false))]))))))))))))))) ?_
     refine iF ?_
     exact ⟨false, ⟨K, trivial⟩, SP.sel f [] rfl rfl, H⟩
    refine iR 46 61 (uN 56 3 ((59, (bv false)) :: (60, (bv false)) :: (uN 61 2 ((63, (bv false)) :: (64, (bv false)) :: (uN 65 2 ((67, (bv false)) :: (68, (bv false)) :: (uN 69 2 ((71, (bv false)) :: (72, (bv false)) :: (uN 73 2 ((75, (bv false)) :: (76, (bv false)) :: (77, undef) :: (78, (bv false)) :: (79, (bv false)) :: (80, undef) :: (81, (bv false)) :: (82, (bv false)) :: (uN 83 3 ((86, (bv false)) :: (87, (bv false)) :: (uN 88 3 ((91, (bv false)) :: (92, (bv false)) :: (uN 93 2 ((95, (bv false)) :: (96, (bv false)) :: (uN 97 3 [(100, (bv false)), (0, (bv false))]))))))))))))))))) ?_
    refine iF ?_
    exact ⟨false, ⟨K, trivial⟩, SP.sel f [] rfl rfl, H⟩
   refine iR 52 61 (uN 50 4 ((54, (bv false)) :: (55, (bv false)) :: (uN 56 3 ((59, (bv false)) :: (60, (bv false)) :: (uN 61 2 ((63, (bv false)) :: (64, (bv false)) :: (uN 65 2 ((67, (bv false)) :: (68, (bv false)) :: (uN 69 2 ((71, (bv false)) :: (72, (bv false)) :: (uN 73 2 ((75, (bv false)) :: (76, (bv false)) :: (77, undef) :: (78, (bv false)) :: (79, (bv false)) :: (80, undef) :: (81, (bv false)) :: (82, (bv false)) :: (uN 83 3 ((86, (bv false)) :: (87, (bv false)) :: (uN 88 3 ((91, (bv false)) :: (92, (bv false)) :: (uN 93 2 ((95, (bv false)) :: (96, (bv false)) :: (uN 97 3 [(100, (bv false)), (0, (bv false))]))))))))))))))))))) ?_
   refine iF ?_
   exact ⟨false, ⟨K, trivial⟩, SP.sel f [] rfl rfl, H⟩
  refine iR 58 61 (uN 44 4 ((48, (bv false)) :: (49, (bv false)) :: (uN 50 4 ((54, (bv false)) :: (55, (bv false)) :: (uN 56 3 ((59, (bv false)) :: (60, (bv false)) :: (uN 61 2 ((63, (bv false)) :: (64, (bv false)) :: (uN 65 2 ((67, (bv false)) :: (68, (bv false)) :: (uN 69 2 ((71, (bv false)) :: (72, (bv false)) :: (uN 73 2 ((75, (bv false)) :: (76, (bv false)) :: (77, undef) :: (78, (bv false)) :: (79, (bv false)) :: (80, undef) :: (81, (bv false)) :: (82, (bv false)) :: (uN 83 3 ((86, (bv false)) :: (87, (bv false)) :: (uN 88 3 ((91, (bv false)) :: (92, (bv false)) :: (uN 93 2 ((95, (bv false)) :: (96, (bv false)) :: (uN 97 3 [(100, (bv false)), (0, (bv false))]))))))))))))))))))))) ?_
  refine iF ?_
  exact ⟨false, ⟨K, trivial⟩, SP.sel p [] rfl rfl, H⟩
 rintro ρ g1 ⟨a0, hk, e7, H⟩
 unfold Q7 at H
 first | refine At.known _ hk ?_ | rw [← Qo hk]
 refine At.ret K ?_
 refine ⟨(bv a0), K, ?_⟩
 obtain rfl := Qe H
 exact ⟨rfl, SP.sel e7 [] rfl rfl⟩
end Go.Proofs.YtoflbpmbkmephaaGreatDoor
namespace Go.Proofs.YtoflbpmbkmephaaGreatDoor
open Go.RowKit
set_option maxRecDepth 1000000 in
theorem cfgHead : Rg = some true := by decide +kernel
end Go.Proofs.YtoflbpmbkmephaaGreatDoor
namespace Go.Proofs.YtoflbpmbkmephaaGreatDoor
theorem failC_or (s : Str) : (Y6 s).2.2.2.2.2.1 = 0 ∨ ∃ e n, (e = 2 ∨ e = 91) ∧ Y6 s = failC e n := by
  unfold Y6
  by_cases hl : 4096 < s.length
  · rw [if_pos hl]
    exact .inr ⟨2, 0, .inl rfl, rfl⟩
  · rw [if_neg hl]
    cases P9 (Q3 10 s).dropLast c0C 0 with
    | inl n => exact .inr ⟨91, n, .inr rfl, rfl⟩
    | inr cn =>
      obtain ⟨c, n⟩ := cn
      unfold finC
      dsimp only
      by_cases hr : (Q3 10 s).getLastD [] ≠ [] ∨ n = 0
      · rw [if_pos hr]
        exact .inr ⟨91, n, .inr rfl, rfl⟩
      · rw [if_neg hr]
        exact .inl rfl
theorem bnd_q {c : Bp} (h : Mu 0 c) : c.2.2.2.2.length ≤ 140737488355328 ∧ ∀ t ∈ c.2.2.2.2, t.2.2.2.1.length ≤ 140737488355328 ∧ t.2.2.2.2.length ≤ 140737488355328 :=
  ⟨by have := h.1; omega, fun t ht => ⟨by have := (h.2 t ht).2.1; omega, by have := (h.2 t ht).2.2.1; omega⟩⟩
theorem parse_q (s : Str) : (Y6 s).2.2.2.2.1.length ≤ 140737488355328 ∧ ∀ t ∈ (Y6 s).2.2.2.2.1, t.2.2.2.1.length ≤ 140737488355328 ∧ t.2.2.2.2.length ≤ 140737488355328 := by
  rcases failC_or s with h | ⟨e, n, _, h⟩
  · obtain ⟨c, h1, _, h2, _⟩ := Sg h
    rw [h1]
    exact bnd_q h2
  · rw [h]
    exact ⟨Nat.zero_le _, fun t ht => by cases ht⟩
end Go.Proofs.YtoflbpmbkmephaaGreatDoor
namespace Go.Proofs.YtoflbpmbkmephaaGreatDoor
open Go.RowKit
def Xx (a : Int → Option (Bool)) (b : Int) (c : Bool) : Option (Bool) :=
  (cond c (some (false)) (a (IntKind.wrap .i64 (b + 1))))
def Va (b : Int → Option (Bool)) (a : Bool) : Option (Bool) :=
  (some (a))
def V8 (a : Int → Option (Bool)) (j : Int) (k : Int) (l : Int) (m : Int) (b : (List Qb)) (p : (List UInt8)) (q : (Bool)) (c : (Int × Int × Int × Int × (List Qb) × Int × Int)) (r : (List Qb)) (d : (Int × Int × Int × Int × (List Qb) × Int × Int)) (s : (List Qb)) (e : ((List UInt8) × Int × Int × (List (Int × Int)) × (List ((List UInt8) × (List UInt8) × Int)) × Bool)) (f : ((List UInt8) × Int × Int × (List (Int × Int)) × (List ((List UInt8) × (List UInt8) × Int)) × Bool)) (g : Int) : Option (Bool) :=
  (cond (decide (g < ((List.length b : Nat) : Int))) ((idx b g).bind fun h => ((G7 h.1 h.2.1 h.2.2.1 h.2.2.2.1 h.2.2.2.2 p).bind fun n => ((idx b g).bind fun i => ((Gr i.1 i.2.1 i.2.2.1 i.2.2.2.1 i.2.2.2.2 p).bind fun o => (cond (!((n.1 == o.1) && ((n.2.1 == o.2.1) && (n.2.2.1 == o.2.2.1)))) (Xx a g true) (Xx a g (!(n.2.2.2 == o.2.2.2)))))))) (cond q ((Jo j k l m b).bind fun t => ((Z6 j k l m b).bind fun u => (cond (t == u) ((G6 j k l m b).bind fun v => ((Nl j k l m b).bind fun w => (cond (v == w) ((Jt c.1 c.2.1 c.2.2.1 c.2.2.2.1 r d.1 d.2.1 d.2.2.1 d.2.2.2.1 s).bind fun x => (cond x (cond (c.2.2.2.2.2.1 == d.2.2.2.2.2.1) (cond (c.2.2.2.2.2.2 == d.2.2.2.2.2.2) ((Z1 e.1 e.2.1 e.2.2.1 e.2.2.2.1 e.2.2.2.2.1 f.1 f.2.1 f.2.2.1 f.2.2.2.1 f.2.2.2.2.1).bind fun y => (cond y (Va a (e.2.2.2.2.2 == f.2.2.2.2.2)) (Va a false))) (Va a false)) (Va a false)) (Va a false))) (Va a false)))) (Va a false)))) (Va a false)))
def Vk (a : Int) (b : Int) (c : Int) (d : Int) (e : (List Qb)) (g : (List UInt8)) (h : (Bool)) (i : (Int × Int × Int × Int × (List Qb) × Int × Int)) (j : (List Qb)) (k : (Int × Int × Int × Int × (List Qb) × Int × Int)) (l : (List Qb)) (m : ((List UInt8) × Int × Int × (List (Int × Int)) × (List ((List UInt8) × (List UInt8) × Int)) × Bool)) (n : ((List UInt8) × Int × Int × (List (Int × Int)) × (List ((List UInt8) × (List UInt8) × Int)) × Bool)) : Nat → Int → Option (Bool)
  | 0, _ => none
  | f + 1, o => V8  (Vk a b c d e g h i j k l m n f) a b c d e g h i j k l m n o
def Vv (a : Int) (b : Int) (c : Int) (d : Int) (e : (List Qb)) (g : (List UInt8)) (f : (List UInt8)) (h : (Bool)) (k : Bool) : Option (Bool) :=
  (cond k (some (h)) ((Y3 g).bind fun i => ((some i.2.2.2.2.1).bind fun l => ((Nm g).bind fun j => ((some j.2.2.2.2.1).bind fun m => ((Rt a b c d e f).bind fun n => ((Rc a b c d e f).bind fun o => (Vk a b c d e f h i l j m n o Zj 0))))))))
def Ue (a : Int) (b : Int) (c : Int) (d : Int) (e : (List Qb)) (f : (List UInt8)) (g : (List UInt8)) : Option (Bool) :=
  ((Rg ).bind fun h => ((Gs a b c d e).bind fun i => (cond i (Vv a b c d e f g h true) (cond (decide (((List.length f : Nat) : Int) > 5000)) (Vv a b c d e f g h true) (Vv a b c d e f g h (decide (((List.length g : Nat) : Int) > 1000)))))))
set_option maxHeartbeats 40000000 in
theorem Bk (A6 : Option Addr) (c7 : Nat) (m : Int) (o : Int) (p : Int) (q : Int) (d9 : (List Qg)) (d8 : Bs) (b8 : Bs) (w0 : World) (hL : Be w0) (b0 : (dDS Vu Fv).ok w0 (A6, c7, d9)) (r : (Bool)) (H : Ue m o p q (mT d9) d8 b8 = some r) :
  Calls Tryz.prog 3 #[(.agg #[(iv m), (iv o), (iv p), (iv q), (lv A6 (mT d9) c7)]), (sv d8), (sv b8)] w0 (fun e W => e = .returned (bv r) ∧ SP [] w0 W []) := by
 unfold Ue at H
 refine Qt (n := 136) Tryz.func3 K K K ?_
 have l8 := Qw [] w0
 refine aC ?_
 refine iS 1 ?_
 refine zB 24 (.tmp 0) (.agg #[(iv m), (iv o), (iv p), (iv q), (lv A6 (mT d9) c7)]) 3 l8 ?_
 intro z l9 i5
 refine iR 1 2 [(6, (bv false))] ?_
 refine iF ?_
 refine aC ?_
 obtain ⟨a7, m0, H⟩ := Qd H
 refine iS 1 ?_
 refine cS i5 14 #[] #[] 23 Tryz.call14 (Et   l9 (Q4 hL (SP.keeps i5)) a7 m0) ?_
 intro m1 g2
 refine iR 1 2 [(7, (bv a7))] ?_
 refine iF ?_
 refine aQ ?_
 refine aQ ?_
 refine At.join (fun ρ w => ∃ (g3 : Bool), Vq ρ [(1, (sv d8)), (2, (sv b8)), (3, (pt z 0)), (7, (bv a7)), (35, (bv g3))] ∧ SP [] w0 w [Qs z 24 #[(iv m), (iv o), (iv p), (iv q), (lv A6 (mT d9) c7)]] ∧ Vv m o p q (mT d9) d8 b8 a7 g3 = some r) ?_ ?_
 ·refine aR ?_
  refine jL 1 24 3 z 0 0 (.agg #[(iv m), (iv o), (iv p), (iv q), (lv A6 (mT d9) c7)]) 24 g2 rfl ?_
  obtain ⟨i6, m2, H⟩ := Qd H
  refine iS 2 ?_
  refine cS g2 15 #[(.tmp 24)] #[24] 25 Tryz.call15 (Cx A6 c7 m o p q d9 m1 (Dp.sp b0 g2) i6 m2) ?_
  intro ah0 g4
  refine iR 1 3 [(26, (bv i6))] ?_
  refine gD 26 H (fun H => ?_) fun H => ?_
  ·refine iR 9 12 (uN 27 3 ((30, (bv true)) :: (31, (bv true)) :: (uN 32 3 [(35, (bv true))]))) ?_
   refine iF ?_
   exact ⟨true, ⟨K, K, K, K, K, trivial⟩, SP.sel g4 [0] rfl rfl, H⟩
  refine iR 5 8 [(27, (sv d8)), (28, (iv (ln d8))), (29, (bv (decide ((ln d8) > 5000)))), (30, (bv (decide ((ln d8) > 5000)))), (31, (bv (decide ((ln d8) > 5000))))] ?_
  refine gD 31 H (fun H => ?_) fun H => ?_
  ·refine iR 4 12 (uN 32 3 [(35, (bv true))]) ?_
   refine iF ?_
   exact ⟨true, ⟨K, K, K, K, K, trivial⟩, SP.sel g4 [0] rfl rfl, H⟩
  refine iR 4 12 [(32, (sv b8)), (33, (iv (ln b8))), (34, (bv (decide ((ln b8) > 1000)))), (35, (bv (decide ((ln b8) > 1000))))] ?_
  refine iF ?_
  exact ⟨(decide ((ln b8) > 1000)), ⟨K, K, K, K, K, trivial⟩, SP.sel g4 [0] rfl rfl, H⟩
 rintro ρ m3 ⟨g3, hk, g5, H⟩
 unfold Vv at H
 first | refine At.known _ hk ?_ | rw [← Qo hk]
 refine cD 35 H (fun H => ?_) fun H => ?_
 ·refine aC ?_
  refine iR 2 2 [(36, (bv a7)), (6, (bv a7))] ?_
  refine iF ?_
  refine At.ret K ?_
  refine ⟨(bv a7), K, ?_⟩
  obtain rfl := Qe H
  exact ⟨rfl, SP.sel g5 [] rfl rfl⟩
 refine At.skip K ?_
 refine aC ?_
 refine iR 1 1 [(38, (sv d8))] ?_
 obtain ⟨g, m4, H⟩ := Qd H
 refine iS 2 ?_
 refine cF 16 #[(.tmp 38)] #[9] 39 Tryz.call16 (Gw  d8 m3 (Q4 hL (SP.keeps g5)) g m4) ?_
 rintro e w36 ⟨a8, a9, a5, rfl, m5, i7⟩
 obtain ⟨ah2, hll42, H⟩ := Z4 H
 rw [m5] at hll42
 subst hll42
 refine ⟨_, rfl, ?_⟩
 have m6 := SP.call g5 i7
 clear i7
 refine iR 4 6 [(37, (.tuple #[(.agg #[(iv g.1), (iv g.2.1), (iv g.2.2.1), (iv g.2.2.2.1), (lv a8 (mT a5) a9)]), (iv g.2.2.2.2.2.1), (iv g.2.2.2.2.2.2)])), (40, (.agg #[(iv g.1), (iv g.2.1), (iv g.2.2.1), (iv g.2.2.2.1), (lv a8 (mT a5) a9)])), (41, (iv g.2.2.2.2.2.1)), (42, (iv g.2.2.2.2.2.2))] ?_
 refine iS 7 ?_
 refine zA 24 (.agg #[(iv 0), (iv 0), (iv 0), (iv 0), (lv none ([] : List Qb) 0)]) 8 m6 ?_
 intro b9 w46 m7
 refine iS 8 ?_
 refine zT 24 (.tmp 8) (.tmp 40) b9 0 2 (.agg #[(iv g.1), (iv g.2.1), (iv g.2.2.1), (iv g.2.2.2.1), (lv a8 (mT a5) a9)]) #[(iv g.1), (iv g.2.1), (iv g.2.2.1), (iv g.2.2.2.1), (lv a8 (mT a5) a9)] none m7 ?_
 intro m8 i8
 refine iR 2 10 [(9, (iv g.2.2.2.2.2.1)), (10, (iv g.2.2.2.2.2.2))] ?_
 refine iF ?_
 refine aC ?_
 refine iR 1 1 [(44, (sv d8))] ?_
 obtain ⟨j, m9, H⟩ := Qd H
 obtain ⟨b1, hl55, H⟩ := Z4 H
 refine iS 2 ?_
 refine cF 17 #[(.tmp 44)] #[9] 45 Tryz.call17 (C6 (R := fun w => Below w0.heap.size w0 w) d8 m8 (fun w hb => Gi i8 hb) j m9) ?_
 rintro e w56 ⟨b4, b5, E60, rfl, e7, i9⟩
 rw [hl55] at e7 ⊢
 refine ⟨_, rfl, ?_⟩
 have n0 := SP.call i8 i9
 clear i9
 refine iR 4 6 [(43, (.tuple #[(.agg #[(iv j.1), (iv j.2.1), (iv j.2.2.1), (iv j.2.2.2.1), (lv b4 b1 b5)]), (iv j.2.2.2.2.2.1), (iv j.2.2.2.2.2.2)])), (46, (.agg #[(iv j.1), (iv j.2.1), (iv j.2.2.1), (iv j.2.2.2.1), (lv b4 b1 b5)])), (47, (iv j.2.2.2.2.2.1)), (48, (iv j.2.2.2.2.2.2))] ?_
 refine iS 7 ?_
 refine zA 24 (.agg #[(iv 0), (iv 0), (iv 0), (iv 0), (lv none ([] : List Qb) 0)]) 11 n0 ?_
 intro c0 w65 n1
 refine iS 8 ?_
 refine zT 24 (.tmp 11) (.tmp 46) c0 0 4 (.agg #[(iv j.1), (iv j.2.1), (iv j.2.2.1), (iv j.2.2.2.1), (lv b4 b1 b5)]) #[(iv j.1), (iv j.2.1), (iv j.2.2.1), (iv j.2.2.2.1), (lv b4 b1 b5)] none n1 ?_
 intro n2 g6
 refine iR 2 10 [(12, (iv j.2.2.2.2.2.1)), (13, (iv j.2.2.2.2.2.2))] ?_
 refine iF ?_
 refine aC ?_
 refine jL 1 24 3 z 0 0 (.agg #[(iv m), (iv o), (iv p), (iv q), (lv A6 (mT d9) c7)]) 50 g6 rfl ?_
 refine iR 1 2 [(51, (sv b8))] ?_
 obtain ⟨s, n3, H⟩ := Qd H
 refine iS 3 ?_
 refine cF 18 #[(.tmp 50), (.tmp 51)] #[24, 9] 52 Tryz.call18 (Ck (R := fun w => Below w0.heap.size w0 w) A6 c7 m o p q d9 b8 n2 (fun w hb => Gi g6 hb) (fun w hb => Dp.mono _ hb b0) s n3) ?_
 rintro e w73 ⟨c2, c3, c4, c5, rfl, j0, j1, j2⟩
 refine ⟨_, rfl, ?_⟩
 have n4 := SP.call g6 j2
 clear j2
 refine iR 3 6 [(49, (.tuple #[(.agg #[(sv s.1), (iv s.2.1), (iv s.2.2.1), (lv c2 s.2.2.2.1 c3), (lv c4 s.2.2.2.2.1 c5)]), (bv s.2.2.2.2.2)])), (53, (.agg #[(sv s.1), (iv s.2.1), (iv s.2.2.1), (lv c2 s.2.2.2.1 c3), (lv c4 s.2.2.2.2.1 c5)])), (54, (bv s.2.2.2.2.2))] ?_
 refine iS 7 ?_
 refine zA 33 (.agg #[(sv ([] : Bs)), (iv 0), (iv 0), (lv none ([] : List (Int × Int)) 0), (lv none ([] : List Tk) 0)]) 14 n4 ?_
 intro d4 w84 n5
 refine iS 8 ?_
 refine zT 33 (.tmp 14) (.tmp 53) d4 0 5 (.agg #[(sv s.1), (iv s.2.1), (iv s.2.2.1), (lv c2 s.2.2.2.1 c3), (lv c4 s.2.2.2.2.1 c5)]) #[(sv s.1), (iv s.2.1), (iv s.2.2.1), (lv c2 s.2.2.2.1 c3), (lv c4 s.2.2.2.2.1 c5)] none n5 ?_
 intro n6 g7
 refine iR 1 9 [(15, (bv s.2.2.2.2.2))] ?_
 refine iF ?_
 refine aC ?_
 refine jL 1 24 3 z 0 0 (.agg #[(iv m), (iv o), (iv p), (iv q), (lv A6 (mT d9) c7)]) 56 g7 rfl ?_
 refine iR 1 2 [(57, (sv b8))] ?_
 obtain ⟨u, n7, H⟩ := Qd H
 refine iS 3 ?_
 refine cF 19 #[(.tmp 56), (.tmp 57)] #[24, 9] 58 Tryz.call19 (Eh (R := fun w => Below w0.heap.size w0 w) A6 c7 m o p q d9 b8 n6 (fun w hb => Gi g7 hb) (fun w hb => Dp.mono _ hb b0) u n7) ?_
 rintro e w92 ⟨c6, c8, c9, d0, rfl, j3, j4, j5⟩
 refine ⟨_, rfl, ?_⟩
 have n8 := SP.call g7 j5
 clear j5
 refine iR 3 6 [(55, (.tuple #[(.agg #[(sv u.1), (iv u.2.1), (iv u.2.2.1), (lv c6 u.2.2.2.1 c8), (lv c9 u.2.2.2.2.1 d0)]), (bv u.2.2.2.2.2)])), (59, (.agg #[(sv u.1), (iv u.2.1), (iv u.2.2.1), (lv c6 u.2.2.2.1 c8), (lv c9 u.2.2.2.2.1 d0)])), (60, (bv u.2.2.2.2.2))] ?_
 refine iS 7 ?_
 refine zA 33 (.agg #[(sv ([] : Bs)), (iv 0), (iv 0), (lv none ([] : List (Int × Int)) 0), (lv none ([] : List Tk) 0)]) 16 n8 ?_
 intro d5 ah9 n9
 refine iS 8 ?_
 refine zT 33 (.tmp 16) (.tmp 59) d5 0 6 (.agg #[(sv u.1), (iv u.2.1), (iv u.2.2.1), (lv c6 u.2.2.2.1 c8), (lv c9 u.2.2.2.2.1 d0)]) #[(sv u.1), (iv u.2.1), (iv u.2.2.1), (lv c6 u.2.2.2.1 c8), (lv c9 u.2.2.2.2.1 d0)] none n9 ?_
 intro ai0 o0
 refine iR 1 9 [(17, (bv u.2.2.2.2.2))] ?_
 refine iF ?_
 refine aQ ?_
 refine aC ?_
 refine iR 1 1 [(18, (iv 0))] ?_
 refine iF ?_
 refine Z3 K (id := 0) K ?_
 refine Gm K (fun f6 ρ w => ∃ (d1 : Int), Vq ρ [(2, (sv b8)), (3, (pt z 0)), (7, (bv a7)), (8, (pt b9 0)), (9, (iv g.2.2.2.2.2.1)), (10, (iv g.2.2.2.2.2.2)), (11, (pt c0 0)), (12, (iv j.2.2.2.2.2.1)), (13, (iv j.2.2.2.2.2.2)), (14, (pt d4 0)), (15, (bv s.2.2.2.2.2)), (16, (pt d5 0)), (17, (bv u.2.2.2.2.2)), (18, (iv d1))] ∧ SP [] w0 w [Qs z 24 #[(iv m), (iv o), (iv p), (iv q), (lv A6 (mT d9) c7)], Da a8 a9 a5, Qs b9 24 #[(iv g.1), (iv g.2.1), (iv g.2.2.1), (iv g.2.2.2.1), (lv a8 (mT a5) a9)], E60, Qs c0 24 #[(iv j.1), (iv j.2.1), (iv j.2.2.1), (iv j.2.2.2.1), (lv b4 b1 b5)], Qs d4 33 #[(sv s.1), (iv s.2.1), (iv s.2.2.1), (lv c2 s.2.2.2.1 c3), (lv c4 s.2.2.2.2.1 c5)], Qs d5 33 #[(sv u.1), (iv u.2.1), (iv u.2.2.1), (lv c6 u.2.2.2.1 c8), (lv c9 u.2.2.2.2.1 d0)]] ∧ Vk m o p q (mT d9) b8 a7 g (mT a5) j b1 s u f6 d1 = some r) (by rintro ρ w ⟨d1, hk, hs, H⟩; cases H) ?_ Zj ?_
 ·rintro f6 ρ o1 ⟨d1, hk, d7, H⟩
  refine At.known _ hk ?_
  replace H := (show V8 (Vk m o p q (mT d9) b8 a7 g (mT a5) j b1 s u f6) m o p q (mT d9) b8 a7 g (mT a5) j b1 s u d1 = some r from H)
  unfold V8 at H
  refine aQ ?_
  refine aC ?_
  refine iR 2 2 [(61, (iv d1)), (62, (pt z 4))] ?_
  refine jL 3 22 62 z 4 0 (lv A6 (mT d9) c7) 63 d7 rfl ?_
  refine iR 2 5 [(64, (iv (ln (mT d9)))), (65, (bv (decide (d1 < (ln (mT d9))))))] ?_
  refine iF ?_
  refine cD 65 H (fun H => ?_) fun H => ?_
  ·refine At.skip K ?_
   refine aQ ?_
   refine Z3 K (id := 1) K ?_
   refine aC ?_
   refine iR 1 1 [(69, (pt z 4))] ?_
   refine jL 2 22 69 z 4 0 (lv A6 (mT d9) c7) 70 d7 rfl ?_
   refine iR 1 3 [(71, (iv d1))] ?_
   obtain ⟨d2, j6, j7, g8, H⟩ := J9 H
   refine iS 4 ?_
   refine Xd stT (e := Vu) (l := d9) (A := A6) (c := c7) (T := 22) (E := 33) (x := (.tmp 70)) (ix := (.tmp 71)) (ki := .i64) (iz := d1) (d := (some 72)) (k := 3) K rfl K K K K (RdT.sp (Zh b0) d7) j6 j7 ?_
   intro o2 o3 o4 ai1 hc4297
   refine iS 5 ?_
   refine Qx.cells (t := 33) (x := (.tmp 72)) (b := o2) (off := (o3 + Int.toNat d1 * Vu.sz)) (xs := [(sv (stT d2).1), (iv (stT d2).2.1), (iv (stT d2).2.2.1), (lv d2.2.2.2.1.1 (stT d2).2.2.2.1 d2.2.2.2.1.2.1), (lv d2.2.2.2.2.1 (stT d2).2.2.2.2 d2.2.2.2.2.2.1)]) (d := (some 73)) (k := 4) K rfl K K K (Vd (e := Vu) (Qh (RdT.sp (Zh b0) d7) o4 j6 j7) g8 rfl) ?_
   refine iR 1 6 [(74, (sv b8))] ?_
   obtain ⟨b2, o5, H⟩ := Qd H
   refine iS 7 ?_
   refine cS d7 20 #[(.tmp 73), (.tmp 74)] #[33, 9] 75 Tryz.call20 (B8 d2.2.2.2.1.1 d2.2.2.2.1.2.1 d2.2.2.2.2.1 d2.2.2.2.2.2.1 (stT d2).1 (stT d2).2.1 (stT d2).2.2.1 (stT d2).2.2.2.1 (stT d2).2.2.2.2 b8 o1 (RdT.sp (Zh (dp1 (dp2 (dp2 (dp2 (Gd b0 g8)))))) d7) (RdT.sp (Zh (dp2 (dp2 (dp2 (dp2 (Gd b0 g8)))))) d7) b2 o5) ?_
   intro ai2 o6
   refine iR 3 10 [(68, (.tuple #[(.agg #[(sv b2.1), (sv b2.2.1), (iv b2.2.2.1)]), (bv b2.2.2.2)])), (76, (.agg #[(sv b2.1), (sv b2.2.1), (iv b2.2.2.1)])), (77, (bv b2.2.2.2))] ?_
   refine iS 11 ?_
   refine zA 37 (.agg #[(sv ([] : Bs)), (sv ([] : Bs)), (iv 0)]) 19 o6 ?_
   intro j8 ai3 o7
   refine iS 12 ?_
   refine zT 37 (.tmp 19) (.tmp 76) j8 0 7 (.agg #[(sv b2.1), (sv b2.2.1), (iv b2.2.2.1)]) #[(sv b2.1), (sv b2.2.1), (iv b2.2.2.1)] none o7 ?_
   intro o8 e8
   refine iR 1 13 [(20, (bv b2.2.2.2))] ?_
   refine iF ?_
   refine aC ?_
   refine iR 1 1 [(79, (pt z 4))] ?_
   refine jL 2 22 79 z 4 0 (lv A6 (mT d9) c7) 80 e8 rfl ?_
   refine iR 1 3 [(81, (iv d1))] ?_
   obtain ⟨d3, j9, k1, g9, H⟩ := J9 H
   refine iS 4 ?_
   refine Xd stT (e := Vu) (l := d9) (A := A6) (c := c7) (T := 22) (E := 33) (x := (.tmp 80)) (ix := (.tmp 81)) (ki := .i64) (iz := d1) (d := (some 82)) (k := 3) K rfl K K K K (RdT.sp (Zh b0) e8) j9 k1 ?_
   intro o9 p0 p1 ai4 hc4320
   refine iS 5 ?_
   refine Qx.cells (t := 33) (x := (.tmp 82)) (b := o9) (off := (p0 + Int.toNat d1 * Vu.sz)) (xs := [(sv (stT d3).1), (iv (stT d3).2.1), (iv (stT d3).2.2.1), (lv d3.2.2.2.1.1 (stT d3).2.2.2.1 d3.2.2.2.1.2.1), (lv d3.2.2.2.2.1 (stT d3).2.2.2.2 d3.2.2.2.2.2.1)]) (d := (some 83)) (k := 4) K rfl K K K (Vd (e := Vu) (Qh (RdT.sp (Zh b0) e8) p1 j9 k1) g9 rfl) ?_
   refine iR 1 6 [(84, (sv b8))] ?_
   obtain ⟨b3, p2, H⟩ := Qd H
   refine iS 7 ?_
   refine cS e8 21 #[(.tmp 83), (.tmp 84)] #[33, 9] 85 Tryz.call21 (Cw d3.2.2.2.1.1 d3.2.2.2.1.2.1 d3.2.2.2.2.1 d3.2.2.2.2.2.1 (stT d3).1 (stT d3).2.1 (stT d3).2.2.1 (stT d3).2.2.2.1 (stT d3).2.2.2.2 b8 o8 (RdT.sp (Zh (dp1 (dp2 (dp2 (dp2 (Gd b0 g9)))))) e8) (RdT.sp (Zh (dp2 (dp2 (dp2 (dp2 (Gd b0 g9)))))) e8) b3 p2) ?_
   intro ai5 p3
   refine iR 3 10 [(78, (.tuple #[(.agg #[(sv b3.1), (sv b3.2.1), (iv b3.2.2.1)]), (bv b3.2.2.2)])), (86, (.agg #[(sv b3.1), (sv b3.2.1), (iv b3.2.2.1)])), (87, (bv b3.2.2.2))] ?_
   refine iS 11 ?_
   refine zA 37 (.agg #[(sv ([] : Bs)), (sv ([] : Bs)), (iv 0)]) 21 p3 ?_
   intro k2 ai6 p4
   refine iS 12 ?_
   refine zT 37 (.tmp 21) (.tmp 86) k2 0 8 (.agg #[(sv b3.1), (sv b3.2.1), (iv b3.2.2.1)]) #[(sv b3.1), (sv b3.2.1), (iv b3.2.2.1)] none p4 ?_
   intro ai7 f4
   refine iR 1 13 [(22, (bv b3.2.2.2))] ?_
   refine iF ?_
   refine aQ ?_
   refine At.join (fun ρ w => ∃ (h1 : Bool), Vq ρ [(2, (sv b8)), (3, (pt z 0)), (7, (bv a7)), (8, (pt b9 0)), (9, (iv g.2.2.2.2.2.1)), (10, (iv g.2.2.2.2.2.2)), (11, (pt c0 0)), (12, (iv j.2.2.2.2.2.1)), (13, (iv j.2.2.2.2.2.2)), (14, (pt d4 0)), (15, (bv s.2.2.2.2.2)), (16, (pt d5 0)), (17, (bv u.2.2.2.2.2)), (18, (iv d1)), (95, (bv h1))] ∧ SP [] w0 w [Qs z 24 #[(iv m), (iv o), (iv p), (iv q), (lv A6 (mT d9) c7)], Da a8 a9 a5, Qs b9 24 #[(iv g.1), (iv g.2.1), (iv g.2.2.1), (iv g.2.2.2.1), (lv a8 (mT a5) a9)], E60, Qs c0 24 #[(iv j.1), (iv j.2.1), (iv j.2.2.1), (iv j.2.2.2.1), (lv b4 b1 b5)], Qs d4 33 #[(sv s.1), (iv s.2.1), (iv s.2.2.1), (lv c2 s.2.2.2.1 c3), (lv c4 s.2.2.2.2.1 c5)], Qs d5 33 #[(sv u.1), (iv u.2.1), (iv u.2.2.1), (lv c6 u.2.2.2.1 c8), (lv c9 u.2.2.2.2.1 d0)]] ∧ Xx (Vk m o p q (mT d9) b8 a7 g (mT a5) j b1 s u f6) d1 h1 = some r) ?_ ?_
   ·refine aR ?_
    refine jL 1 37 19 j8 0 7 (.agg #[(sv b2.1), (sv b2.2.1), (iv b2.2.2.1)]) 88 f4 rfl ?_
    refine jL 2 37 21 k2 0 8 (.agg #[(sv b3.1), (sv b3.2.1), (iv b3.2.2.1)]) 89 f4 rfl ?_
    refine iS 3 ?_
    refine Mb (op := .neq) (T := 37) (T' := 37) (x := (.tmp 88)) (y := (.tmp 89)) (vx := (.agg #[(sv b2.1), (sv b2.2.1), (iv b2.2.2.1)])) (vy := (.agg #[(sv b3.1), (sv b3.2.1), (iv b3.2.2.1)])) (v := (bv (!((b2.1 == b3.1) && ((b2.2.1 == b3.2.1) && (b2.2.2.1 == b3.2.2.1)))))) (d := (some 90)) (k := 2) K rfl K K (by clear H; intro w; simp only [H5]; go_simp; simp only [H4, Ha, Ki, H5, Bool.and_true] <;> simp only [Bool.not_and]) ?_
    refine iR 1 4 [(91, (bv (!((b2.1 == b3.1) && ((b2.2.1 == b3.2.1) && (b2.2.2.1 == b3.2.2.1))))))] ?_
    refine gD 91 H (fun H => ?_) fun H => ?_
    ·refine iR 4 8 (uN 92 3 [(95, (bv true))]) ?_
     refine iF ?_
     exact ⟨true, ⟨K, K, K, K, K, K, K, K, K, K, K, K, K, K, K, trivial⟩, SP.sel f4 [0, 1, 2, 3, 4, 5, 6] rfl rfl, H⟩
    refine iR 4 8 [(92, (bv b2.2.2.2)), (93, (bv b3.2.2.2)), (94, (bv (!(b2.2.2.2 == b3.2.2.2)))), (95, (bv (!(b2.2.2.2 == b3.2.2.2))))] ?_
    refine iF ?_
    exact ⟨(!(b2.2.2.2 == b3.2.2.2)), ⟨K, K, K, K, K, K, K, K, K, K, K, K, K, K, K, trivial⟩, SP.sel f4 [0, 1, 2, 3, 4, 5, 6] rfl rfl, H⟩
   rintro ρ ai8 ⟨h1, hk, k3, H⟩
   unfold Xx at H
   first | refine At.known _ hk ?_ | rw [← Qo hk]
   refine cD 95 H (fun H => ?_) fun H => ?_
   ·refine aC ?_
    refine iR 1 1 [(6, (bv false))] ?_
    refine iF ?_
    refine At.ret K ?_
    refine ⟨(bv false), K, ?_⟩
    obtain rfl := Qe H
    exact ⟨rfl, SP.sel k3 [] rfl rfl⟩
   refine At.skip K ?_
   refine aR ?_
   refine iR 3 3 [(66, (iv d1)), (67, (iv (IntKind.wrap .i64 (d1 + 1)))), (18, (iv (IntKind.wrap .i64 (d1 + 1))))] ?_
   refine iF ?_
   exact ⟨(IntKind.wrap .i64 (d1 + 1)), ⟨K, K, K, K, K, K, K, K, K, K, K, K, K, K, trivial⟩, SP.sel k3 [0, 1, 2, 3, 4, 5, 6] rfl rfl, H⟩
  refine At.exit K (id := 0) K ?_
  refine aQ ?_
  refine At.join (fun ρ w => ∃ (f5 : Bool), Vq ρ [(6, (bv f5))] ∧ SP [] w0 w [] ∧ Va (Vk m o p q (mT d9) b8 a7 g (mT a5) j b1 s u f6) f5 = some r) ?_ ?_
  ·rcases Bool.eq_false_or_eq_true a7 with a4 | a4
   ·have H := ct H a4
    obtain ⟨a0, e5, H⟩ := Qd H
    obtain ⟨a1, e6, H⟩ := Qd H
    rcases Bool.eq_false_or_eq_true (a0 == a1) with a6 | a6
    ·have H := ct H a6
     obtain ⟨a2, e9, H⟩ := Qd H
     obtain ⟨a3, f0, H⟩ := Qd H
     rcases Bool.eq_false_or_eq_true (a2 == a3) with b7 | b7
     ·have H := ct H b7
      obtain ⟨b6, f1, H⟩ := Qd H
      rcases Bool.eq_false_or_eq_true b6 with c1 | c1
      ·have H := ct H c1
       rcases Bool.eq_false_or_eq_true (g.2.2.2.2.2.1 == j.2.2.2.2.2.1) with d6 | d6
       ·have H := ct H d6
        rcases Bool.eq_false_or_eq_true (g.2.2.2.2.2.2 == j.2.2.2.2.2.2) with e0 | e0
        ·have H := ct H e0
         obtain ⟨e1, k4, H⟩ := Qd H
         rcases Bool.eq_false_or_eq_true e1 with e4 | e4
         ·have H := ct H e4
          refine aG [GEq (bv a7), GEq (bv a7), GEq (.agg #[(iv m), (iv o), (iv p), (iv q), (lv A6 (mT d9) c7)]), GEq (bv a0), GEq (.agg #[(iv m), (iv o), (iv p), (iv q), (lv A6 (mT d9) c7)]), GEq (bv a1), GEq (bv (a0 == a1)), GEq (bv (a0 == a1)), GEq (bv (a0 == a1)), GEq (.agg #[(iv m), (iv o), (iv p), (iv q), (lv A6 (mT d9) c7)]), GEq (sv a2), GEq (.agg #[(iv m), (iv o), (iv p), (iv q), (lv A6 (mT d9) c7)]), GEq (sv a3), GEq (bv (a2 == a3)), GEq (bv (a2 == a3)), GEq (bv (a2 == a3)), GEq (.agg #[(iv g.1), (iv g.2.1), (iv g.2.2.1), (iv g.2.2.2.1), (lv a8 (mT a5) a9)]), GEq (.agg #[(iv j.1), (iv j.2.1), (iv j.2.2.1), (iv j.2.2.2.1), (lv b4 b1 b5)]), GEq (bv b6), GEq (bv b6), GEq (bv b6), GEq (iv g.2.2.2.2.2.1), GEq (iv j.2.2.2.2.2.1), GEq (bv (g.2.2.2.2.2.1 == j.2.2.2.2.2.1)), GEq (bv (g.2.2.2.2.2.1 == j.2.2.2.2.2.1)), GEq (bv (g.2.2.2.2.2.1 == j.2.2.2.2.2.1)), GEq (iv g.2.2.2.2.2.2), GEq (iv j.2.2.2.2.2.2), GEq (bv (g.2.2.2.2.2.2 == j.2.2.2.2.2.2)), GEq (bv (g.2.2.2.2.2.2 == j.2.2.2.2.2.2)), GEq (bv (g.2.2.2.2.2.2 == j.2.2.2.2.2.2)), GEq (.agg #[(sv s.1), (iv s.2.1), (iv s.2.2.1), (lv c2 s.2.2.2.1 c3), (lv c4 s.2.2.2.2.1 c5)]), GEq (.agg #[(sv u.1), (iv u.2.1), (iv u.2.2.1), (lv c6 u.2.2.2.1 c8), (lv c9 u.2.2.2.2.1 d0)]), GEq (bv e1), GEq (bv e1), GEq (bv e1), GEq (bv s.2.2.2.2.2), GEq (bv u.2.2.2.2.2), GEq (bv (s.2.2.2.2.2 == u.2.2.2.2.2)), GEq (bv (s.2.2.2.2.2 == u.2.2.2.2.2)), GEq (bv (s.2.2.2.2.2 == u.2.2.2.2.2))] [3, 5, 10, 12, 18, 33] (tG [] w0 [Qs z 24 #[(iv m), (iv o), (iv p), (iv q), (lv A6 (mT d9) c7)], Da a8 a9 a5, Qs b9 24 #[(iv g.1), (iv g.2.1), (iv g.2.2.1), (iv g.2.2.2.1), (lv a8 (mT a5) a9)], E60, Qs c0 24 #[(iv j.1), (iv j.2.1), (iv j.2.2.1), (iv j.2.2.2.1), (lv b4 b1 b5)], Qs d4 33 #[(sv s.1), (iv s.2.1), (iv s.2.2.1), (lv c2 s.2.2.2.1 c3), (lv c4 s.2.2.2.2.1 c5)], Qs d5 33 #[(sv u.1), (iv u.2.1), (iv u.2.2.1), (lv c6 u.2.2.2.1 c8), (lv c9 u.2.2.2.2.1 d0)]] [([], []), ([3], [(bv a0)]), ([3, 5], [(bv a0), (bv a1)]), ([3, 5, 10], [(bv a0), (bv a1), (sv a2)]), ([3, 5, 10, 12], [(bv a0), (bv a1), (sv a2), (sv a3)]), ([3, 5, 10, 12, 18], [(bv a0), (bv a1), (sv a2), (sv a3), (bv b6)]), ([3, 5, 10, 12, 18, 33], [(bv a0), (bv a1), (sv a2), (sv a3), (bv b6), (bv e1)])]) 41 6 ⟨trivial, SP.drew d7⟩ ?_ ?_
          iterate 41 refine And.intro ?_ ?_
          exact trivial
          ·exact oU (hC (hS 7 (bv a7)) (h0))
          ·exact oU (hC (hA 0 96) (h0))
          ·refine oL 0 ?_
           rintro P W hs a ⟨-, p5⟩
           refine kM (kc (kS hs 3 (pt z 0)) (kc (eb (kA a 1 97) a4) k0)) fun f => ?_
           refine sL 24 3 z 0 0 (.agg #[(iv m), (iv o), (iv p), (iv q), (lv A6 (mT d9) c7)]) 98 p5 rfl ?_
           exact eK f
          ·refine oH 0 1 ?_
           rintro P W hs a ⟨-, h2⟩
           refine kM (kc (kA a 2 98) (kc (eb (kA a 1 97) a4) k0)) fun f => ?_
           refine cS h2 22 #[(.tmp 98)] #[24] 99 Tryz.call22 (Za A6 c7 m o p q d9 W (Q4 hL (SP.keeps h2)) (Dp.sp b0 h2) a0 e5) ?_
           intro ai9 p6
           refine ⟨_, Qa f, rfl, ?_⟩
           exact (ai (ai rfl (trivial)) p6)
          ·refine Owe.light K [0, 1] K (Qc ?_ (Qc ?_ Qq))
           ·rintro P W hs a ⟨-, p7⟩
            refine kM (kc (kS hs 3 (pt z 0)) (kc (eb (kA a 1 97) a4) k0)) fun f => ?_
            refine sL 24 3 z 0 0 (.agg #[(iv m), (iv o), (iv p), (iv q), (lv A6 (mT d9) c7)]) 100 p7 rfl ?_
            exact eK f
           rintro P W hs a ⟨⟨aj0, -⟩, p8⟩
           refine kM (kc (kS hs 3 (pt z 0)) (kc (eb (kA a 1 97) a4) k0)) fun f => ?_
           refine sL 24 3 z 0 0 (.agg #[(iv m), (iv o), (iv p), (iv q), (lv A6 (mT d9) c7)]) 100 p8 rfl ?_
           exact eK f
          ·refine oH 1 2 ?_
           rintro P W hs a ⟨⟨p9, -⟩, k5⟩
           refine kM (kc (kA a 4 100) (kc (eb (kA a 1 97) a4) k0)) fun f => ?_
           refine cS k5 23 #[(.tmp 100)] #[24] 101 Tryz.call23 (Vx A6 c7 m o p q d9 W (Dp.sp b0 k5) a1 e6) ?_
           intro aj1 q0
           refine ⟨_, Qa f, rfl, ?_⟩
           exact (ai (ai p9 (ai rfl (trivial))) q0)
          ·exact oU (hC (hA 3 99) (hC (hA 5 101) (hC (hB 1 97 a4) (h0))))
          ·exact oU (hC (hB 1 97 a4) (hC (hA 6 102) (h0)))
          ·exact oU (hC (hA 7 103) (h0))
          ·refine oL 2 ?_
           rintro P W hs a ⟨⟨aj2, aj3, -⟩, q1⟩
           refine kM (kc (kS hs 3 (pt z 0)) (kc (eb (kA a 8 104) a6) k0)) fun f => ?_
           refine sL 24 3 z 0 0 (.agg #[(iv m), (iv o), (iv p), (iv q), (lv A6 (mT d9) c7)]) 105 q1 rfl ?_
           exact eK f
          ·refine oH 2 3 ?_
           rintro P W hs a ⟨⟨q2, q3, -⟩, h3⟩
           refine kM (kc (kA a 9 105) (kc (eb (kA a 8 104) a6) k0)) fun f => ?_
           refine cS h3 24 #[(.tmp 105)] #[24] 106 Tryz.call24 (Y9 A6 c7 m o p q d9 W (Q4 hL (SP.keeps h3)) (Dp.sp b0 h3) a2 e9) ?_
           intro aj4 q4
           refine ⟨_, Qa f, rfl, ?_⟩
           exact (ai (ai q2 (ai q3 (ai rfl (trivial)))) q4)
          ·refine Owe.light K [2, 3] K (Qc ?_ (Qc ?_ Qq))
           ·rintro P W hs a ⟨⟨aj5, aj6, -⟩, q5⟩
            refine kM (kc (kS hs 3 (pt z 0)) (kc (eb (kA a 8 104) a6) k0)) fun f => ?_
            refine sL 24 3 z 0 0 (.agg #[(iv m), (iv o), (iv p), (iv q), (lv A6 (mT d9) c7)]) 107 q5 rfl ?_
            exact eK f
           rintro P W hs a ⟨⟨aj7, aj8, aj9, -⟩, q6⟩
           refine kM (kc (kS hs 3 (pt z 0)) (kc (eb (kA a 8 104) a6) k0)) fun f => ?_
           refine sL 24 3 z 0 0 (.agg #[(iv m), (iv o), (iv p), (iv q), (lv A6 (mT d9) c7)]) 107 q6 rfl ?_
           exact eK f
          ·refine oH 3 4 ?_
           rintro P W hs a ⟨⟨q7, q8, q9, -⟩, k6⟩
           refine kM (kc (kA a 11 107) (kc (eb (kA a 8 104) a6) k0)) fun f => ?_
           refine cS k6 25 #[(.tmp 107)] #[24] 108 Tryz.call25 (Xz A6 c7 m o p q d9 W (Dp.sp b0 k6) a3 f0) ?_
           intro ak0 r0
           refine ⟨_, Qa f, rfl, ?_⟩
           exact (ai (ai q7 (ai q8 (ai q9 (ai rfl (trivial))))) r0)
          ·refine oL 4 ?_
           rintro P W hs a ⟨⟨ak1, ak2, r1, r2, -⟩, ak3⟩
           have e2 : P 106 = (sv a2) := (Qr (h := 10) K).symm.trans r1
           have e3 : P 108 = (sv a3) := (Qr (h := 12) K).symm.trans r2
           refine kM (kc e2 (kc e3 (kc (eb (kA a 8 104) a6) k0))) fun f => ?_
           refine zO 9 (.tmp 106) (.tmp 108) a2 a3 109 ?_
           exact eK f
          ·exact oU (hC (hB 8 104 a6) (hC (hA 13 109) (h0)))
          ·exact oU (hC (hA 14 110) (h0))
          ·refine oL 4 ?_
           rintro P W hs a ⟨⟨ak4, ak5, ak6, ak7, -⟩, r3⟩
           refine kM (kc (kS hs 8 (pt b9 0)) (kc (eb (kA a 15 111) b7) k0)) fun f => ?_
           refine sL 24 8 b9 0 2 (.agg #[(iv g.1), (iv g.2.1), (iv g.2.2.1), (iv g.2.2.2.1), (lv a8 (mT a5) a9)]) 112 r3 rfl ?_
           exact eK f
          ·refine oL 4 ?_
           rintro P W hs a ⟨⟨ak8, ak9, al0, al1, -⟩, r4⟩
           refine kM (kc (kS hs 11 (pt c0 0)) (kc (eb (kA a 15 111) b7) k0)) fun f => ?_
           refine sL 24 11 c0 0 4 (.agg #[(iv j.1), (iv j.2.1), (iv j.2.2.1), (iv j.2.2.2.1), (lv b4 b1 b5)]) 113 r4 rfl ?_
           exact eK f
          ·refine oH 4 5 ?_
           rintro P W hs a ⟨⟨r5, r6, r7, r8, -⟩, f7⟩
           refine kM (kc (kA a 16 112) (kc (kA a 17 113) (kc (eb (kA a 15 111) b7) k0))) fun f => ?_
           refine cS f7 26 #[(.tmp 112), (.tmp 113)] #[24, 24] 114 Tryz.call26 (Jl a8 a9 b4 b5 g.1 g.2.1 g.2.2.1 g.2.2.2.1 (mT a5) j.1 j.2.1 j.2.2.1 j.2.2.2.1 b1 W ⟨a5, rfl, (D6 (SP.get f7 (i := 1) rfl))⟩ (C5 e7 (SP.keeps f7) (SP.get f7 (i := 3) rfl)) b6 f1) ?_
           intro al2 r9
           refine ⟨_, Qa f, rfl, ?_⟩
           exact (ai (ai r5 (ai r6 (ai r7 (ai r8 (ai rfl (trivial)))))) r9)
          ·exact oU (hC (hB 15 111 b7) (hC (hA 18 114) (h0)))
          ·exact oU (hC (hA 19 115) (h0))
          ·exact oU (hC (hS 9 (iv g.2.2.2.2.2.1)) (hC (hB 20 116 c1) (h0)))
          ·exact oU (hC (hS 12 (iv j.2.2.2.2.2.1)) (hC (hB 20 116 c1) (h0)))
          ·exact oU (hC (hA 21 117) (hC (hA 22 118) (hC (hB 20 116 c1) (h0))))
          ·exact oU (hC (hB 20 116 c1) (hC (hA 23 119) (h0)))
          ·exact oU (hC (hA 24 120) (h0))
          ·exact oU (hC (hS 10 (iv g.2.2.2.2.2.2)) (hC (hB 25 121 d6) (h0)))
          ·exact oU (hC (hS 13 (iv j.2.2.2.2.2.2)) (hC (hB 25 121 d6) (h0)))
          ·exact oU (hC (hA 26 122) (hC (hA 27 123) (hC (hB 25 121 d6) (h0))))
          ·exact oU (hC (hB 25 121 d6) (hC (hA 28 124) (h0)))
          ·exact oU (hC (hA 29 125) (h0))
          ·refine oL 5 ?_
           rintro P W hs a ⟨⟨al3, al4, al5, al6, al7, -⟩, s0⟩
           refine kM (kc (kS hs 14 (pt d4 0)) (kc (eb (kA a 30 126) e0) k0)) fun f => ?_
           refine sL 33 14 d4 0 5 (.agg #[(sv s.1), (iv s.2.1), (iv s.2.2.1), (lv c2 s.2.2.2.1 c3), (lv c4 s.2.2.2.2.1 c5)]) 127 s0 rfl ?_
           exact eK f
          ·refine oL 5 ?_
           rintro P W hs a ⟨⟨al8, al9, am0, am1, am2, -⟩, s1⟩
           refine kM (kc (kS hs 16 (pt d5 0)) (kc (eb (kA a 30 126) e0) k0)) fun f => ?_
           refine sL 33 16 d5 0 6 (.agg #[(sv u.1), (iv u.2.1), (iv u.2.2.1), (lv c6 u.2.2.2.1 c8), (lv c9 u.2.2.2.2.1 d0)]) 128 s1 rfl ?_
           exact eK f
          ·refine oH 5 6 ?_
           rintro P W hs a ⟨⟨s2, s3, s4, s5, s6, -⟩, f2⟩
           refine kM (kc (kA a 31 127) (kc (kA a 32 128) (kc (eb (kA a 30 126) e0) k0))) fun f => ?_
           refine cS f2 27 #[(.tmp 127), (.tmp 128)] #[33, 33] 129 Tryz.call27 (Uz c2 c3 c4 c5 c6 c8 c9 d0 s.1 s.2.1 s.2.2.1 s.2.2.2.1 s.2.2.2.2.1 u.1 u.2.1 u.2.2.1 u.2.2.2.1 u.2.2.2.2.1 W (RdT.sp (j0 w0 (Below.refl _ _)) f2) (RdT.sp (j1 w0 (Below.refl _ _)) f2) (RdT.sp (j3 w0 (Below.refl _ _)) f2) (RdT.sp (j4 w0 (Below.refl _ _)) f2) e1 k4) ?_
           intro am3 s7
           refine ⟨_, Qa f, rfl, ?_⟩
           exact (ai (ai s2 (ai s3 (ai s4 (ai s5 (ai s6 (ai rfl (trivial))))))) s7)
          ·exact oU (hC (hB 30 126 e0) (hC (hA 33 129) (h0)))
          ·exact oU (hC (hA 34 130) (h0))
          ·exact oU (hC (hS 15 (bv s.2.2.2.2.2)) (hC (hB 35 131 e4) (h0)))
          ·exact oU (hC (hS 17 (bv u.2.2.2.2.2)) (hC (hB 35 131 e4) (h0)))
          ·exact oU (hC (hA 36 132) (hC (hA 37 133) (hC (hB 35 131 e4) (h0))))
          ·exact oU (hC (hB 35 131 e4) (hC (hA 38 134) (h0)))
          ·exact oU (hC (hA 39 135) (h0))
          rintro P am4 hs hf ⟨⟨am5, am6, am7, am8, am9, an0, -⟩, s8⟩
          refine Qy _ (kc (kF hf 40 6) k0) ?_
          exact ⟨(s.2.2.2.2.2 == u.2.2.2.2.2), ⟨K, trivial⟩, SP.sel s8 [] rfl rfl, H⟩
         have H := cf H e4
         refine aG [GEq (bv a7), GEq (bv a7), GEq (.agg #[(iv m), (iv o), (iv p), (iv q), (lv A6 (mT d9) c7)]), GEq (bv a0), GEq (.agg #[(iv m), (iv o), (iv p), (iv q), (lv A6 (mT d9) c7)]), GEq (bv a1), GEq (bv (a0 == a1)), GEq (bv (a0 == a1)), GEq (bv (a0 == a1)), GEq (.agg #[(iv m), (iv o), (iv p), (iv q), (lv A6 (mT d9) c7)]), GEq (sv a2), GEq (.agg #[(iv m), (iv o), (iv p), (iv q), (lv A6 (mT d9) c7)]), GEq (sv a3), GEq (bv (a2 == a3)), GEq (bv (a2 == a3)), GEq (bv (a2 == a3)), GEq (.agg #[(iv g.1), (iv g.2.1), (iv g.2.2.1), (iv g.2.2.2.1), (lv a8 (mT a5) a9)]), GEq (.agg #[(iv j.1), (iv j.2.1), (iv j.2.2.1), (iv j.2.2.2.1), (lv b4 b1 b5)]), GEq (bv b6), GEq (bv b6), GEq (bv b6), GEq (iv g.2.2.2.2.2.1), GEq (iv j.2.2.2.2.2.1), GEq (bv (g.2.2.2.2.2.1 == j.2.2.2.2.2.1)), GEq (bv (g.2.2.2.2.2.1 == j.2.2.2.2.2.1)), GEq (bv (g.2.2.2.2.2.1 == j.2.2.2.2.2.1)), GEq (iv g.2.2.2.2.2.2), GEq (iv j.2.2.2.2.2.2), GEq (bv (g.2.2.2.2.2.2 == j.2.2.2.2.2.2)), GEq (bv (g.2.2.2.2.2.2 == j.2.2.2.2.2.2)), GEq (bv (g.2.2.2.2.2.2 == j.2.2.2.2.2.2)), GEq (.agg #[(sv s.1), (iv s.2.1), (iv s.2.2.1), (lv c2 s.2.2.2.1 c3), (lv c4 s.2.2.2.2.1 c5)]), GEq (.agg #[(sv u.1), (iv u.2.1), (iv u.2.2.1), (lv c6 u.2.2.2.1 c8), (lv c9 u.2.2.2.2.1 d0)]), GEq (bv e1), GEq (bv e1), GEq (bv e1), GEq undef, GEq undef, GEq undef, GEq (bv false), GEq (bv false)] [3, 5, 10, 12, 18, 33] (tG [] w0 [Qs z 24 #[(iv m), (iv o), (iv p), (iv q), (lv A6 (mT d9) c7)], Da a8 a9 a5, Qs b9 24 #[(iv g.1), (iv g.2.1), (iv g.2.2.1), (iv g.2.2.2.1), (lv a8 (mT a5) a9)], E60, Qs c0 24 #[(iv j.1), (iv j.2.1), (iv j.2.2.1), (iv j.2.2.2.1), (lv b4 b1 b5)], Qs d4 33 #[(sv s.1), (iv s.2.1), (iv s.2.2.1), (lv c2 s.2.2.2.1 c3), (lv c4 s.2.2.2.2.1 c5)], Qs d5 33 #[(sv u.1), (iv u.2.1), (iv u.2.2.1), (lv c6 u.2.2.2.1 c8), (lv c9 u.2.2.2.2.1 d0)]] [([], []), ([3], [(bv a0)]), ([3, 5], [(bv a0), (bv a1)]), ([3, 5, 10], [(bv a0), (bv a1), (sv a2)]), ([3, 5, 10, 12], [(bv a0), (bv a1), (sv a2), (sv a3)]), ([3, 5, 10, 12, 18], [(bv a0), (bv a1), (sv a2), (sv a3), (bv b6)]), ([3, 5, 10, 12, 18, 33], [(bv a0), (bv a1), (sv a2), (sv a3), (bv b6), (bv e1)])]) 41 6 ⟨trivial, SP.drew d7⟩ ?_ ?_
         iterate 41 refine And.intro ?_ ?_
         exact trivial
         ·exact oU (hC (hS 7 (bv a7)) (h0))
         ·exact oU (hC (hA 0 96) (h0))
         ·refine oL 0 ?_
          rintro P W hs a ⟨-, s9⟩
          refine kM (kc (kS hs 3 (pt z 0)) (kc (eb (kA a 1 97) a4) k0)) fun f => ?_
          refine sL 24 3 z 0 0 (.agg #[(iv m), (iv o), (iv p), (iv q), (lv A6 (mT d9) c7)]) 98 s9 rfl ?_
          exact eK f
         ·refine oH 0 1 ?_
          rintro P W hs a ⟨-, h4⟩
          refine kM (kc (kA a 2 98) (kc (eb (kA a 1 97) a4) k0)) fun f => ?_
          refine cS h4 22 #[(.tmp 98)] #[24] 99 Tryz.call22 (Za A6 c7 m o p q d9 W (Q4 hL (SP.keeps h4)) (Dp.sp b0 h4) a0 e5) ?_
          intro an1 t0
          refine ⟨_, Qa f, rfl, ?_⟩
          exact (ai (ai rfl (trivial)) t0)
         ·refine Owe.light K [0, 1] K (Qc ?_ (Qc ?_ Qq))
          ·rintro P W hs a ⟨-, t1⟩
           refine kM (kc (kS hs 3 (pt z 0)) (kc (eb (kA a 1 97) a4) k0)) fun f => ?_
           refine sL 24 3 z 0 0 (.agg #[(iv m), (iv o), (iv p), (iv q), (lv A6 (mT d9) c7)]) 100 t1 rfl ?_
           exact eK f
          rintro P W hs a ⟨⟨an2, -⟩, t2⟩
          refine kM (kc (kS hs 3 (pt z 0)) (kc (eb (kA a 1 97) a4) k0)) fun f => ?_
          refine sL 24 3 z 0 0 (.agg #[(iv m), (iv o), (iv p), (iv q), (lv A6 (mT d9) c7)]) 100 t2 rfl ?_
          exact eK f
         ·refine oH 1 2 ?_
          rintro P W hs a ⟨⟨t3, -⟩, k7⟩
          refine kM (kc (kA a 4 100) (kc (eb (kA a 1 97) a4) k0)) fun f => ?_
          refine cS k7 23 #[(.tmp 100)] #[24] 101 Tryz.call23 (Vx A6 c7 m o p q d9 W (Dp.sp b0 k7) a1 e6) ?_
          intro an3 t4
          refine ⟨_, Qa f, rfl, ?_⟩
          exact (ai (ai t3 (ai rfl (trivial))) t4)
         ·exact oU (hC (hA 3 99) (hC (hA 5 101) (hC (hB 1 97 a4) (h0))))
         ·exact oU (hC (hB 1 97 a4) (hC (hA 6 102) (h0)))
         ·exact oU (hC (hA 7 103) (h0))
         ·refine oL 2 ?_
          rintro P W hs a ⟨⟨an4, an5, -⟩, t5⟩
          refine kM (kc (kS hs 3 (pt z 0)) (kc (eb (kA a 8 104) a6) k0)) fun f => ?_
          refine sL 24 3 z 0 0 (.agg #[(iv m), (iv o), (iv p), (iv q), (lv A6 (mT d9) c7)]) 105 t5 rfl ?_
          exact eK f
         ·refine oH 2 3 ?_
          rintro P W hs a ⟨⟨t6, t7, -⟩, h5⟩
          refine kM (kc (kA a 9 105) (kc (eb (kA a 8 104) a6) k0)) fun f => ?_
          refine cS h5 24 #[(.tmp 105)] #[24] 106 Tryz.call24 (Y9 A6 c7 m o p q d9 W (Q4 hL (SP.keeps h5)) (Dp.sp b0 h5) a2 e9) ?_
          intro an6 t8
          refine ⟨_, Qa f, rfl, ?_⟩
          exact (ai (ai t6 (ai t7 (ai rfl (trivial)))) t8)
         ·refine Owe.light K [2, 3] K (Qc ?_ (Qc ?_ Qq))
          ·rintro P W hs a ⟨⟨an7, an8, -⟩, t9⟩
           refine kM (kc (kS hs 3 (pt z 0)) (kc (eb (kA a 8 104) a6) k0)) fun f => ?_
           refine sL 24 3 z 0 0 (.agg #[(iv m), (iv o), (iv p), (iv q), (lv A6 (mT d9) c7)]) 107 t9 rfl ?_
           exact eK f
          rintro P W hs a ⟨⟨an9, ao0, ao1, -⟩, u0⟩
          refine kM (kc (kS hs 3 (pt z 0)) (kc (eb (kA a 8 104) a6) k0)) fun f => ?_
          refine sL 24 3 z 0 0 (.agg #[(iv m), (iv o), (iv p), (iv q), (lv A6 (mT d9) c7)]) 107 u0 rfl ?_
          exact eK f
         ·refine oH 3 4 ?_
          rintro P W hs a ⟨⟨u1, u2, u3, -⟩, k8⟩
          refine kM (kc (kA a 11 107) (kc (eb (kA a 8 104) a6) k0)) fun f => ?_
          refine cS k8 25 #[(.tmp 107)] #[24] 108 Tryz.call25 (Xz A6 c7 m o p q d9 W (Dp.sp b0 k8) a3 f0) ?_
          intro ao2 u4
          refine ⟨_, Qa f, rfl, ?_⟩
          exact (ai (ai u1 (ai u2 (ai u3 (ai rfl (trivial))))) u4)
         ·refine oL 4 ?_
          rintro P W hs a ⟨⟨ao3, ao4, u5, u6, -⟩, ao5⟩
          have e2 : P 106 = (sv a2) := (Qr (h := 10) K).symm.trans u5
          have e3 : P 108 = (sv a3) := (Qr (h := 12) K).symm.trans u6
          refine kM (kc e2 (kc e3 (kc (eb (kA a 8 104) a6) k0))) fun f => ?_
          refine zO 9 (.tmp 106) (.tmp 108) a2 a3 109 ?_
          exact eK f
         ·exact oU (hC (hB 8 104 a6) (hC (hA 13 109) (h0)))
         ·exact oU (hC (hA 14 110) (h0))
         ·refine oL 4 ?_
          rintro P W hs a ⟨⟨ao6, ao7, ao8, ao9, -⟩, u7⟩
          refine kM (kc (kS hs 8 (pt b9 0)) (kc (eb (kA a 15 111) b7) k0)) fun f => ?_
          refine sL 24 8 b9 0 2 (.agg #[(iv g.1), (iv g.2.1), (iv g.2.2.1), (iv g.2.2.2.1), (lv a8 (mT a5) a9)]) 112 u7 rfl ?_
          exact eK f
         ·refine oL 4 ?_
          rintro P W hs a ⟨⟨ap0, ap1, ap2, ap3, -⟩, u8⟩
          refine kM (kc (kS hs 11 (pt c0 0)) (kc (eb (kA a 15 111) b7) k0)) fun f => ?_
          refine sL 24 11 c0 0 4 (.agg #[(iv j.1), (iv j.2.1), (iv j.2.2.1), (iv j.2.2.2.1), (lv b4 b1 b5)]) 113 u8 rfl ?_
          exact eK f
         ·refine oH 4 5 ?_
          rintro P W hs a ⟨⟨u9, v0, v1, v2, -⟩, f8⟩
          refine kM (kc (kA a 16 112) (kc (kA a 17 113) (kc (eb (kA a 15 111) b7) k0))) fun f => ?_
          refine cS f8 26 #[(.tmp 112), (.tmp 113)] #[24, 24] 114 Tryz.call26 (Jl a8 a9 b4 b5 g.1 g.2.1 g.2.2.1 g.2.2.2.1 (mT a5) j.1 j.2.1 j.2.2.1 j.2.2.2.1 b1 W ⟨a5, rfl, (D6 (SP.get f8 (i := 1) rfl))⟩ (C5 e7 (SP.keeps f8) (SP.get f8 (i := 3) rfl)) b6 f1) ?_
          intro ap4 v3
          refine ⟨_, Qa f, rfl, ?_⟩
          exact (ai (ai u9 (ai v0 (ai v1 (ai v2 (ai rfl (trivial)))))) v3)
         ·exact oU (hC (hB 15 111 b7) (hC (hA 18 114) (h0)))
         ·exact oU (hC (hA 19 115) (h0))
         ·exact oU (hC (hS 9 (iv g.2.2.2.2.2.1)) (hC (hB 20 116 c1) (h0)))
         ·exact oU (hC (hS 12 (iv j.2.2.2.2.2.1)) (hC (hB 20 116 c1) (h0)))
         ·exact oU (hC (hA 21 117) (hC (hA 22 118) (hC (hB 20 116 c1) (h0))))
         ·exact oU (hC (hB 20 116 c1) (hC (hA 23 119) (h0)))
         ·exact oU (hC (hA 24 120) (h0))
         ·exact oU (hC (hS 10 (iv g.2.2.2.2.2.2)) (hC (hB 25 121 d6) (h0)))
         ·exact oU (hC (hS 13 (iv j.2.2.2.2.2.2)) (hC (hB 25 121 d6) (h0)))
         ·exact oU (hC (hA 26 122) (hC (hA 27 123) (hC (hB 25 121 d6) (h0))))
         ·exact oU (hC (hB 25 121 d6) (hC (hA 28 124) (h0)))
         ·exact oU (hC (hA 29 125) (h0))
         ·refine oL 5 ?_
          rintro P W hs a ⟨⟨ap5, ap6, ap7, ap8, ap9, -⟩, v4⟩
          refine kM (kc (kS hs 14 (pt d4 0)) (kc (eb (kA a 30 126) e0) k0)) fun f => ?_
          refine sL 33 14 d4 0 5 (.agg #[(sv s.1), (iv s.2.1), (iv s.2.2.1), (lv c2 s.2.2.2.1 c3), (lv c4 s.2.2.2.2.1 c5)]) 127 v4 rfl ?_
          exact eK f
         ·refine oL 5 ?_
          rintro P W hs a ⟨⟨aq0, aq1, aq2, aq3, aq4, -⟩, v5⟩
          refine kM (kc (kS hs 16 (pt d5 0)) (kc (eb (kA a 30 126) e0) k0)) fun f => ?_
          refine sL 33 16 d5 0 6 (.agg #[(sv u.1), (iv u.2.1), (iv u.2.2.1), (lv c6 u.2.2.2.1 c8), (lv c9 u.2.2.2.2.1 d0)]) 128 v5 rfl ?_
          exact eK f
         ·refine oH 5 6 ?_
          rintro P W hs a ⟨⟨v6, v7, v8, v9, w1, -⟩, f3⟩
          refine kM (kc (kA a 31 127) (kc (kA a 32 128) (kc (eb (kA a 30 126) e0) k0))) fun f => ?_
          refine cS f3 27 #[(.tmp 127), (.tmp 128)] #[33, 33] 129 Tryz.call27 (Uz c2 c3 c4 c5 c6 c8 c9 d0 s.1 s.2.1 s.2.2.1 s.2.2.2.1 s.2.2.2.2.1 u.1 u.2.1 u.2.2.1 u.2.2.2.1 u.2.2.2.2.1 W (RdT.sp (j0 w0 (Below.refl _ _)) f3) (RdT.sp (j1 w0 (Below.refl _ _)) f3) (RdT.sp (j3 w0 (Below.refl _ _)) f3) (RdT.sp (j4 w0 (Below.refl _ _)) f3) e1 k4) ?_
          intro aq5 w2
          refine ⟨_, Qa f, rfl, ?_⟩
          exact (ai (ai v6 (ai v7 (ai v8 (ai v9 (ai w1 (ai rfl (trivial))))))) w2)
         ·exact oU (hC (hB 30 126 e0) (hC (hA 33 129) (h0)))
         ·exact oU (hC (hA 34 130) (h0))
         iterate 3 exact oY (hC (hB 35 131 e4) (h0))
         ·exact oU (hC (hB 35 131 e4) (hC (hA 38 134) (h0)))
         ·exact oU (hC (hA 39 135) (h0))
         rintro P aq6 hs hf ⟨⟨aq7, aq8, aq9, ar0, ar1, ar2, -⟩, w3⟩
         refine Qy _ (kc (kF hf 40 6) k0) ?_
         exact ⟨false, ⟨K, trivial⟩, SP.sel w3 [] rfl rfl, H⟩
        have H := cf H e0
        refine aG [GEq (bv a7), GEq (bv a7), GEq (.agg #[(iv m), (iv o), (iv p), (iv q), (lv A6 (mT d9) c7)]), GEq (bv a0), GEq (.agg #[(iv m), (iv o), (iv p), (iv q), (lv A6 (mT d9) c7)]), GEq (bv a1), GEq (bv (a0 == a1)), GEq (bv (a0 == a1)), GEq (bv (a0 == a1)), GEq (.agg #[(iv m), (iv o), (iv p), (iv q), (lv A6 (mT d9) c7)]), GEq (sv a2), GEq (.agg #[(iv m), (iv o), (iv p), (iv q), (lv A6 (mT d9) c7)]), GEq (sv a3), GEq (bv (a2 == a3)), GEq (bv (a2 == a3)), GEq (bv (a2 == a3)), GEq (.agg #[(iv g.1), (iv g.2.1), (iv g.2.2.1), (iv g.2.2.2.1), (lv a8 (mT a5) a9)]), GEq (.agg #[(iv j.1), (iv j.2.1), (iv j.2.2.1), (iv j.2.2.2.1), (lv b4 b1 b5)]), GEq (bv b6), GEq (bv b6), GEq (bv b6), GEq (iv g.2.2.2.2.2.1), GEq (iv j.2.2.2.2.2.1), GEq (bv (g.2.2.2.2.2.1 == j.2.2.2.2.2.1)), GEq (bv (g.2.2.2.2.2.1 == j.2.2.2.2.2.1)), GEq (bv (g.2.2.2.2.2.1 == j.2.2.2.2.2.1)), GEq (iv g.2.2.2.2.2.2), GEq (iv j.2.2.2.2.2.2), GEq (bv (g.2.2.2.2.2.2 == j.2.2.2.2.2.2)), GEq (bv (g.2.2.2.2.2.2 == j.2.2.2.2.2.2)), GEq (bv (g.2.2.2.2.2.2 == j.2.2.2.2.2.2)), GEq undef, GEq undef, GEq undef, GEq (bv false), GEq (bv false), GEq undef, GEq undef, GEq undef, GEq (bv false), GEq (bv false)] [3, 5, 10, 12, 18] (tG [] w0 [Qs z 24 #[(iv m), (iv o), (iv p), (iv q), (lv A6 (mT d9) c7)], Da a8 a9 a5, Qs b9 24 #[(iv g.1), (iv g.2.1), (iv g.2.2.1), (iv g.2.2.2.1), (lv a8 (mT a5) a9)], E60, Qs c0 24 #[(iv j.1), (iv j.2.1), (iv j.2.2.1), (iv j.2.2.2.1), (lv b4 b1 b5)], Qs d4 33 #[(sv s.1), (iv s.2.1), (iv s.2.2.1), (lv c2 s.2.2.2.1 c3), (lv c4 s.2.2.2.2.1 c5)], Qs d5 33 #[(sv u.1), (iv u.2.1), (iv u.2.2.1), (lv c6 u.2.2.2.1 c8), (lv c9 u.2.2.2.2.1 d0)]] [([], []), ([3], [(bv a0)]), ([3, 5], [(bv a0), (bv a1)]), ([3, 5, 10], [(bv a0), (bv a1), (sv a2)]), ([3, 5, 10, 12], [(bv a0), (bv a1), (sv a2), (sv a3)]), ([3, 5, 10, 12, 18], [(bv a0), (bv a1), (sv a2), (sv a3), (bv b6)])]) 41 5 ⟨trivial, SP.drew d7⟩ ?_ ?_
        iterate 41 refine And.intro ?_ ?_
        exact trivial
        ·exact oU (hC (hS 7 (bv a7)) (h0))
        ·exact oU (hC (hA 0 96) (h0))
        ·refine oL 0 ?_
         rintro P W hs a ⟨-, w4⟩
         refine kM (kc (kS hs 3 (pt z 0)) (kc (eb (kA a 1 97) a4) k0)) fun f => ?_
         refine sL 24 3 z 0 0 (.agg #[(iv m), (iv o), (iv p), (iv q), (lv A6 (mT d9) c7)]) 98 w4 rfl ?_
         exact eK f
        ·refine oH 0 1 ?_
         rintro P W hs a ⟨-, h6⟩
         refine kM (kc (kA a 2 98) (kc (eb (kA a 1 97) a4) k0)) fun f => ?_
         refine cS h6 22 #[(.tmp 98)] #[24] 99 Tryz.call22 (Za A6 c7 m o p q d9 W (Q4 hL (SP.keeps h6)) (Dp.sp b0 h6) a0 e5) ?_
         intro ar3 w5
         refine ⟨_, Qa f, rfl, ?_⟩
         exact (ai (ai rfl (trivial)) w5)
        ·refine Owe.light K [0, 1] K (Qc ?_ (Qc ?_ Qq))
         ·rintro P W hs a ⟨-, w6⟩
          refine kM (kc (kS hs 3 (pt z 0)) (kc (eb (kA a 1 97) a4) k0)) fun f => ?_
          refine sL 24 3 z 0 0 (.agg #[(iv m), (iv o), (iv p), (iv q), (lv A6 (mT d9) c7)]) 100 w6 rfl ?_
          exact eK f
         rintro P W hs a ⟨⟨ar4, -⟩, w7⟩
         refine kM (kc (kS hs 3 (pt z 0)) (kc (eb (kA a 1 97) a4) k0)) fun f => ?_
         refine sL 24 3 z 0 0 (.agg #[(iv m), (iv o), (iv p), (iv q), (lv A6 (mT d9) c7)]) 100 w7 rfl ?_
         exact eK f
        ·refine oH 1 2 ?_
         rintro P W hs a ⟨⟨w8, -⟩, k9⟩
         refine kM (kc (kA a 4 100) (kc (eb (kA a 1 97) a4) k0)) fun f => ?_
         refine cS k9 23 #[(.tmp 100)] #[24] 101 Tryz.call23 (Vx A6 c7 m o p q d9 W (Dp.sp b0 k9) a1 e6) ?_
         intro ar5 w9
         refine ⟨_, Qa f, rfl, ?_⟩
         exact (ai (ai w8 (ai rfl (trivial))) w9)
        ·exact oU (hC (hA 3 99) (hC (hA 5 101) (hC (hB 1 97 a4) (h0))))
        ·exact oU (hC (hB 1 97 a4) (hC (hA 6 102) (h0)))
        ·exact oU (hC (hA 7 103) (h0))
        ·refine oL 2 ?_
         rintro P W hs a ⟨⟨ar6, ar7, -⟩, x0⟩
         refine kM (kc (kS hs 3 (pt z 0)) (kc (eb (kA a 8 104) a6) k0)) fun f => ?_
         refine sL 24 3 z 0 0 (.agg #[(iv m), (iv o), (iv p), (iv q), (lv A6 (mT d9) c7)]) 105 x0 rfl ?_
         exact eK f
        ·refine oH 2 3 ?_
         rintro P W hs a ⟨⟨x1, x2, -⟩, h7⟩
         refine kM (kc (kA a 9 105) (kc (eb (kA a 8 104) a6) k0)) fun f => ?_
         refine cS h7 24 #[(.tmp 105)] #[24] 106 Tryz.call24 (Y9 A6 c7 m o p q d9 W (Q4 hL (SP.keeps h7)) (Dp.sp b0 h7) a2 e9) ?_
         intro ar8 x3
         refine ⟨_, Qa f, rfl, ?_⟩
         exact (ai (ai x1 (ai x2 (ai rfl (trivial)))) x3)
        ·refine Owe.light K [2, 3] K (Qc ?_ (Qc ?_ Qq))
         ·rintro P W hs a ⟨⟨ar9, as0, -⟩, x4⟩
          refine kM (kc (kS hs 3 (pt z 0)) (kc (eb (kA a 8 104) a6) k0)) fun f => ?_
          refine sL 24 3 z 0 0 (.agg #[(iv m), (iv o), (iv p), (iv q), (lv A6 (mT d9) c7)]) 107 x4 rfl ?_
          exact eK f
         rintro P W hs a ⟨⟨as1, as2, as3, -⟩, x5⟩
         refine kM (kc (kS hs 3 (pt z 0)) (kc (eb (kA a 8 104) a6) k0)) fun f => ?_
         refine sL 24 3 z 0 0 (.agg #[(iv m), (iv o), (iv p), (iv q), (lv A6 (mT d9) c7)]) 107 x5 rfl ?_
         exact eK f
        ·refine oH 3 4 ?_
         rintro P W hs a ⟨⟨x6, x7, x8, -⟩, l0⟩
         refine kM (kc (kA a 11 107) (kc (eb (kA a 8 104) a6) k0)) fun f => ?_
         refine cS l0 25 #[(.tmp 107)] #[24] 108 Tryz.call25 (Xz A6 c7 m o p q d9 W (Dp.sp b0 l0) a3 f0) ?_
         intro as4 x9
         refine ⟨_, Qa f, rfl, ?_⟩
         exact (ai (ai x6 (ai x7 (ai x8 (ai rfl (trivial))))) x9)
        ·refine oL 4 ?_
         rintro P W hs a ⟨⟨as5, as6, y0, y1, -⟩, as7⟩
         have e2 : P 106 = (sv a2) := (Qr (h := 10) K).symm.trans y0
         have e3 : P 108 = (sv a3) := (Qr (h := 12) K).symm.trans y1
         refine kM (kc e2 (kc e3 (kc (eb (kA a 8 104) a6) k0))) fun f => ?_
         refine zO 9 (.tmp 106) (.tmp 108) a2 a3 109 ?_
         exact eK f
        ·exact oU (hC (hB 8 104 a6) (hC (hA 13 109) (h0)))
        ·exact oU (hC (hA 14 110) (h0))
        ·refine oL 4 ?_
         rintro P W hs a ⟨⟨as8, as9, at0, at1, -⟩, y2⟩
         refine kM (kc (kS hs 8 (pt b9 0)) (kc (eb (kA a 15 111) b7) k0)) fun f => ?_
         refine sL 24 8 b9 0 2 (.agg #[(iv g.1), (iv g.2.1), (iv g.2.2.1), (iv g.2.2.2.1), (lv a8 (mT a5) a9)]) 112 y2 rfl ?_
         exact eK f
        ·refine oL 4 ?_
         rintro P W hs a ⟨⟨at2, at3, at4, at5, -⟩, y3⟩
         refine kM (kc (kS hs 11 (pt c0 0)) (kc (eb (kA a 15 111) b7) k0)) fun f => ?_
         refine sL 24 11 c0 0 4 (.agg #[(iv j.1), (iv j.2.1), (iv j.2.2.1), (iv j.2.2.2.1), (lv b4 b1 b5)]) 113 y3 rfl ?_
         exact eK f
        ·refine oH 4 5 ?_
         rintro P W hs a ⟨⟨y4, y5, y6, y7, -⟩, f9⟩
         refine kM (kc (kA a 16 112) (kc (kA a 17 113) (kc (eb (kA a 15 111) b7) k0))) fun f => ?_
         refine cS f9 26 #[(.tmp 112), (.tmp 113)] #[24, 24] 114 Tryz.call26 (Jl a8 a9 b4 b5 g.1 g.2.1 g.2.2.1 g.2.2.2.1 (mT a5) j.1 j.2.1 j.2.2.1 j.2.2.2.1 b1 W ⟨a5, rfl, (D6 (SP.get f9 (i := 1) rfl))⟩ (C5 e7 (SP.keeps f9) (SP.get f9 (i := 3) rfl)) b6 f1) ?_
         intro at6 y8
         refine ⟨_, Qa f, rfl, ?_⟩
         exact (ai (ai y4 (ai y5 (ai y6 (ai y7 (ai rfl (trivial)))))) y8)
        ·exact oU (hC (hB 15 111 b7) (hC (hA 18 114) (h0)))
        ·exact oU (hC (hA 19 115) (h0))
        ·exact oU (hC (hS 9 (iv g.2.2.2.2.2.1)) (hC (hB 20 116 c1) (h0)))
        ·exact oU (hC (hS 12 (iv j.2.2.2.2.2.1)) (hC (hB 20 116 c1) (h0)))
        ·exact oU (hC (hA 21 117) (hC (hA 22 118) (hC (hB 20 116 c1) (h0))))
        ·exact oU (hC (hB 20 116 c1) (hC (hA 23 119) (h0)))
        ·exact oU (hC (hA 24 120) (h0))
        ·exact oU (hC (hS 10 (iv g.2.2.2.2.2.2)) (hC (hB 25 121 d6) (h0)))
        ·exact oU (hC (hS 13 (iv j.2.2.2.2.2.2)) (hC (hB 25 121 d6) (h0)))
        ·exact oU (hC (hA 26 122) (hC (hA 27 123) (hC (hB 25 121 d6) (h0))))
        ·exact oU (hC (hB 25 121 d6) (hC (hA 28 124) (h0)))
        ·exact oU (hC (hA 29 125) (h0))
        iterate 3 exact oY (hC (hB 30 126 e0) (h0))
        ·exact oU (hC (hB 30 126 e0) (hC (hA 33 129) (h0)))
        ·exact oU (hC (hA 34 130) (h0))
        iterate 3 exact oY (hC (hA 35 131) (h0))
        ·exact oU (hC (hA 35 131) (hC (hA 38 134) (h0)))
        ·exact oU (hC (hA 39 135) (h0))
        rintro P at7 hs hf ⟨⟨at8, at9, au0, au1, au2, -⟩, y9⟩
        refine Qy _ (kc (kF hf 40 6) k0) ?_
        exact ⟨false, ⟨K, trivial⟩, SP.sel y9 [] rfl rfl, H⟩
       have H := cf H d6
       refine aG [GEq (bv a7), GEq (bv a7), GEq (.agg #[(iv m), (iv o), (iv p), (iv q), (lv A6 (mT d9) c7)]), GEq (bv a0), GEq (.agg #[(iv m), (iv o), (iv p), (iv q), (lv A6 (mT d9) c7)]), GEq (bv a1), GEq (bv (a0 == a1)), GEq (bv (a0 == a1)), GEq (bv (a0 == a1)), GEq (.agg #[(iv m), (iv o), (iv p), (iv q), (lv A6 (mT d9) c7)]), GEq (sv a2), GEq (.agg #[(iv m), (iv o), (iv p), (iv q), (lv A6 (mT d9) c7)]), GEq (sv a3), GEq (bv (a2 == a3)), GEq (bv (a2 == a3)), GEq (bv (a2 == a3)), GEq (.agg #[(iv g.1), (iv g.2.1), (iv g.2.2.1), (iv g.2.2.2.1), (lv a8 (mT a5) a9)]), GEq (.agg #[(iv j.1), (iv j.2.1), (iv j.2.2.1), (iv j.2.2.2.1), (lv b4 b1 b5)]), GEq (bv b6), GEq (bv b6), GEq (bv b6), GEq (iv g.2.2.2.2.2.1), GEq (iv j.2.2.2.2.2.1), GEq (bv (g.2.2.2.2.2.1 == j.2.2.2.2.2.1)), GEq (bv (g.2.2.2.2.2.1 == j.2.2.2.2.2.1)), GEq (bv (g.2.2.2.2.2.1 == j.2.2.2.2.2.1)), GEq undef, GEq undef, GEq undef, GEq (bv false), GEq (bv false), GEq undef, GEq undef, GEq undef, GEq (bv false), GEq (bv false), GEq undef, GEq undef, GEq undef, GEq (bv false), GEq (bv false)] [3, 5, 10, 12, 18] (tG [] w0 [Qs z 24 #[(iv m), (iv o), (iv p), (iv q), (lv A6 (mT d9) c7)], Da a8 a9 a5, Qs b9 24 #[(iv g.1), (iv g.2.1), (iv g.2.2.1), (iv g.2.2.2.1), (lv a8 (mT a5) a9)], E60, Qs c0 24 #[(iv j.1), (iv j.2.1), (iv j.2.2.1), (iv j.2.2.2.1), (lv b4 b1 b5)], Qs d4 33 #[(sv s.1), (iv s.2.1), (iv s.2.2.1), (lv c2 s.2.2.2.1 c3), (lv c4 s.2.2.2.2.1 c5)], Qs d5 33 #[(sv u.1), (iv u.2.1), (iv u.2.2.1), (lv c6 u.2.2.2.1 c8), (lv c9 u.2.2.2.2.1 d0)]] [([], []), ([3], [(bv a0)]), ([3, 5], [(bv a0), (bv a1)]), ([3, 5, 10], [(bv a0), (bv a1), (sv a2)]), ([3, 5, 10, 12], [(bv a0), (bv a1), (sv a2), (sv a3)]), ([3, 5, 10, 12, 18], [(bv a0), (bv a1), (sv a2), (sv a3), (bv b6)])]) 41 5 ⟨trivial, SP.drew d7⟩ ?_ ?_
       iterate 41 refine And.intro ?_ ?_
       exact trivial
       ·exact oU (hC (hS 7 (bv a7)) (h0))
       ·exact oU (hC (hA 0 96) (h0))
       ·refine oL 0 ?_
        rintro P W hs a ⟨-, z0⟩
        refine kM (kc (kS hs 3 (pt z 0)) (kc (eb (kA a 1 97) a4) k0)) fun f => ?_
        refine sL 24 3 z 0 0 (.agg #[(iv m), (iv o), (iv p), (iv q), (lv A6 (mT d9) c7)]) 98 z0 rfl ?_
        exact eK f
       ·refine oH 0 1 ?_
        rintro P W hs a ⟨-, h8⟩
        refine kM (kc (kA a 2 98) (kc (eb (kA a 1 97) a4) k0)) fun f => ?_
        refine cS h8 22 #[(.tmp 98)] #[24] 99 Tryz.call22 (Za A6 c7 m o p q d9 W (Q4 hL (SP.keeps h8)) (Dp.sp b0 h8) a0 e5) ?_
        intro au3 z1
        refine ⟨_, Qa f, rfl, ?_⟩
        exact (ai (ai rfl (trivial)) z1)
       ·refine Owe.light K [0, 1] K (Qc ?_ (Qc ?_ Qq))
        ·rintro P W hs a ⟨-, z2⟩
         refine kM (kc (kS hs 3 (pt z 0)) (kc (eb (kA a 1 97) a4) k0)) fun f => ?_
         refine sL 24 3 z 0 0 (.agg #[(iv m), (iv o), (iv p), (iv q), (lv A6 (mT d9) c7)]) 100 z2 rfl ?_
         exact eK f
        rintro P W hs a ⟨⟨au4, -⟩, z3⟩
        refine kM (kc (kS hs 3 (pt z 0)) (kc (eb (kA a 1 97) a4) k0)) fun f => ?_
        refine sL 24 3 z 0 0 (.agg #[(iv m), (iv o), (iv p), (iv q), (lv A6 (mT d9) c7)]) 100 z3 rfl ?_
        exact eK f
       ·refine oH 1 2 ?_
        rintro P W hs a ⟨⟨z4, -⟩, l1⟩
        refine kM (kc (kA a 4 100) (kc (eb (kA a 1 97) a4) k0)) fun f => ?_
        refine cS l1 23 #[(.tmp 100)] #[24] 101 Tryz.call23 (Vx A6 c7 m o p q d9 W (Dp.sp b0 l1) a1 e6) ?_
        intro au5 z5
        refine ⟨_, Qa f, rfl, ?_⟩
        exact (ai (ai z4 (ai rfl (trivial))) z5)
       ·exact oU (hC (hA 3 99) (hC (hA 5 101) (hC (hB 1 97 a4) (h0))))
       ·exact oU (hC (hB 1 97 a4) (hC (hA 6 102) (h0)))
       ·exact oU (hC (hA 7 103) (h0))
       ·refine oL 2 ?_
        rintro P W hs a ⟨⟨au6, au7, -⟩, z6⟩
        refine kM (kc (kS hs 3 (pt z 0)) (kc (eb (kA a 8 104) a6) k0)) fun f => ?_
        refine sL 24 3 z 0 0 (.agg #[(iv m), (iv o), (iv p), (iv q), (lv A6 (mT d9) c7)]) 105 z6 rfl ?_
        exact eK f
       ·refine oH 2 3 ?_
        rintro P W hs a ⟨⟨z7, z8, -⟩, h9⟩
        refine kM (kc (kA a 9 105) (kc (eb (kA a 8 104) a6) k0)) fun f => ?_
        refine cS h9 24 #[(.tmp 105)] #[24] 106 Tryz.call24 (Y9 A6 c7 m o p q d9 W (Q4 hL (SP.keeps h9)) (Dp.sp b0 h9) a2 e9) ?_
        intro au8 z9
        refine ⟨_, Qa f, rfl, ?_⟩
        exact (ai (ai z7 (ai z8 (ai rfl (trivial)))) z9)
       ·refine Owe.light K [2, 3] K (Qc ?_ (Qc ?_ Qq))
        ·rintro P W hs a ⟨⟨au9, av0, -⟩, aa0⟩
         refine kM (kc (kS hs 3 (pt z 0)) (kc (eb (kA a 8 104) a6) k0)) fun f => ?_
         refine sL 24 3 z 0 0 (.agg #[(iv m), (iv o), (iv p), (iv q), (lv A6 (mT d9) c7)]) 107 aa0 rfl ?_
         exact eK f
        rintro P W hs a ⟨⟨av1, av2, av3, -⟩, aa1⟩
        refine kM (kc (kS hs 3 (pt z 0)) (kc (eb (kA a 8 104) a6) k0)) fun f => ?_
        refine sL 24 3 z 0 0 (.agg #[(iv m), (iv o), (iv p), (iv q), (lv A6 (mT d9) c7)]) 107 aa1 rfl ?_
        exact eK f
       ·refine oH 3 4 ?_
        rintro P W hs a ⟨⟨aa2, aa3, aa4, -⟩, l2⟩
        refine kM (kc (kA a 11 107) (kc (eb (kA a 8 104) a6) k0)) fun f => ?_
        refine cS l2 25 #[(.tmp 107)] #[24] 108 Tryz.call25 (Xz A6 c7 m o p q d9 W (Dp.sp b0 l2) a3 f0) ?_
        intro av4 aa5
        refine ⟨_, Qa f, rfl, ?_⟩
        exact (ai (ai aa2 (ai aa3 (ai aa4 (ai rfl (trivial))))) aa5)
       ·refine oL 4 ?_
        rintro P W hs a ⟨⟨av5, av6, aa6, aa7, -⟩, av7⟩
        have e2 : P 106 = (sv a2) := (Qr (h := 10) K).symm.trans aa6
        have e3 : P 108 = (sv a3) := (Qr (h := 12) K).symm.trans aa7
        refine kM (kc e2 (kc e3 (kc (eb (kA a 8 104) a6) k0))) fun f => ?_
        refine zO 9 (.tmp 106) (.tmp 108) a2 a3 109 ?_
        exact eK f
       ·exact oU (hC (hB 8 104 a6) (hC (hA 13 109) (h0)))
       ·exact oU (hC (hA 14 110) (h0))
       ·refine oL 4 ?_
        rintro P W hs a ⟨⟨av8, av9, aw0, aw1, -⟩, aa8⟩
        refine kM (kc (kS hs 8 (pt b9 0)) (kc (eb (kA a 15 111) b7) k0)) fun f => ?_
        refine sL 24 8 b9 0 2 (.agg #[(iv g.1), (iv g.2.1), (iv g.2.2.1), (iv g.2.2.2.1), (lv a8 (mT a5) a9)]) 112 aa8 rfl ?_
        exact eK f
       ·refine oL 4 ?_
        rintro P W hs a ⟨⟨aw2, aw3, aw4, aw5, -⟩, aa9⟩
        refine kM (kc (kS hs 11 (pt c0 0)) (kc (eb (kA a 15 111) b7) k0)) fun f => ?_
        refine sL 24 11 c0 0 4 (.agg #[(iv j.1), (iv j.2.1), (iv j.2.2.1), (iv j.2.2.2.1), (lv b4 b1 b5)]) 113 aa9 rfl ?_
        exact eK f
       ·refine oH 4 5 ?_
        rintro P W hs a ⟨⟨ab0, ab1, ab2, ab3, -⟩, g0⟩
        refine kM (kc (kA a 16 112) (kc (kA a 17 113) (kc (eb (kA a 15 111) b7) k0))) fun f => ?_
        refine cS g0 26 #[(.tmp 112), (.tmp 113)] #[24, 24] 114 Tryz.call26 (Jl a8 a9 b4 b5 g.1 g.2.1 g.2.2.1 g.2.2.2.1 (mT a5) j.1 j.2.1 j.2.2.1 j.2.2.2.1 b1 W ⟨a5, rfl, (D6 (SP.get g0 (i := 1) rfl))⟩ (C5 e7 (SP.keeps g0) (SP.get g0 (i := 3) rfl)) b6 f1) ?_
        intro aw6 ab4
        refine ⟨_, Qa f, rfl, ?_⟩
        exact (ai (ai ab0 (ai ab1 (ai ab2 (ai ab3 (ai rfl (trivial)))))) ab4)
       ·exact oU (hC (hB 15 111 b7) (hC (hA 18 114) (h0)))
       ·exact oU (hC (hA 19 115) (h0))
       ·exact oU (hC (hS 9 (iv g.2.2.2.2.2.1)) (hC (hB 20 116 c1) (h0)))
       ·exact oU (hC (hS 12 (iv j.2.2.2.2.2.1)) (hC (hB 20 116 c1) (h0)))
       ·exact oU (hC (hA 21 117) (hC (hA 22 118) (hC (hB 20 116 c1) (h0))))
       ·exact oU (hC (hB 20 116 c1) (hC (hA 23 119) (h0)))
       ·exact oU (hC (hA 24 120) (h0))
       iterate 3 exact oY (hC (hB 25 121 d6) (h0))
       ·exact oU (hC (hB 25 121 d6) (hC (hA 28 124) (h0)))
       ·exact oU (hC (hA 29 125) (h0))
       iterate 3 exact oY (hC (hA 30 126) (h0))
       ·exact oU (hC (hA 30 126) (hC (hA 33 129) (h0)))
       ·exact oU (hC (hA 34 130) (h0))
       iterate 3 exact oY (hC (hA 35 131) (h0))
       ·exact oU (hC (hA 35 131) (hC (hA 38 134) (h0)))
       ·exact oU (hC (hA 39 135) (h0))
       rintro P aw7 hs hf ⟨⟨aw8, aw9, ax0, ax1, ax2, -⟩, ab5⟩
       refine Qy _ (kc (kF hf 40 6) k0) ?_
       exact ⟨false, ⟨K, trivial⟩, SP.sel ab5 [] rfl rfl, H⟩
      have H := cf H c1
      refine aG [GEq (bv a7), GEq (bv a7), GEq (.agg #[(iv m), (iv o), (iv p), (iv q), (lv A6 (mT d9) c7)]), GEq (bv a0), GEq (.agg #[(iv m), (iv o), (iv p), (iv q), (lv A6 (mT d9) c7)]), GEq (bv a1), GEq (bv (a0 == a1)), GEq (bv (a0 == a1)), GEq (bv (a0 == a1)), GEq (.agg #[(iv m), (iv o), (iv p), (iv q), (lv A6 (mT d9) c7)]), GEq (sv a2), GEq (.agg #[(iv m), (iv o), (iv p), (iv q), (lv A6 (mT d9) c7)]), GEq (sv a3), GEq (bv (a2 == a3)), GEq (bv (a2 == a3)), GEq (bv (a2 == a3)), GEq (.agg #[(iv g.1), (iv g.2.1), (iv g.2.2.1), (iv g.2.2.2.1), (lv a8 (mT a5) a9)]), GEq (.agg #[(iv j.1), (iv j.2.1), (iv j.2.2.1), (iv j.2.2.2.1), (lv b4 b1 b5)]), GEq (bv b6), GEq (bv b6), GEq (bv b6), GEq undef, GEq undef, GEq undef, GEq (bv false), GEq (bv false), GEq undef, GEq undef, GEq undef, GEq (bv false), GEq (bv false), GEq undef, GEq undef, GEq undef, GEq (bv false), GEq (bv false), GEq undef, GEq undef, GEq undef, GEq (bv false), GEq (bv false)] [3, 5, 10, 12, 18] (tG [] w0 [Qs z 24 #[(iv m), (iv o), (iv p), (iv q), (lv A6 (mT d9) c7)], Da a8 a9 a5, Qs b9 24 #[(iv g.1), (iv g.2.1), (iv g.2.2.1), (iv g.2.2.2.1), (lv a8 (mT a5) a9)], E60, Qs c0 24 #[(iv j.1), (iv j.2.1), (iv j.2.2.1), (iv j.2.2.2.1), (lv b4 b1 b5)], Qs d4 33 #[(sv s.1), (iv s.2.1), (iv s.2.2.1), (lv c2 s.2.2.2.1 c3), (lv c4 s.2.2.2.2.1 c5)], Qs d5 33 #[(sv u.1), (iv u.2.1), (iv u.2.2.1), (lv c6 u.2.2.2.1 c8), (lv c9 u.2.2.2.2.1 d0)]] [([], []), ([3], [(bv a0)]), ([3, 5], [(bv a0), (bv a1)]), ([3, 5, 10], [(bv a0), (bv a1), (sv a2)]), ([3, 5, 10, 12], [(bv a0), (bv a1), (sv a2), (sv a3)]), ([3, 5, 10, 12, 18], [(bv a0), (bv a1), (sv a2), (sv a3), (bv b6)])]) 41 5 ⟨trivial, SP.drew d7⟩ ?_ ?_
      iterate 41 refine And.intro ?_ ?_
      exact trivial
      ·exact oU (hC (hS 7 (bv a7)) (h0))
      ·exact oU (hC (hA 0 96) (h0))
      ·refine oL 0 ?_
       rintro P W hs a ⟨-, ab6⟩
       refine kM (kc (kS hs 3 (pt z 0)) (kc (eb (kA a 1 97) a4) k0)) fun f => ?_
       refine sL 24 3 z 0 0 (.agg #[(iv m), (iv o), (iv p), (iv q), (lv A6 (mT d9) c7)]) 98 ab6 rfl ?_
       exact eK f
      ·refine oH 0 1 ?_
       rintro P W hs a ⟨-, i0⟩
       refine kM (kc (kA a 2 98) (kc (eb (kA a 1 97) a4) k0)) fun f => ?_
       refine cS i0 22 #[(.tmp 98)] #[24] 99 Tryz.call22 (Za A6 c7 m o p q d9 W (Q4 hL (SP.keeps i0)) (Dp.sp b0 i0) a0 e5) ?_
       intro ax3 ab7
       refine ⟨_, Qa f, rfl, ?_⟩
       exact (ai (ai rfl (trivial)) ab7)
      ·refine Owe.light K [0, 1] K (Qc ?_ (Qc ?_ Qq))
       ·rintro P W hs a ⟨-, ab8⟩
        refine kM (kc (kS hs 3 (pt z 0)) (kc (eb (kA a 1 97) a4) k0)) fun f => ?_
        refine sL 24 3 z 0 0 (.agg #[(iv m), (iv o), (iv p), (iv q), (lv A6 (mT d9) c7)]) 100 ab8 rfl ?_
        exact eK f
       rintro P W hs a ⟨⟨ax4, -⟩, ab9⟩
       refine kM (kc (kS hs 3 (pt z 0)) (kc (eb (kA a 1 97) a4) k0)) fun f => ?_
       refine sL 24 3 z 0 0 (.agg #[(iv m), (iv o), (iv p), (iv q), (lv A6 (mT d9) c7)]) 100 ab9 rfl ?_
       exact eK f
      ·refine oH 1 2 ?_
       rintro P W hs a ⟨⟨ac0, -⟩, l3⟩
       refine kM (kc (kA a 4 100) (kc (eb (kA a 1 97) a4) k0)) fun f => ?_
       refine cS l3 23 #[(.tmp 100)] #[24] 101 Tryz.call23 (Vx A6 c7 m o p q d9 W (Dp.sp b0 l3) a1 e6) ?_
       intro ax5 ac1
       refine ⟨_, Qa f, rfl, ?_⟩
       exact (ai (ai ac0 (ai rfl (trivial))) ac1)
      ·exact oU (hC (hA 3 99) (hC (hA 5 101) (hC (hB 1 97 a4) (h0))))
      ·exact oU (hC (hB 1 97 a4) (hC (hA 6 102) (h0)))
      ·exact oU (hC (hA 7 103) (h0))
      ·refine oL 2 ?_
       rintro P W hs a ⟨⟨ax6, ax7, -⟩, ac2⟩
       refine kM (kc (kS hs 3 (pt z 0)) (kc (eb (kA a 8 104) a6) k0)) fun f => ?_
       refine sL 24 3 z 0 0 (.agg #[(iv m), (iv o), (iv p), (iv q), (lv A6 (mT d9) c7)]) 105 ac2 rfl ?_
       exact eK f
      ·refine oH 2 3 ?_
       rintro P W hs a ⟨⟨ac3, ac4, -⟩, i1⟩
       refine kM (kc (kA a 9 105) (kc (eb (kA a 8 104) a6) k0)) fun f => ?_
       refine cS i1 24 #[(.tmp 105)] #[24] 106 Tryz.call24 (Y9 A6 c7 m o p q d9 W (Q4 hL (SP.keeps i1)) (Dp.sp b0 i1) a2 e9) ?_
       intro ax8 ac5
       refine ⟨_, Qa f, rfl, ?_⟩
       exact (ai (ai ac3 (ai ac4 (ai rfl (trivial)))) ac5)
      ·refine Owe.light K [2, 3] K (Qc ?_ (Qc ?_ Qq))
       ·rintro P W hs a ⟨⟨ax9, ay0, -⟩, ac6⟩
        refine kM (kc (kS hs 3 (pt z 0)) (kc (eb (kA a 8 104) a6) k0)) fun f => ?_
        refine sL 24 3 z 0 0 (.agg #[(iv m), (iv o), (iv p), (iv q), (lv A6 (mT d9) c7)]) 107 ac6 rfl ?_
        exact eK f
       rintro P W hs a ⟨⟨ay1, ay2, ay3, -⟩, ac7⟩
       refine kM (kc (kS hs 3 (pt z 0)) (kc (eb (kA a 8 104) a6) k0)) fun f => ?_
       refine sL 24 3 z 0 0 (.agg #[(iv m), (iv o), (iv p), (iv q), (lv A6 (mT d9) c7)]) 107 ac7 rfl ?_
       exact eK f
      ·refine oH 3 4 ?_
       rintro P W hs a ⟨⟨ac8, ac9, ad0, -⟩, l4⟩
       refine kM (kc (kA a 11 107) (kc (eb (kA a 8 104) a6) k0)) fun f => ?_
       refine cS l4 25 #[(.tmp 107)] #[24] 108 Tryz.call25 (Xz A6 c7 m o p q d9 W (Dp.sp b0 l4) a3 f0) ?_
       intro ay4 ad1
       refine ⟨_, Qa f, rfl, ?_⟩
       exact (ai (ai ac8 (ai ac9 (ai ad0 (ai rfl (trivial))))) ad1)
      ·refine oL 4 ?_
       rintro P W hs a ⟨⟨ay5, ay6, ad2, ad3, -⟩, ay7⟩
       have e2 : P 106 = (sv a2) := (Qr (h := 10) K).symm.trans ad2
       have e3 : P 108 = (sv a3) := (Qr (h := 12) K).symm.trans ad3
       refine kM (kc e2 (kc e3 (kc (eb (kA a 8 104) a6) k0))) fun f => ?_
       refine zO 9 (.tmp 106) (.tmp 108) a2 a3 109 ?_
       exact eK f
      ·exact oU (hC (hB 8 104 a6) (hC (hA 13 109) (h0)))
      ·exact oU (hC (hA 14 110) (h0))
      ·refine oL 4 ?_
       rintro P W hs a ⟨⟨ay8, ay9, az0, az1, -⟩, ad4⟩
       refine kM (kc (kS hs 8 (pt b9 0)) (kc (eb (kA a 15 111) b7) k0)) fun f => ?_
       refine sL 24 8 b9 0 2 (.agg #[(iv g.1), (iv g.2.1), (iv g.2.2.1), (iv g.2.2.2.1), (lv a8 (mT a5) a9)]) 112 ad4 rfl ?_
       exact eK f
      ·refine oL 4 ?_
       rintro P W hs a ⟨⟨az2, az3, az4, az5, -⟩, ad5⟩
       refine kM (kc (kS hs 11 (pt c0 0)) (kc (eb (kA a 15 111) b7) k0)) fun f => ?_
       refine sL 24 11 c0 0 4 (.agg #[(iv j.1), (iv j.2.1), (iv j.2.2.1), (iv j.2.2.2.1), (lv b4 b1 b5)]) 113 ad5 rfl ?_
       exact eK f
      ·refine oH 4 5 ?_
       rintro P W hs a ⟨⟨ad6, ad7, ad8, ad9, -⟩, g1⟩
       refine kM (kc (kA a 16 112) (kc (kA a 17 113) (kc (eb (kA a 15 111) b7) k0))) fun f => ?_
       refine cS g1 26 #[(.tmp 112), (.tmp 113)] #[24, 24] 114 Tryz.call26 (Jl a8 a9 b4 b5 g.1 g.2.1 g.2.2.1 g.2.2.2.1 (mT a5) j.1 j.2.1 j.2.2.1 j.2.2.2.1 b1 W ⟨a5, rfl, (D6 (SP.get g1 (i := 1) rfl))⟩ (C5 e7 (SP.keeps g1) (SP.get g1 (i := 3) rfl)) b6 f1) ?_
       intro az6 ae0
       refine ⟨_, Qa f, rfl, ?_⟩
       exact (ai (ai ad6 (ai ad7 (ai ad8 (ai ad9 (ai rfl (trivial)))))) ae0)
      ·exact oU (hC (hB 15 111 b7) (hC (hA 18 114) (h0)))
      ·exact oU (hC (hA 19 115) (h0))
      iterate 3 exact oY (hC (hB 20 116 c1) (h0))
      ·exact oU (hC (hB 20 116 c1) (hC (hA 23 119) (h0)))
      ·exact oU (hC (hA 24 120) (h0))
      iterate 3 exact oY (hC (hA 25 121) (h0))
      ·exact oU (hC (hA 25 121) (hC (hA 28 124) (h0)))
      ·exact oU (hC (hA 29 125) (h0))
      iterate 3 exact oY (hC (hA 30 126) (h0))
      ·exact oU (hC (hA 30 126) (hC (hA 33 129) (h0)))
      ·exact oU (hC (hA 34 130) (h0))
      iterate 3 exact oY (hC (hA 35 131) (h0))
      ·exact oU (hC (hA 35 131) (hC (hA 38 134) (h0)))
      ·exact oU (hC (hA 39 135) (h0))
      rintro P az7 hs hf ⟨⟨az8, az9, ba0, ba1, ba2, -⟩, ae1⟩
      refine Qy _ (kc (kF hf 40 6) k0) ?_
      exact ⟨false, ⟨K, trivial⟩, SP.sel ae1 [] rfl rfl, H⟩
     have H := cf H b7
     refine aG [GEq (bv a7), GEq (bv a7), GEq (.agg #[(iv m), (iv o), (iv p), (iv q), (lv A6 (mT d9) c7)]), GEq (bv a0), GEq (.agg #[(iv m), (iv o), (iv p), (iv q), (lv A6 (mT d9) c7)]), GEq (bv a1), GEq (bv (a0 == a1)), GEq (bv (a0 == a1)), GEq (bv (a0 == a1)), GEq (.agg #[(iv m), (iv o), (iv p), (iv q), (lv A6 (mT d9) c7)]), GEq (sv a2), GEq (.agg #[(iv m), (iv o), (iv p), (iv q), (lv A6 (mT d9) c7)]), GEq (sv a3), GEq (bv (a2 == a3)), GEq (bv (a2 == a3)), GEq (bv (a2 == a3)), GEq undef, GEq undef, GEq undef, GEq (bv false), GEq (bv false), GEq undef, GEq undef, GEq undef, GEq (bv false), GEq (bv false), GEq undef, GEq undef, GEq undef, GEq (bv false), GEq (bv false), GEq undef, GEq undef, GEq undef, GEq (bv false), GEq (bv false), GEq undef, GEq undef, GEq undef, GEq (bv false), GEq (bv false)] [3, 5, 10, 12] (tG [] w0 [Qs z 24 #[(iv m), (iv o), (iv p), (iv q), (lv A6 (mT d9) c7)], Da a8 a9 a5, Qs b9 24 #[(iv g.1), (iv g.2.1), (iv g.2.2.1), (iv g.2.2.2.1), (lv a8 (mT a5) a9)], E60, Qs c0 24 #[(iv j.1), (iv j.2.1), (iv j.2.2.1), (iv j.2.2.2.1), (lv b4 b1 b5)], Qs d4 33 #[(sv s.1), (iv s.2.1), (iv s.2.2.1), (lv c2 s.2.2.2.1 c3), (lv c4 s.2.2.2.2.1 c5)], Qs d5 33 #[(sv u.1), (iv u.2.1), (iv u.2.2.1), (lv c6 u.2.2.2.1 c8), (lv c9 u.2.2.2.2.1 d0)]] [([], []), ([3], [(bv a0)]), ([3, 5], [(bv a0), (bv a1)]), ([3, 5, 10], [(bv a0), (bv a1), (sv a2)]), ([3, 5, 10, 12], [(bv a0), (bv a1), (sv a2), (sv a3)])]) 41 4 ⟨trivial, SP.drew d7⟩ ?_ ?_
     iterate 41 refine And.intro ?_ ?_
     exact trivial
     ·exact oU (hC (hS 7 (bv a7)) (h0))
     ·exact oU (hC (hA 0 96) (h0))
     ·refine oL 0 ?_
      rintro P W hs a ⟨-, ae2⟩
      refine kM (kc (kS hs 3 (pt z 0)) (kc (eb (kA a 1 97) a4) k0)) fun f => ?_
      refine sL 24 3 z 0 0 (.agg #[(iv m), (iv o), (iv p), (iv q), (lv A6 (mT d9) c7)]) 98 ae2 rfl ?_
      exact eK f
     ·refine oH 0 1 ?_
      rintro P W hs a ⟨-, i2⟩
      refine kM (kc (kA a 2 98) (kc (eb (kA a 1 97) a4) k0)) fun f => ?_
      refine cS i2 22 #[(.tmp 98)] #[24] 99 Tryz.call22 (Za A6 c7 m o p q d9 W (Q4 hL (SP.keeps i2)) (Dp.sp b0 i2) a0 e5) ?_
      intro ba3 ae3
      refine ⟨_, Qa f, rfl, ?_⟩
      exact (ai (ai rfl (trivial)) ae3)
     ·refine Owe.light K [0, 1] K (Qc ?_ (Qc ?_ Qq))
      ·rintro P W hs a ⟨-, ae4⟩
       refine kM (kc (kS hs 3 (pt z 0)) (kc (eb (kA a 1 97) a4) k0)) fun f => ?_
       refine sL 24 3 z 0 0 (.agg #[(iv m), (iv o), (iv p), (iv q), (lv A6 (mT d9) c7)]) 100 ae4 rfl ?_
       exact eK f
      rintro P W hs a ⟨⟨ba4, -⟩, ae5⟩
      refine kM (kc (kS hs 3 (pt z 0)) (kc (eb (kA a 1 97) a4) k0)) fun f => ?_
      refine sL 24 3 z 0 0 (.agg #[(iv m), (iv o), (iv p), (iv q), (lv A6 (mT d9) c7)]) 100 ae5 rfl ?_
      exact eK f
     ·refine oH 1 2 ?_
      rintro P W hs a ⟨⟨ae6, -⟩, l5⟩
      refine kM (kc (kA a 4 100) (kc (eb (kA a 1 97) a4) k0)) fun f => ?_
      refine cS l5 23 #[(.tmp 100)] #[24] 101 Tryz.call23 (Vx A6 c7 m o p q d9 W (Dp.sp b0 l5) a1 e6) ?_
      intro ba5 ae7
      refine ⟨_, Qa f, rfl, ?_⟩
      exact (ai (ai ae6 (ai rfl (trivial))) ae7)
     ·exact oU (hC (hA 3 99) (hC (hA 5 101) (hC (hB 1 97 a4) (h0))))
     ·exact oU (hC (hB 1 97 a4) (hC (hA 6 102) (h0)))
     ·exact oU (hC (hA 7 103) (h0))
     ·refine oL 2 ?_
      rintro P W hs a ⟨⟨ba6, ba7, -⟩, ae8⟩
      refine kM (kc (kS hs 3 (pt z 0)) (kc (eb (kA a 8 104) a6) k0)) fun f => ?_
      refine sL 24 3 z 0 0 (.agg #[(iv m), (iv o), (iv p), (iv q), (lv A6 (mT d9) c7)]) 105 ae8 rfl ?_
      exact eK f
     ·refine oH 2 3 ?_
      rintro P W hs a ⟨⟨ae9, af0, -⟩, i3⟩
      refine kM (kc (kA a 9 105) (kc (eb (kA a 8 104) a6) k0)) fun f => ?_
      refine cS i3 24 #[(.tmp 105)] #[24] 106 Tryz.call24 (Y9 A6 c7 m o p q d9 W (Q4 hL (SP.keeps i3)) (Dp.sp b0 i3) a2 e9) ?_
      intro ba8 af1
      refine ⟨_, Qa f, rfl, ?_⟩
      exact (ai (ai ae9 (ai af0 (ai rfl (trivial)))) af1)
     ·refine Owe.light K [2, 3] K (Qc ?_ (Qc ?_ Qq))
      ·rintro P W hs a ⟨⟨ba9, bb0, -⟩, af2⟩
       refine kM (kc (kS hs 3 (pt z 0)) (kc (eb (kA a 8 104) a6) k0)) fun f => ?_
       refine sL 24 3 z 0 0 (.agg #[(iv m), (iv o), (iv p), (iv q), (lv A6 (mT d9) c7)]) 107 af2 rfl ?_
       exact eK f
      rintro P W hs a ⟨⟨bb1, bb2, bb3, -⟩, af3⟩
      refine kM (kc (kS hs 3 (pt z 0)) (kc (eb (kA a 8 104) a6) k0)) fun f => ?_
      refine sL 24 3 z 0 0 (.agg #[(iv m), (iv o), (iv p), (iv q), (lv A6 (mT d9) c7)]) 107 af3 rfl ?_
      exact eK f
     ·refine oH 3 4 ?_
      rintro P W hs a ⟨⟨af4, af5, af6, -⟩, l6⟩
      refine kM (kc (kA a 11 107) (kc (eb (kA a 8 104) a6) k0)) fun f => ?_
      refine cS l6 25 #[(.tmp 107)] #[24] 108 Tryz.call25 (Xz A6 c7 m o p q d9 W (Dp.sp b0 l6) a3 f0) ?_
      intro bb4 af7
      refine ⟨_, Qa f, rfl, ?_⟩
      exact (ai (ai af4 (ai af5 (ai af6 (ai rfl (trivial))))) af7)
     ·refine oL 4 ?_
      rintro P W hs a ⟨⟨bb5, bb6, af8, af9, -⟩, bb7⟩
      have e2 : P 106 = (sv a2) := (Qr (h := 10) K).symm.trans af8
      have e3 : P 108 = (sv a3) := (Qr (h := 12) K).symm.trans af9
      refine kM (kc e2 (kc e3 (kc (eb (kA a 8 104) a6) k0))) fun f => ?_
      refine zO 9 (.tmp 106) (.tmp 108) a2 a3 109 ?_
      exact eK f
     ·exact oU (hC (hB 8 104 a6) (hC (hA 13 109) (h0)))
     ·exact oU (hC (hA 14 110) (h0))
     iterate 3 exact oY (hC (hB 15 111 b7) (h0))
     ·exact oU (hC (hB 15 111 b7) (hC (hA 18 114) (h0)))
     ·exact oU (hC (hA 19 115) (h0))
     iterate 3 exact oY (hC (hA 20 116) (h0))
     ·exact oU (hC (hA 20 116) (hC (hA 23 119) (h0)))
     ·exact oU (hC (hA 24 120) (h0))
     iterate 3 exact oY (hC (hA 25 121) (h0))
     ·exact oU (hC (hA 25 121) (hC (hA 28 124) (h0)))
     ·exact oU (hC (hA 29 125) (h0))
     iterate 3 exact oY (hC (hA 30 126) (h0))
     ·exact oU (hC (hA 30 126) (hC (hA 33 129) (h0)))
     ·exact oU (hC (hA 34 130) (h0))
     iterate 3 exact oY (hC (hA 35 131) (h0))
     ·exact oU (hC (hA 35 131) (hC (hA 38 134) (h0)))
     ·exact oU (hC (hA 39 135) (h0))
     rintro P bb8 hs hf ⟨⟨bb9, bc0, bc1, bc2, -⟩, ag0⟩
     refine Qy _ (kc (kF hf 40 6) k0) ?_
     exact ⟨false, ⟨K, trivial⟩, SP.sel ag0 [] rfl rfl, H⟩
    have H := cf H a6
    refine aG [GEq (bv a7), GEq (bv a7), GEq (.agg #[(iv m), (iv o), (iv p), (iv q), (lv A6 (mT d9) c7)]), GEq (bv a0), GEq (.agg #[(iv m), (iv o), (iv p), (iv q), (lv A6 (mT d9) c7)]), GEq (bv a1), GEq (bv (a0 == a1)), GEq (bv (a0 == a1)), GEq (bv (a0 == a1)), GEq undef, GEq undef, GEq undef, GEq undef, GEq undef, GEq (bv false), GEq (bv false), GEq undef, GEq undef, GEq undef, GEq (bv false), GEq (bv false), GEq undef, GEq undef, GEq undef, GEq (bv false), GEq (bv false), GEq undef, GEq undef, GEq undef, GEq (bv false), GEq (bv false), GEq undef, GEq undef, GEq undef, GEq (bv false), GEq (bv false), GEq undef, GEq undef, GEq undef, GEq (bv false), GEq (bv false)] [3, 5] (tG [] w0 [Qs z 24 #[(iv m), (iv o), (iv p), (iv q), (lv A6 (mT d9) c7)], Da a8 a9 a5, Qs b9 24 #[(iv g.1), (iv g.2.1), (iv g.2.2.1), (iv g.2.2.2.1), (lv a8 (mT a5) a9)], E60, Qs c0 24 #[(iv j.1), (iv j.2.1), (iv j.2.2.1), (iv j.2.2.2.1), (lv b4 b1 b5)], Qs d4 33 #[(sv s.1), (iv s.2.1), (iv s.2.2.1), (lv c2 s.2.2.2.1 c3), (lv c4 s.2.2.2.2.1 c5)], Qs d5 33 #[(sv u.1), (iv u.2.1), (iv u.2.2.1), (lv c6 u.2.2.2.1 c8), (lv c9 u.2.2.2.2.1 d0)]] [([], []), ([3], [(bv a0)]), ([3, 5], [(bv a0), (bv a1)])]) 41 2 ⟨trivial, SP.drew d7⟩ ?_ ?_
    iterate 41 refine And.intro ?_ ?_
    exact trivial
    ·exact oU (hC (hS 7 (bv a7)) (h0))
    ·exact oU (hC (hA 0 96) (h0))
    ·refine oL 0 ?_
     rintro P W hs a ⟨-, ag1⟩
     refine kM (kc (kS hs 3 (pt z 0)) (kc (eb (kA a 1 97) a4) k0)) fun f => ?_
     refine sL 24 3 z 0 0 (.agg #[(iv m), (iv o), (iv p), (iv q), (lv A6 (mT d9) c7)]) 98 ag1 rfl ?_
     exact eK f
    ·refine oH 0 1 ?_
     rintro P W hs a ⟨-, i4⟩
     refine kM (kc (kA a 2 98) (kc (eb (kA a 1 97) a4) k0)) fun f => ?_
     refine cS i4 22 #[(.tmp 98)] #[24] 99 Tryz.call22 (Za A6 c7 m o p q d9 W (Q4 hL (SP.keeps i4)) (Dp.sp b0 i4) a0 e5) ?_
     intro bc3 ag2
     refine ⟨_, Qa f, rfl, ?_⟩
     exact (ai (ai rfl (trivial)) ag2)
    ·refine Owe.light K [0, 1] K (Qc ?_ (Qc ?_ Qq))
     ·rintro P W hs a ⟨-, ag3⟩
      refine kM (kc (kS hs 3 (pt z 0)) (kc (eb (kA a 1 97) a4) k0)) fun f => ?_
      refine sL 24 3 z 0 0 (.agg #[(iv m), (iv o), (iv p), (iv q), (lv A6 (mT d9) c7)]) 100 ag3 rfl ?_
      exact eK f
     rintro P W hs a ⟨⟨bc4, -⟩, ag4⟩
     refine kM (kc (kS hs 3 (pt z 0)) (kc (eb (kA a 1 97) a4) k0)) fun f => ?_
     refine sL 24 3 z 0 0 (.agg #[(iv m), (iv o), (iv p), (iv q), (lv A6 (mT d9) c7)]) 100 ag4 rfl ?_
     exact eK f
    ·refine oH 1 2 ?_
     rintro P W hs a ⟨⟨ag5, -⟩, l7⟩
     refine kM (kc (kA a 4 100) (kc (eb (kA a 1 97) a4) k0)) fun f => ?_
     refine cS l7 23 #[(.tmp 100)] #[24] 101 Tryz.call23 (Vx A6 c7 m o p q d9 W (Dp.sp b0 l7) a1 e6) ?_
     intro bc5 ag6
     refine ⟨_, Qa f, rfl, ?_⟩
     exact (ai (ai ag5 (ai rfl (trivial))) ag6)
    ·exact oU (hC (hA 3 99) (hC (hA 5 101) (hC (hB 1 97 a4) (h0))))
    ·exact oU (hC (hB 1 97 a4) (hC (hA 6 102) (h0)))
    ·exact oU (hC (hA 7 103) (h0))
    iterate 5 exact oY (hC (hB 8 104 a6) (h0))
    ·exact oU (hC (hB 8 104 a6) (hC (hA 13 109) (h0)))
    ·exact oU (hC (hA 14 110) (h0))
    iterate 3 exact oY (hC (hA 15 111) (h0))
    ·exact oU (hC (hA 15 111) (hC (hA 18 114) (h0)))
    ·exact oU (hC (hA 19 115) (h0))
    iterate 3 exact oY (hC (hA 20 116) (h0))
    ·exact oU (hC (hA 20 116) (hC (hA 23 119) (h0)))
    ·exact oU (hC (hA 24 120) (h0))
    iterate 3 exact oY (hC (hA 25 121) (h0))
    ·exact oU (hC (hA 25 121) (hC (hA 28 124) (h0)))
    ·exact oU (hC (hA 29 125) (h0))
    iterate 3 exact oY (hC (hA 30 126) (h0))
    ·exact oU (hC (hA 30 126) (hC (hA 33 129) (h0)))
    ·exact oU (hC (hA 34 130) (h0))
    iterate 3 exact oY (hC (hA 35 131) (h0))
    ·exact oU (hC (hA 35 131) (hC (hA 38 134) (h0)))
    ·exact oU (hC (hA 39 135) (h0))
    rintro P bc6 hs hf ⟨⟨bc7, bc8, -⟩, ag7⟩
    refine Qy _ (kc (kF hf 40 6) k0) ?_
    exact ⟨false, ⟨K, trivial⟩, SP.sel ag7 [] rfl rfl, H⟩
   have H := cf H a4
   refine aG [GEq (bv a7), GEq (bv a7), GEq undef, GEq undef, GEq undef, GEq undef, GEq undef, GEq (bv false), GEq (bv false), GEq undef, GEq undef, GEq undef, GEq undef, GEq undef, GEq (bv false), GEq (bv false), GEq undef, GEq undef, GEq undef, GEq (bv false), GEq (bv false), GEq undef, GEq undef, GEq undef, GEq (bv false), GEq (bv false), GEq undef, GEq undef, GEq undef, GEq (bv false), GEq (bv false), GEq undef, GEq undef, GEq undef, GEq (bv false), GEq (bv false), GEq undef, GEq undef, GEq undef, GEq (bv false), GEq (bv false)] [] (tG [] w0 [Qs z 24 #[(iv m), (iv o), (iv p), (iv q), (lv A6 (mT d9) c7)], Da a8 a9 a5, Qs b9 24 #[(iv g.1), (iv g.2.1), (iv g.2.2.1), (iv g.2.2.2.1), (lv a8 (mT a5) a9)], E60, Qs c0 24 #[(iv j.1), (iv j.2.1), (iv j.2.2.1), (iv j.2.2.2.1), (lv b4 b1 b5)], Qs d4 33 #[(sv s.1), (iv s.2.1), (iv s.2.2.1), (lv c2 s.2.2.2.1 c3), (lv c4 s.2.2.2.2.1 c5)], Qs d5 33 #[(sv u.1), (iv u.2.1), (iv u.2.2.1), (lv c6 u.2.2.2.1 c8), (lv c9 u.2.2.2.2.1 d0)]] [([], [])]) 41 0 ⟨trivial, SP.drew d7⟩ ?_ ?_
   iterate 41 refine And.intro ?_ ?_
   exact trivial
   ·exact oU (hC (hS 7 (bv a7)) (h0))
   ·exact oU (hC (hA 0 96) (h0))
   iterate 5 exact oY (hC (hB 1 97 a4) (h0))
   ·exact oU (hC (hB 1 97 a4) (hC (hA 6 102) (h0)))
   ·exact oU (hC (hA 7 103) (h0))
   iterate 5 exact oY (hC (hA 8 104) (h0))
   ·exact oU (hC (hA 8 104) (hC (hA 13 109) (h0)))
   ·exact oU (hC (hA 14 110) (h0))
   iterate 3 exact oY (hC (hA 15 111) (h0))
   ·exact oU (hC (hA 15 111) (hC (hA 18 114) (h0)))
   ·exact oU (hC (hA 19 115) (h0))
   iterate 3 exact oY (hC (hA 20 116) (h0))
   ·exact oU (hC (hA 20 116) (hC (hA 23 119) (h0)))
   ·exact oU (hC (hA 24 120) (h0))
   iterate 3 exact oY (hC (hA 25 121) (h0))
   ·exact oU (hC (hA 25 121) (hC (hA 28 124) (h0)))
   ·exact oU (hC (hA 29 125) (h0))
   iterate 3 exact oY (hC (hA 30 126) (h0))
   ·exact oU (hC (hA 30 126) (hC (hA 33 129) (h0)))
   ·exact oU (hC (hA 34 130) (h0))
   iterate 3 exact oY (hC (hA 35 131) (h0))
   ·exact oU (hC (hA 35 131) (hC (hA 38 134) (h0)))
   ·exact oU (hC (hA 39 135) (h0))
   rintro P bc9 hs hf ⟨-, ag8⟩
   refine Qy _ (kc (kF hf 40 6) k0) ?_
   exact ⟨false, ⟨K, trivial⟩, SP.sel ag8 [] rfl rfl, H⟩
  rintro ρ bd0 ⟨f5, hk, ag9, H⟩
  unfold Va at H
  first | refine At.known _ hk ?_ | rw [← Qo hk]
  refine At.ret K ?_
  refine ⟨(bv f5), K, ?_⟩
  obtain rfl := Qe H
  exact ⟨rfl, SP.sel ag9 [] rfl rfl⟩
 exact ⟨0, ⟨K, K, K, K, K, K, K, K, K, K, K, K, K, K, trivial⟩, SP.sel o0 [0, 1, 2, 3, 4, 5, 6] rfl rfl, H⟩
end Go.Proofs.YtoflbpmbkmephaaGreatDoor
namespace Go.Proofs.YtoflbpmbkmephaaGreatDoor
open Go.RowKit
theorem T9 (s : Str) : Jt (Y6 s).1 (Y6 s).2.1 (Y6 s).2.2.1 (Y6 s).2.2.2.1 (Y6 s).2.2.2.2.1 (Y6 s).1 (Y6 s).2.1 (Y6 s).2.2.1 (Y6 s).2.2.2.1 (Y6 s).2.2.2.2.1 = some true := rSame _ _ _ _ _ (parse_q s).1 (parse_q s).2
theorem find_same (l : List Qb) (nm : Str) (hq : ∀ t ∈ l, Pe t) : Z1 (D3 l nm).1 (D3 l nm).2.1 (D3 l nm).2.2.1 (D3 l nm).2.2.2.1 (D3 l nm).2.2.2.2.1 (D3 l nm).1 (D3 l nm).2.1 (D3 l nm).2.2.1 (D3 l nm).2.2.2.1 (D3 l nm).2.2.2.2.1 = some true := by
  unfold D3
  cases h : pl l nm with
  | none => exact rSameT _ _ _ _ _ (by simp) (by simp)
  | some k =>
    have hk := pl_lt' h
    have hm : l.getD k Ol ∈ l := by
      rw [List.getD_eq_getElem?_getD, List.getElem?_eq_getElem hk]
      exact List.getElem_mem hk
    obtain ⟨_, q2, q3, _⟩ := hq _ hm
    exact rSameT _ _ _ _ _ q2 q3
theorem Wa (w g i e : Int) (l : List Qb) (nm s : Str) (hl : l.length ≤ 9000) (hq : ∀ t ∈ l, Pe t) (hs : ∀ t ∈ l, TenS t) : ∀ (d k f : Nat), d = l.length - k → k ≤ l.length → d < f →
    Vk w g i e l nm true (Y6 s) (Y6 s).2.2.2.2.1 (Y6 s) (Y6 s).2.2.2.2.1 (D3 l nm) (D3 l nm) f (k : Int) = some true := by
  intro d
  induction d with
  | zero =>
    intro k f hd hk hf
    obtain ⟨f, rfl⟩ : ∃ g, f = g + 1 := ⟨f - 1, by omega⟩
    show V8 (Vk w g i e l nm true (Y6 s) (Y6 s).2.2.2.2.1 (Y6 s) (Y6 s).2.2.2.2.1 (D3 l nm) (D3 l nm) f) w g i e l nm true (Y6 s) (Y6 s).2.2.2.2.1 (Y6 s) (Y6 s).2.2.2.2.1 (D3 l nm) (D3 l nm) (k : Int) = _
    unfold V8 Va
    have h1 := pPrint (w, g, i, e, l) (by show l.length ≤ _; omega) hq
    have h2 := rPrint (w, g, i, e, l) hl hq hs
    dsimp only at h1 h2
    rw [decide_eq_false (show ¬ ((k : Int) < ((l.length : Nat) : Int)) by omega), cond_false, cond_true, lCfg w g i e l (by omega) hq, Option.bind_some, rCfg w g i e l hl hq hs, Option.bind_some, beq_self_eq_true, cond_true, h1, Option.bind_some, h2, Option.bind_some, beq_self_eq_true, cond_true, T9, Option.bind_some, cond_true, beq_self_eq_true, cond_true, beq_self_eq_true, cond_true, find_same l nm hq, Option.bind_some, cond_true, beq_self_eq_true]
  | succ d ih =>
    intro k f hd hk hf
    obtain ⟨f, rfl⟩ : ∃ g, f = g + 1 := ⟨f - 1, by omega⟩
    have hlt : k < l.length := by omega
    have hm := List.getElem_mem hlt
    show V8 (Vk w g i e l nm true (Y6 s) (Y6 s).2.2.2.2.1 (Y6 s) (Y6 s).2.2.2.2.1 (D3 l nm) (D3 l nm) f) w g i e l nm true (Y6 s) (Y6 s).2.2.2.2.1 (Y6 s) (Y6 s).2.2.2.2.1 (D3 l nm) (D3 l nm) (k : Int) = _
    unfold V8 Xx
    rw [decide_eq_true (show (k : Int) < ((l.length : Nat) : Int) by omega), cond_true, Zr hlt, Option.bind_some, lTok _ _ _ _ _ _ (hq _ hm).2.2.1, Option.bind_some, Option.bind_some, rTok _ _ _ _ _ _ (hs _ hm).2.2.1, Option.bind_some]
    simp only [beq_self_eq_true, Bool.and_self, Bool.not_true, cond_false]
    rw [show (k : Int) + 1 = ((k + 1 : Nat) : Int) by omega, Uy (by omega)]
    exact ih (k + 1) f (by omega) (by omega) (by omega)
theorem Ik (w g i e : Int) (l : List Qb) (s nm : Str) (hl : l.length ≤ 140737488355328) (hq : ∀ t ∈ l, Pe t) : Ue w g i e l s nm = some true := by
  obtain ⟨b, hb, hb2⟩ := cfg_great w g i e l hl hq
  have k1 : Vv w g i e l s nm true true = some true := rfl
  unfold Ue
  rw [cfgHead, Option.bind_some, hb, Option.bind_some]
  cases b with
  | true => rw [cond_true, k1]
  | false =>
    obtain ⟨h3, hs⟩ := hb2 rfl
    have k2 : Vv w g i e l s nm true false = some true := by
      unfold Vv
      rw [cond_false, pParse, Option.bind_some, Option.bind_some, rParse9, Option.bind_some, Option.bind_some, lFind _ _ _ _ _ _ hl, Option.bind_some, rFind _ _ _ _ _ _ (by omega), Option.bind_some]
      exact Wa w g i e l nm s (by omega) hq hs l.length 0 Zj (by omega) (by omega) (by unfold Zj; omega)
    rw [cond_false]
    cases decide (((List.length s : Nat) : Int) > 5000) with
    | true => rw [cond_true, k1]
    | false =>
      rw [cond_false]
      cases decide (((List.length nm : Nat) : Int) > 1000) with
      | true => rw [k1]
      | false => rw [k2]
end Go.Proofs.YtoflbpmbkmephaaGreatDoor
namespace Go.Proofs.YtoflbpmbkmephaaGreatDoor
open Go.RowKit Go.ChangeShapes Go.WideShapes Go.Deep
theorem own : ownKnob Tryz.prog.godebug = none := by kernel_rfl
theorem Sk : laidOutB Tryz.prog = true := by kernel_rfl
section
variable {H : Type} {enc : TypeId × Value → H} {W : World} {spare : Nat → Bool} {held : Bool} {base b0 : Nat} {r : Reach}
end
end Go.Proofs.YtoflbpmbkmephaaGreatDoor
namespace Go.Proofs.YtoflbpmbkmephaaGreatDoor
open Go.RowKit Go.ChangeShapes Go.WideShapes Go.Deep
section
variable {H : Type} {enc : TypeId × Value → H} {P : Program} {W : World}
def Rds (enc : TypeId × Value → H) (P : Program) (W : World) (t : TypeId) {α : Type} (e : Enc α) (Q : Nat → α → Prop) : Prop :=
  ∀ (Zj : Nat) (cs : List Value) (x : DataW H × List MemPlace), DataW.trod enc P W 0 (fun _ => true) true Zj t cs = some x → ∃ a, cs = e.enc a ∧ ∀ r, (x.1.weights P t).all (· ≤ r) = true → Q r a
def RdsFs (enc : TypeId × Value → H) (P : Program) (W : World) (o : Nat) (fs : List (TypeId × Nat)) {α : Type} (e : Enc α) (Q : Nat → α → Prop) : Prop :=
  ∀ (Zj : Nat) (cs : List Value) (xs : List (DataW H × List MemPlace)), xs.length = fs.length → (∀ (i : Nat) f, fs[i]? = some f → DataW.trod enc P W 0 (fun _ => true) true Zj f.1 ((cs.drop f.2).take (P.cellsOf f.1)) = xs[i]?) →
    ∃ a, (cs.drop o).take e.sz = e.enc a ∧ ∀ r, (DataW.weightsEach P (fs.map (·.1)) (xs.map (·.1))).all (· ≤ r) = true → Q r a
theorem Eu {t : TypeId} {k : IntKind} (ht : P.underlying t = some (.int k)) : Rds enc P W t (Qv k) (fun _ n => (Lit.int k n).wf = true) := by
  intro Zj cs x h
  obtain ⟨n, rfl, rfl, hw⟩ := DataW.trod_int ht h
  exact ⟨n, rfl, fun _ _ => hw⟩
theorem Sl {t : TypeId} (ht : P.underlying t = some .string) : Rds enc P W t Qj (fun r s => s.length ≤ r) := by
  intro Zj cs x h
  obtain ⟨s, rfl, rfl, hs⟩ := DataW.trod_string ht h
  refine ⟨s.data.toList, rfl, fun r hr => ?_⟩
  simpa [DataW.weights] using hr
theorem Tb {t : TypeId} {o : Nat} {α : Type} {e : Enc α} {Q : Nat → α → Prop} (h : Rds enc P W t e Q) (hc : P.cellsOf t = e.sz) : RdsFs enc P W o [(t, o)] e Q := by
  intro Zj cs xs hl hf
  match xs, hl with
  | [x], _ =>
    have := hf 0 (t, o) rfl
    obtain ⟨a, ha, hq⟩ := h Zj _ _ this
    rw [hc] at ha
    refine ⟨a, ha, fun r hr => hq r ?_⟩
    simpa [DataW.weightsEach] using hr
theorem B9 {t : TypeId} {o : Nat} {fs : List (TypeId × Nat)} {α β : Type} {e : Enc α} {e' : Enc β} {Q : Nat → α → Prop} {Q' : Nat → β → Prop} (h : Rds enc P W t e Q) (hc : P.cellsOf t = e.sz) (hr : RdsFs enc P W (o + e.sz) fs e' Q') :
    RdsFs enc P W o ((t, o) :: fs) (Qf e e') (fun r a => Q r a.1 ∧ Q' r a.2) := by
  intro Zj cs xs hl hf
  match xs, hl with
  | x :: xs, hl =>
    have := hf 0 (t, o) rfl
    obtain ⟨a, ha, hq⟩ := h Zj _ _ this
    obtain ⟨b, hb, hq'⟩ := hr Zj cs xs (by simpa using hl) (fun i f hi => by have := hf (i + 1) f (by simpa using hi); simpa using this)
    refine ⟨(a, b), ?_, fun r hw => ?_⟩
    · show (cs.drop o).take (e.sz + e'.sz) = e.enc a ++ e'.enc b
      rw [hc] at ha
      rw [← ha, ← hb, List.take_add, List.drop_drop]
    · simp only [List.map_cons, DataW.weightsEach, List.all_append, Bool.and_eq_true] at hw
      exact ⟨hq r hw.1, hq' r hw.2⟩
theorem Fu {t : TypeId} {l : List (TypeId × Nat)} {α : Type} {e : Enc α} {Q : Nat → α → Prop} (hl : (match P.underlying t with | some (.struct fs) => some (fs.toList.map (fun f => (f.type, f.offset))) | _ => none) = some l) (hc : P.cellsOf t = e.sz)
    (hr : RdsFs enc P W 0 l e Q) : Rds enc P W t e Q := by
  intro Zj cs x hx
  split at hl
  · rename_i fs hs
    simp only [Option.some.injEq] at hl
    subst hl
    obtain ⟨xs, n, _, rfl, hlen, hxs, hg⟩ := DataW.trod_struct hs hx
    obtain ⟨a, ha, hq⟩ := hr n cs xs (by simpa using hxs) (fun i f hi => by
      rw [List.getElem?_map, Option.map_eq_some_iff] at hi
      obtain ⟨f', hf', rfl⟩ := hi
      exact hg i f' (by simpa using hf'))
    rw [List.drop_zero, List.take_of_length_le (by omega)] at ha
    refine ⟨a, ha, fun r hw => hq r ?_⟩
    simp only [DataW.weights, hs] at hw
    simpa [List.map_map, Function.comp_def] using hw
  · cases hl
theorem F8 {t : TypeId} {n : Nat} : ∀ {ds : List (DataW H)} {d : DataW H}, d ∈ ds → n ∈ d.weights P t → n ∈ DataW.weightsAll P t ds
  | d0 :: ds, d, hd, hn => by
    simp only [DataW.weightsAll, List.mem_append]
    rcases List.mem_cons.1 hd with rfl | h
    · exact .inl hn
    · exact .inr (F8 h hn)
theorem rds_row {t te : TypeId} {α : Type} {e : Enc α} {Q : Nat → α → Prop} (ht : P.underlying t = some (.slice te)) (h : Rds enc P W te e Q) (hc : P.cellsOf te = e.sz) (h0 : 0 < e.sz) {Zj : Nat} {cs : List Value} {x : DataW H × List MemPlace}
    (hx : DataW.trod enc P W 0 (fun _ => true) true Zj t cs = some x) :
    ∃ (A : Option Addr) (c : Nat) (l : List α), cs = [.slice A l.length c] ∧ RdT e W A c l ∧ ∀ r, (x.1.weights P t).all (· ≤ r) = true → l.length * P.bytesOf te ≤ r ∧ ∀ a ∈ l, Q r a := by
  rcases DataW.trod_slice ht hx with ⟨rfl, rfl⟩ | ⟨a, len, cap, elems, rest, n, _, rfl, rfl, _, hl, hm, hlen, hel, _, _⟩
  · exact ⟨none, 0, [], rfl, RdT.nil _ W, fun r _ => ⟨by simp, fun a ha => by cases ha⟩⟩
  · have each : ∀ i, i ≤ len → ∃ l : List α, l.length = i ∧ ∀ j (hj : j < l.length), W.cells? 0 (a.add (j * P.cellsOf te)) (P.cellsOf te) = some (e.enc l[j]) ∧ ∀ y, elems[j]? = some y → ∀ r, (y.1.weights P te).all (· ≤ r) = true → Q r l[j] := by
      intro i
      induction i with
      | zero => exact fun _ => ⟨[], rfl, fun j hj => by simp at hj⟩
      | succ i ih =>
        intro hi
        obtain ⟨l, hll, hlg⟩ := ih (by omega)
        have := hel i (by omega)
        rw [List.getElem?_eq_getElem (by omega), Option.bind_eq_some_iff] at this
        obtain ⟨cs', h1, h2⟩ := this
        obtain ⟨b, rfl, hb⟩ := h n cs' _ h2
        refine ⟨l ++ [b], by simp [hll], fun j hj => ?_⟩
        by_cases hji : j < l.length
        · rw [List.getElem_append_left hji]
          exact hlg j hji
        · obtain rfl : j = i := by simp at hj; omega
          subst hll
          rw [List.getElem_concat_length rfl]
          refine ⟨h1, fun y hy => ?_⟩
          rw [List.getElem?_eq_getElem (by omega), Option.some.injEq] at hy
          subst hy
          exact hb
    obtain ⟨l, hll, hlg⟩ := each len (Nat.le_refl _)
    subst hll
    refine ⟨some a, cap, l, rfl, ⟨by rw [Yh], hl, hm, fun hn => ?_⟩, fun r hw => ?_⟩
    · have cell : ∀ j (hj : j < l.length) k, k < e.sz → W.cell? ((a.add (j * e.sz)).add k) = (e.enc l[j])[k]? := by
        intro j hj k hk
        have := (hlg j hj).1
        rw [hc] at this
        exact (World.cells?_some this).2.2 k hk
      have c0 := cell 0 hn 0 h0
      rw [Nat.zero_mul, List.getElem?_eq_getElem (by rw [e.len]; exact h0)] at c0
      obtain ⟨b, off, spot⟩ := a
      obtain rfl : spot = none := by simpa [Addr.add] using World.cell?_spot c0
      have hadd : ∀ i j : Nat, ((⟨b, off, none⟩ : Addr).add i).add j = ⟨b, off + (i + j), none⟩ := by
        intro i j
        unfold Addr.add
        by_cases hi : i = 0 <;> by_cases hj : j = 0 <;> simp [hi, hj, Nat.add_assoc]
      rw [hadd] at c0
      refine ⟨b, off, rfl, block_lt_of_cell c0, fun j u hu => ?_⟩
      have hlen2 := (List.getElem?_eq_some_iff.1 hu).1
      rw [Yh] at hlen2
      have hq : j / e.sz < l.length := Nat.div_lt_of_lt_mul (by rw [Nat.mul_comm]; exact hlen2)
      have hk : j % e.sz < e.sz := Nat.mod_lt _ h0
      have hj : j = j / e.sz * e.sz + j % e.sz := by rw [Nat.mul_comm]; exact (Nat.div_add_mod j e.sz).symm
      have hce := cell (j / e.sz) hq (j % e.sz) hk
      rw [hadd, ← hj] at hce
      rw [hce]
      have hgt := Bw e (l := l) (i := j / e.sz) (x := l[j / e.sz]) (List.getElem?_eq_getElem hq) (j := j % e.sz) (u := (e.enc l[j / e.sz])[j % e.sz]'(by rw [e.len]; exact hk)) (List.getElem?_eq_getElem _)
      rw [← hj, hu] at hgt
      rw [List.getElem?_eq_getElem (by rw [e.len]; exact hk), ← hgt]
    · simp only [DataW.weights, ht, List.all_cons, Bool.and_eq_true, decide_eq_true_eq, List.all_append] at hw
      refine ⟨Nat.le_trans (Nat.mul_le_mul_right _ (by simp; omega)) hw.1, fun b hb => ?_⟩
      obtain ⟨j, hj, rfl⟩ := List.mem_iff_getElem.1 hb
      refine (hlg j hj).2 _ (List.getElem?_eq_getElem (by omega)) r ?_
      rw [List.all_eq_true] at hw ⊢
      intro m hm'
      exact hw.2.1 m (F8 (List.mem_map.2 ⟨_, List.getElem_mem (by omega), rfl⟩) hm')
variable {r0 : Reach} {b0 : Nat}
theorem open_agg {t : TypeId} {fs : Array Field} {α : Type} {e : Enc α} {Q : Nat → α → Prop} (hs : P.underlying t = some (.struct fs)) (h : Rds enc P W t e Q) {v : Value} {d : DataW H} {p : List MemPlace} (hv : Value.okWide P W r0 b0 t v)
    (hd : DataW.Trod enc P W 0 (fun _ => true) true t v d p) (hr : ∀ n ∈ d.weights P t, n ≤ reachBytes) : ∃ a, v = .agg ⟨e.enc a⟩ ∧ Q reachBytes a := by
  obtain ⟨cs, rfl, hsz⟩ := okWide_struct hs hv
  obtain ⟨Zj, hf⟩ := hd
  obtain ⟨a, ha, hq⟩ := h Zj _ _ hf
  refine ⟨a, ?_, hq _ (by rw [List.all_eq_true]; intro n hn; exact decide_eq_true (hr n hn))⟩
  simp only [Value.cells] at ha
  rw [← ha]
end
end Go.Proofs.YtoflbpmbkmephaaGreatDoor
namespace Go.Proofs.YtoflbpmbkmephaaGreatDoor
theorem reachM : reachBytes ≤ 140737488355328 := by decide
section
variable {H : Type} {enc : TypeId × Value → H} {P : Program} {W : World}
theorem rds_ds {t te : TypeId} {α : Type} {e : Enc α} {Q : Nat → α → Prop} (p : Dp α) (ht : P.underlying t = some (.slice te)) (h : Rds enc P W te e Q) (hc : P.cellsOf te = e.sz) (h0 : 0 < e.sz) (hb : Nat.ble 1 (P.bytesOf te) = true) (hp : ∀ r a, Q r a → p.ok W a) :
    Rds enc P W t (eDS e) (fun r x => (dDS e p).ok W x ∧ x.2.2.length ≤ r ∧ ∀ a ∈ x.2.2, Q r a) := by
  intro Zj cs x hx
  obtain ⟨A, c, l, rfl, hr, hq⟩ := rds_row ht h hc h0 hx
  refine ⟨(A, c, l), rfl, fun r hw => ?_⟩
  obtain ⟨h1, h2⟩ := hq r hw
  exact ⟨⟨hr, fun y hy => hp r y (h2 y hy)⟩, Nat.le_trans (Nat.le_mul_of_pos_right _ (Nat.le_of_ble_eq_true hb)) h1, h2⟩
def NetQ (r : Nat) (n : Int × Int) : Prop := (Lit.int .u32 n.1).wf = true ∧ (Lit.int .i64 n.2).wf = true
def TokQ (r : Nat) (x : List UInt8 × List UInt8 × Int) : Prop := x.1.length ≤ r ∧ x.2.1.length ≤ r ∧ (Lit.int .i64 x.2.2).wf = true
def TenDQ (W : World) (r : Nat) (y : Qg) : Prop := y.1.length ≤ r ∧ (Lit.int .i64 y.2.1).wf = true ∧ (Lit.int .i64 y.2.2.1).wf = true ∧
  ((dDS eNet dT).ok W y.2.2.2.1 ∧ y.2.2.2.1.2.2.length ≤ r ∧ ∀ n ∈ y.2.2.2.1.2.2, NetQ r n) ∧ ((dDS eTok dT).ok W y.2.2.2.2 ∧ y.2.2.2.2.2.2.length ≤ r ∧ ∀ x ∈ y.2.2.2.2.2.2, TokQ r x)
def CfgQ (W : World) (r : Nat) (c : Int × Int × Int × Int × DS Qg) : Prop := (Lit.int .i64 c.1).wf = true ∧ (Lit.int .i64 c.2.1).wf = true ∧ (Lit.int .i64 c.2.2.1).wf = true ∧ (Lit.int .i64 c.2.2.2.1).wf = true ∧
  ((dDS Vu Fv).ok W c.2.2.2.2 ∧ c.2.2.2.2.2.2.length ≤ r ∧ ∀ y ∈ c.2.2.2.2.2.2, TenDQ W r y)
theorem net_rds : Rds enc Tryz.prog W 102 eNet NetQ :=
  Fu (l := [(50, 0), (3, 1)]) (by kernel_rfl) (by kernel_rfl) (B9 (Eu Tryz.underlying50) (by kernel_rfl) (Tb (Eu Tryz.underlying3) (by kernel_rfl)))
theorem tok_rds : Rds enc Tryz.prog W 37 eTok TokQ :=
  Fu (l := [(9, 0), (9, 1), (2, 2)]) (by kernel_rfl) (by kernel_rfl) (B9 (Sl Tryz.underlying9) (by kernel_rfl) (B9 (Sl Tryz.underlying9) (by kernel_rfl) (Tb (Eu Tryz.underlying2) (by kernel_rfl))))
theorem ten_rds : Rds enc Tryz.prog W 33 Vu (TenDQ W) :=
  Fu (l := [(9, 0), (3, 1), (3, 2), (30, 3), (31, 4)]) (by kernel_rfl) (by kernel_rfl)
    (B9 (Sl Tryz.underlying9) (by kernel_rfl) (B9 (Eu Tryz.underlying3) (by kernel_rfl) (B9 (Eu Tryz.underlying3) (by kernel_rfl)
      (B9 (rds_ds dT Tryz.underlying30 net_rds (by kernel_rfl) (by decide) (by kernel_rfl) (fun _ _ _ => trivial)) (by kernel_rfl) (Tb (rds_ds dT Tryz.underlying31 tok_rds (by kernel_rfl) (by decide) (by kernel_rfl) (fun _ _ _ => trivial)) (by kernel_rfl))))))
theorem cfg_rds : Rds enc Tryz.prog W 24 (Qf (Qv .i64) (Qf (Qv .i64) (Qf (Qv .i64) (Qf (Qv .i64) (eDS Vu))))) (CfgQ W) :=
  Fu (l := [(2, 0), (2, 1), (2, 2), (2, 3), (22, 4)]) (by kernel_rfl) (by kernel_rfl)
    (B9 (Eu Tryz.underlying2) (by kernel_rfl) (B9 (Eu Tryz.underlying2) (by kernel_rfl) (B9 (Eu Tryz.underlying2) (by kernel_rfl) (B9 (Eu Tryz.underlying2) (by kernel_rfl)
      (Tb (rds_ds Fv Tryz.underlying22 ten_rds (by kernel_rfl) (by decide) (by kernel_rfl) (fun _ _ h => ⟨trivial, trivial, trivial, h.2.2.2.1.1, h.2.2.2.2.1⟩)) (by kernel_rfl))))))
theorem open_cfg {r0 : Reach} {b0 : Nat} {v : Value} {d : DataW H} {p : List MemPlace} (hv : Value.okWide Tryz.prog W r0 b0 24 v) (hd : DataW.Trod enc Tryz.prog W 0 (fun _ => true) true 24 v d p) (hr : ∀ n ∈ d.weights Tryz.prog 24, n ≤ reachBytes) :
    ∃ (a b c e : Int) (A : Option Addr) (k : Nat) (l : List Qg), v = .agg #[.int .i64 a, .int .i64 b, .int .i64 c, .int .i64 e, .slice A (List.length (List.map stT l)) k] ∧ CfgQ W reachBytes (a, b, c, e, A, k, l) := by
  obtain ⟨⟨a, b, c, e, A, k, l⟩, rfl, q⟩ := open_agg Tryz.underlying24 cfg_rds hv hd hr
  refine ⟨a, b, c, e, A, k, l, ?_, q⟩
  rw [List.length_map]
  rfl
theorem cfg_q {W : World} {a b c d : Int} {A : Option Addr} {k : Nat} {x : List Qg} (h : CfgQ W reachBytes (a, b, c, d, A, k, x)) : (List.map stT x).length ≤ 140737488355328 ∧ ∀ t ∈ List.map stT x, Pe t := by
  have hM := reachM
  obtain ⟨_, _, _, _, _, h1, h2⟩ := h
  refine ⟨by rw [List.length_map]; exact Nat.le_trans h1 hM, fun t ht => ?_⟩
  obtain ⟨y, hy, rfl⟩ := List.mem_map.1 ht
  obtain ⟨q1, q2, q3, ⟨_, q4, q5⟩, _, q6, q7⟩ := h2 y hy
  refine ⟨Nat.le_trans q1 hM, Nat.le_trans q4 hM, Nat.le_trans q6 hM, fun n hn => ?_, fun z hz => ⟨Nat.le_trans (q7 z hz).1 hM, Nat.le_trans (q7 z hz).2.1 hM⟩⟩
  have := (q5 n hn).1
  simp [Lit.wf, IntKind.min, IntKind.max, IntKind.signed, IntKind.bits] at this
  omega
end
end Go.Proofs.YtoflbpmbkmephaaGreatDoor
namespace Go.Proofs.YtoflbpmbkmephaaGreatDoor
open Go.RowKit
abbrev Tc : List (String × DataW Unit) := [("math/bits.deBruijn32tab", Rows.laid_math_bits_deBruijn32tab), ("math/bits.deBruijn64tab", Rows.laid_math_bits_deBruijn64tab), ("internal/strconv.uint64pow10", Rows.laid_internal_strconv_uint64pow10)
  , ("unicode/utf8.acceptRanges", Rows.laid_unicode_utf8_acceptRanges), ("unicode/utf8.first", Rows.laid_unicode_utf8_first)
  ]
theorem gTab : Tryz.prog.globalNamed Ff = some 1 := by kernel_rfl
theorem gTabType : (Tryz.prog.globals[1]?).map (·.type) = some 209 := by kernel_rfl
theorem cellsTab : Tryz.prog.cellsOf 209 = 20 := by kernel_rfl
theorem cellsU64 : Tryz.prog.cellsOf 196 = 1 := by kernel_rfl
theorem laid_of {W : World} (h : laidMetH Tryz.prog Tc W) : Be W := by
  have h1 := h.filter (fun x => x.1 == Ff)
  have e : Tc.filter (fun x => x.1 == Ff) = [(Ff, Lib.tabData .u64 Lib.pow10Tab)] := by kernel_rfl
  rw [e] at h1
  have ht : Lib.TabIs Tryz.prog W Ff .u64 Lib.pow10Tab := Lib.tabIs_of_head (rest := []) gTab gTabType Tryz.underlying209 Tryz.underlying196 cellsU64 cellsTab h1
  refine ⟨ht, fun g hg => ?_⟩
  obtain rfl := Option.some.inj (gTab.symm.trans hg)
  have := ht.cell gTab 0 (by decide)
  exact block_lt_of_cell this
def cells1 : DataW Unit → List Value
  | .lit (.int k z) => [.int k z]
  | .lit (.bool b) => [.bool b]
  | _ => []
def cells2 : DataW Unit → List Value
  | .agg l => l.flatMap cells1
  | d => cells1 d
def cells3 : DataW Unit → List Value
  | .agg l => l.flatMap cells2
  | d => cells2 d
def H1 (d : DataW Unit) : Obj → Obj
  | .cells _ t frozen => .cells (cells3 d).toArray t frozen
  | o => o
noncomputable def K2 (os : Os) : World :=
  { World.holding Tryz.prog os ⟨#[], #[], []⟩ with heap := ((((World.holding Tryz.prog os ⟨#[], #[], []⟩).heap.modify 4 (H1 Rows.laid_math_bits_deBruijn32tab)).modify 5 (H1 Rows.laid_math_bits_deBruijn64tab)).modify 1 (H1 Rows.laid_internal_strconv_uint64pow10)
    |>.modify 3 (H1 Rows.laid_unicode_utf8_acceptRanges) |>.modify 2 (H1 Rows.laid_unicode_utf8_first)
    ) }
end Go.Proofs.YtoflbpmbkmephaaGreatDoor
namespace Go.Proofs.YtoflbpmbkmephaaGreatDoor
open Go.ChangeShapes Go.WideShapes Go.ChangeAt Go.RowKit
open Go.ChangeMaps (open_string shut_string)
theorem F1 (H : Type) (enc : TypeId × Value → H) (W : World) (base : Nat) (args : Array Value) (ds gs : List (DataW H)) (before : List MemPlace) (vt : List TypeId)
    (hval : ∀ (j : Nat) t v, Tryz.f3.params[j]? = some t → args[j]? = some v → Value.okWide Tryz.prog W .any base t v)
    (hW : DataW.Whole enc Tryz.prog Tryz.f3.params.toList Rows.configTellsSpec.vars false W args.toList ds gs before) (hL : laidMetH Tryz.prog Rows.configTellsRow.laid W)
    (hZ : (DataW.weightsEach Tryz.prog (Tryz.f3.params.toList ++ vt) (ds ++ gs)).all (· ≤ reachBytes) = true) :
    Calls Tryz.prog 3 args W fun e W' => ∃ v, e = .returned v ∧ Rows.configTellsSpec.post enc Tryz.prog Tryz.f3 false true false false W args v W' := by
  have hW' := hW
  obtain ⟨p, q, hA0, hV, rfl, hfz, hnd⟩ := hW
  have hA : DataW.TrodAll enc Tryz.prog W 0 (fun _ => true) true Tryz.f3.params.toList args.toList ds p := hA0
  rw [Tryz.params3] at hA hval hZ
  obtain ⟨v0, vs0, d0, ds0, p0, q0, hargs, rfl, rfl, h0, r0⟩ := trodAll_cons hA
  obtain ⟨v1, vs1, d1, ds1, p1, q1, rfl, rfl, rfl, h1, r1⟩ := trodAll_cons r0
  obtain ⟨v2, vs2, d2, ds2, p2, q2, rfl, rfl, rfl, h2, r2⟩ := trodAll_cons r1
  obtain ⟨rfl, rfl, rfl⟩ := trodAll_nil r2
  obtain rfl : args = #[v0, v1, v2] := by cases args; simp_all
  obtain ⟨rfl, rfl⟩ := trodVars_none hV
  have wz : ∀ (j : Nat) t d, _ → _ → ∀ n ∈ DataW.weights Tryz.prog t d, n ≤ reachBytes := fun j t d ht hd n hn => of_decide_eq_true (List.all_eq_true.1 hZ n (DataW.weights_mem_each (j := j) ht hd n hn))
  have k0 := h0
  have lt0 : ∀ x ∈ p0, x.block < W.heap.size := by obtain ⟨m, hm⟩ := k0; exact DataW.trod_lt m _ _ _ hm
  have k1 := h1
  have lt1 : ∀ x ∈ p1, x.block < W.heap.size := by obtain ⟨m, hm⟩ := k1; exact DataW.trod_lt m _ _ _ hm
  have k2 := h2
  have lt2 : ∀ x ∈ p2, x.block < W.heap.size := by obtain ⟨m, hm⟩ := k2; exact DataW.trod_lt m _ _ _ hm
  obtain ⟨a0_0, a0_1, a0_2, a0_3, A0_, c0_, l0_, rfl, q0_⟩ := open_cfg (hval 0 24 v0 rfl rfl) h0 (wz 0 24 d0 rfl rfl)
  obtain ⟨s1_, rfl, ed1_, _, hs1_⟩ := open_string Tryz.underlying9 (hval 1 9 v1 rfl rfl) h1
  have hn1_ : s1_.data.toList.length ≤ reachBytes := (wz 1 9 d1 rfl rfl) _ (by rw [ed1_]; simp [DataW.weights])
  obtain ⟨s2_, rfl, ed2_, _, hs2_⟩ := open_string Tryz.underlying9 (hval 2 9 v2 rfl rfl) h2
  have hn2_ : s2_.data.toList.length ≤ reachBytes := (wz 2 9 d2 rfl rfl) _ (by rw [ed2_]; simp [DataW.weights])
  clear hA0
  refine (Bk A0_ c0_ a0_0 a0_1 a0_2 a0_3 l0_ s1_.data.toList s2_.data.toList W (laid_of hL) q0_.2.2.2.2.1 true (Ik _ _ _ _ _ _ _ (cfg_q q0_).1 (cfg_q q0_).2)).mono fun e W' ⟨he, bel0⟩ => ?_
  have bel := SP.keeps bel0
  subst he
  exact ⟨_, rfl, _, _, _, [], _, [], hW', trodAll_mk1 (shut_bool Tryz.underlying4 _), (trodAll_cons_mk (Below.trod Sk (by kernel_rfl) (of_decide_eq_true (by kernel_rfl)) k0 bel lt0) (trodAll_cons_mk (Below.trod Sk (by kernel_rfl) (of_decide_eq_true (by kernel_rfl)) k1 bel lt1) (trodAll_cons_mk (Below.trod Sk (by kernel_rfl) (of_decide_eq_true (by kernel_rfl)) k2 bel lt2) trodAll_mk0))), rfl, bel.frame _, fun h => by cases h⟩
theorem F2 (os : Os) : laidMet Tryz.prog Rows.configTellsRow.laid ((K2 os).forCall (fun _ _ => 0) ⟨#[], #[.agg #[.int .i64 0, .int .i64 0, .int .i64 0, .int .i64 0, .slice none 0 0], .string ⟨#[]⟩, .string ⟨#[]⟩], []⟩).memory :=
  laidMet_of_run' 8 (by kernel_rfl) (by kernel_rfl)
theorem Il (os : Os) {H : Type} (enc : TypeId × Value → H) : ∃ places, DataW.whole enc Tryz.prog ((K2 os).forCall (fun _ _ => 0) ⟨#[], #[.agg #[.int .i64 0, .int .i64 0, .int .i64 0, .int .i64 0, .slice none 0 0], .string ⟨#[]⟩, .string ⟨#[]⟩], []⟩).memory Tryz.f3.params.toList Rows.configTellsSpec.vars false [.agg #[.int .i64 0, .int .i64 0, .int .i64 0, .int .i64 0, .slice none 0 0], .string ⟨#[]⟩, .string ⟨#[]⟩] 8 = some ([.agg [.lit (.int .i64 0), .lit (.int .i64 0), .lit (.int .i64 0), .lit (.int .i64 0), .nil], .lit (.string []), .lit (.string [])], [], places) :=
  ⟨[], by kernel_rfl⟩
theorem H2 (os : Os) (started : os.Started) (H : Type) (enc : TypeId × Value → H) (F : Stop.Interp) :
    ReturnsInHanded {} Tryz.checked os 3 .any ((OpenSpec.ofChange Rows.configTellsSpec).preRow enc Tryz.prog Tryz.f3 Rows.configTellsRow.domain false Rows.configTellsRow.laid) (((OpenSpec.ofChange Rows.configTellsSpec).at F).post enc Tryz.prog Tryz.f3 false true false false) := by
  obtain ⟨places, hx⟩ := Il os enc
  refine returnsInHanded_of_row (C := Tryz.checked) (s := OpenSpec.ofChange Rows.configTellsSpec) own started (by kernel_rfl) Tryz.func3
    (witness_row_at (enc := enc) (C := Tryz.checked) false (K2 os) #[.agg #[.int .i64 0, .int .i64 0, .int .i64 0, .int .i64 0, .slice none 0 0], .string ⟨#[]⟩, .string ⟨#[]⟩] rfl (by kernel_rfl) (by kernel_rfl) (by kernel_rfl)
      (OpenSpec.preRow_of_cond 8 hx (by kernel_rfl) (fun k hk => by cases hk) (by kernel_rfl) (F2 os))) ?_
  intro W base args ds gs before hval hW _ _ hZ hL _ _
  exact F1 H enc W base args ds gs before _ hval hW hL hZ
theorem I5 : Rows.ConfigTellsSaid :=
  OpenClaim.holds_of_cond 3 Tryz.f3 rfl rfl rfl rfl rfl rfl rfl ⟨rfl, rfl, rfl, rfl, rfl⟩ rfl rfl rfl rfl rfl (by kernel_rfl) Tryz.func3 (by kernel_rfl)
    (of_decide_eq_true (by kernel_rfl)) (by unfold Func.isWrapper; first | (rw [if_pos (by decide +kernel)]; kernel_rfl) | (rw [if_neg (by decide +kernel)]; exact ⟨rfl, rfl⟩))
    (fun os started H enc _ F => by rw [OpenClaim.pre_eq_preRow]; exact H2 os started H enc F)
theorem Fm (f : FuncId) (fn : Func) (hf : Tryz.pinned.checked.prog.funcNamed Rows.configTellsRow.func = some f) (hfn : Tryz.pinned.checked.prog.funcs[f]? = some fn) :
    false = Tryz.pinned.checked.prog.looks [] ∧ ∀ (j : Nat) t, fn.params[j]? = some t → Tryz.pinned.checked.prog.wantsStandIn t = false := by
  obtain rfl : f = 3 := Option.some.inj ((show Tryz.prog.funcNamed Rows.configTellsRow.func = some 3 by kernel_rfl).symm.trans hf) |>.symm
  obtain rfl : fn = Tryz.f3 := (Option.some.inj (Tryz.func3.symm.trans hfn)).symm
  refine ⟨by kernel_rfl, fun j t ht => ?_⟩
  have ha : (Tryz.f3.params.toList.all fun t => !Tryz.prog.wantsStandIn t) = true := by kernel_rfl
  rw [List.all_eq_true] at ha
  have := ha t (by rw [← Array.getElem?_toList] at ht; exact List.mem_of_getElem? ht)
  have h2 : Tryz.prog.wantsStandIn t = false := by simpa using this
  exact h2
theorem configTells_card : Rows.ConfigTellsCardSaid :=
  Claim7.holds_tied_plain_at .later [] _ _ _ _ I5 (fun _ h => by cases h) (by kernel_rfl) (fun _ h => by cases h) configTells_row_tie rfl ⟨rfl, rfl⟩ (by kernel_rfl) rfl Fm (by kernel_rfl)
#print axioms configTells_card
end Go.Proofs.YtoflbpmbkmephaaGreatDoor
