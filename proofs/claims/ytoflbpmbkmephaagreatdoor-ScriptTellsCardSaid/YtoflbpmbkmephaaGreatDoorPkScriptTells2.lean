import Derived.Test.YtoflbpmbkmephaaGreatDoorPkScriptTells1
set_option linter.unusedSimpArgs false
set_option linter.unusedVariables false
set_option linter.unusedSectionVars false
set_option maxRecDepth 100000
set_option maxHeartbeats 40000000
namespace Go.Proofs.YtoflbpmbkmephaaGreatDoor
open Go.RowKit Go.Shelf
attribute [local go_sem] Oper.semAt_some
def X3 (st : Option (Nat × Nat)) (p : List UInt8) : Option (Nat × Nat) :=
  match st with
  | none => none
  | some (a, m) => match Qj p with
    | none => none
    | some n => if 255 < n ∨ 4 ≤ m then none else some (a * 256 + n, m + 1)
def D0 (ps : List (List UInt8)) : Option (Nat × Nat) := ps.foldl X3 (some (0, 0))
def Rb (s : List UInt8) : Option Nat := match D0 (Va 46 s) with | none => none | some (a, m) => if m = 4 then some a else none
theorem Br (ps : List (List UInt8)) (p : List UInt8) : D0 (ps ++ [p]) = X3 (D0 ps) p := by simp [D0]
theorem Dc (ps : List (List UInt8)) : ps.foldl X3 none = none := by
  induction ps with
  | nil => rfl
  | cons p ps ih => exact ih
theorem I7 {pre ps : List (List UInt8)} (h : pre <+: ps) (hn : D0 pre = none) : D0 ps = none := by
  obtain ⟨q, rfl⟩ := h
  unfold D0 at *
  rw [List.foldl_append, hn, Dc]
theorem addrSt_le {ps : List (List UInt8)} {a m : Nat} (h : D0 ps = some (a, m)) : m ≤ 4 ∧ a < 256 ^ m := by
  suffices H : ∀ (ps : List (List UInt8)) (a0 m0 : Nat), m0 ≤ 4 → a0 < 256 ^ m0 → ps.foldl X3 (some (a0, m0)) = some (a, m) → m ≤ 4 ∧ a < 256 ^ m by exact H ps 0 0 (by omega) (by decide) h
  intro ps
  induction ps with
  | nil => intro a0 m0 h1 h2 h3; simp at h3; obtain ⟨rfl, rfl⟩ := h3; exact ⟨h1, h2⟩
  | cons p ps ih =>
    intro a0 m0 h1 h2 h3
    rw [List.foldl_cons] at h3
    cases hp : Qj p with
    | none =>
      rw [show X3 (some (a0, m0)) p = none by simp only [X3, hp], Dc] at h3
      cases h3
    | some n =>
      by_cases hc : 255 < n ∨ 4 ≤ m0
      · rw [show X3 (some (a0, m0)) p = none by simp only [X3, hp, if_pos hc], Dc] at h3
        cases h3
      · rw [show X3 (some (a0, m0)) p = some (a0 * 256 + n, m0 + 1) by simp only [X3, hp, if_neg hc]] at h3
        exact ih _ _ (by omega) (by rw [Nat.pow_succ]; omega) h3
theorem u32_join (a n : Nat) (ha : a < 16777216) (hn : n < 256) : bits .or .u32 ((a : Int) * 256 % 4294967296) (n : Int) = ((a * 256 + n : Nat) : Int) := by
  rw [show (a : Int) * 256 % 4294967296 = ((a * 256 : Nat) : Int) by omega]
  have h := Nat.shiftLeft_add_eq_or_of_lt (i := 8) (b := n) (by omega) a
  rw [Nat.shiftLeft_eq] at h
  show IntKind.u32.wrap ((BitVec.ofInt 32 ((a * 256 : Nat) : Int) ||| BitVec.ofInt 32 (n : Int)).toNat : Int) = _
  rw [BitVec.toNat_or, BitVec.ofInt_natCast, BitVec.ofInt_natCast, BitVec.toNat_ofNat, BitVec.toNat_ofNat, Nat.mod_eq_of_lt (by omega), Nat.mod_eq_of_lt (by omega), show a * 256 = a * 2 ^ 8 from rfl, ← h]
  unfold IntKind.wrap
  simp only [IntKind.bits, IntKind.signed]
  simp
  omega
theorem E2 {w : World} {o : Obj} {k : Nat} (h : k = w.heap.size) : (w.alloc o).heap[k]? = some o := by subst h; exact World.alloc_heap_new w o
theorem Fy (s sep : ByteArray) (w : World) : Calls Tryz.prog 183 #[.string s, .string sep] w fun e w' =>
    e = .returned (.func (.func 202) #[] #[.pointer (some ⟨w.heap.size + 1, 0, none⟩), .pointer (some ⟨w.heap.size, 0, none⟩), .pointer (some ⟨w.heap.size + 2, 0, none⟩)]) ∧
      w' = ((w.alloc (.cells #[.string s] 9)).alloc (.cells #[.string sep] 9)).alloc (.cells #[.int .i64 0] 3) := by
  have h1 : Calls Tryz.prog 196 #[.string s, .string sep, .int .i64 0] w fun e w' =>
    e = .returned (.func (.func 202) #[] #[.pointer (some ⟨w.heap.size + 1, 0, none⟩), .pointer (some ⟨w.heap.size, 0, none⟩), .pointer (some ⟨w.heap.size + 2, 0, none⟩)]) ∧
      w' = ((w.alloc (.cells #[.string s] 9)).alloc (.cells #[.string sep] 9)).alloc (.cells #[.int .i64 0] 3) := by
    go_enter Tryz.func196, Tryz.ntmps196
    go_wp2
    go_ret
    exact ⟨by simp, rfl⟩
  go_enter Tryz.func183, Tryz.ntmps183
  go_wp2_with (go_at_call 196; refine h1.mono ?_; rintro e w' ⟨rfl, rfl⟩)
  go_ret
  exact ⟨rfl, rfl⟩
theorem addr_any (s : List UInt8) (hs : s.length ≤ 2147483648) (w : World) (hL : Gu w) :
    Calls Tryz.prog 157 #[.string ⟨s.toArray⟩] w fun e w' => e = .returned (match Rb s with | none => .tuple #[.int .u32 0, .bool false] | some a => .tuple #[.int .u32 (a : Int), .bool true]) ∧ Below w.heap.size w w' := by
  refine (callsIn_wide (n := 3)).1 ?_
  refine callsIn_of_wp_marks Tryz.func157 rfl trivial ?_ rfl
  simp only [Tryz.ntmps157, List.size_toArray, List.length_cons, List.length_nil, Nat.reduceAdd, Nat.reduceSub, Array.replicate_succ, Array.replicate_zero, List.push_toArray, List.append_toArray, List.nil_append, List.cons_append]
  gi_wp2
  refine wpIn_wide.2 (wp_scope_straight ((wpIn_wide (n := 3)).1 ?_))
  gi_wp2_with (refine ⟨trivial, fun hh => (by first | (cases hh; done) | omega), ?_⟩; gi_at_call 183; refine (callsIn_wide.2 (Fy _ _ _)).mono ?_; rintro e w' ⟨rfl, rfl⟩)
  refine wpIn_label ?_
  gi_wp2_with (refine ⟨trivial, ?_⟩; gi_at_call 183; refine (callsIn_wide.2 (Fy _ _ _)).mono ?_; rintro e w' ⟨rfl, rfl⟩)
  have hsl : s.length ≤ maxLen := by unfold maxLen; omega
  generalize hw5 : ((((((w.alloc (Obj.cells #[Value.int IntKind.u32 0] 50)).alloc (Obj.cells #[Value.int IntKind.i64 0] 3)).alloc (Obj.cells #[Value.string { data := s.toArray }] 9)).alloc (Obj.cells #[Value.string { data := #[46] }] 9)).alloc (Obj.cells #[Value.int IntKind.i64 0] 3))) = w5
  have hsz5 : w5.heap.size = w.heap.size + 5 := by rw [← hw5]; simp
  have hb5 : Below w.heap.size w w5 := by
    rw [← hw5]
    exact (((((Below.refl _ _).alloc (Nat.le_refl _) _).alloc (by simp) _).alloc (by simp; omega) _).alloc (by simp; omega) _).alloc (by simp; omega) _
  have g0 : w5.heap[w.heap.size]? = some (.cells #[.int .u32 0] 50 (0, 0)) := by rw [← hw5]; exact (Below.heap_alloc _ _ _ (by simp; try omega)).trans ((Below.heap_alloc _ _ _ (by simp; try omega)).trans ((Below.heap_alloc _ _ _ (by simp; try omega)).trans ((Below.heap_alloc _ _ _ (by simp; try omega)).trans (E2 rfl))))
  have g1 : w5.heap[w.heap.size + 1]? = some (.cells #[.int .i64 0] 3 (0, 0)) := by rw [← hw5]; exact (Below.heap_alloc _ _ _ (by simp; try omega)).trans ((Below.heap_alloc _ _ _ (by simp; try omega)).trans ((Below.heap_alloc _ _ _ (by simp; try omega)).trans (E2 (by simp))))
  have g2 : w5.heap[w.heap.size + 1 + 1]? = some (.cells #[.string ⟨s.toArray⟩] 9 (0, 0)) := by rw [← hw5]; exact (Below.heap_alloc _ _ _ (by simp; try omega)).trans ((Below.heap_alloc _ _ _ (by simp; try omega)).trans (E2 (by simp)))
  have g3 : w5.heap[w.heap.size + 1 + 1 + 1]? = some (.cells #[.string ⟨#[46]⟩] 9 (0, 0)) := by rw [← hw5]; exact (Below.heap_alloc _ _ _ (by simp; try omega)).trans (E2 (by simp))
  have g4 : w5.heap[w.heap.size + 1 + 1 + 2]? = some (.cells #[.int .i64 0] 3 (0, 0)) := by rw [← hw5]; exact E2 (by simp)
  clear hw5
  refine range_own (gf := 202) (lb := #[Value.pointer (some { block := w.heap.size + 1 + 1 + 1, off := 0 }), Value.pointer (some { block := w.heap.size + 1 + 1, off := 0 }), Value.pointer (some { block := w.heap.size + 1 + 1 + 2, off := 0 })])
    rfl (enters_of Tryz.func202 (by kernel_rfl) rfl) (encs := fun x : List UInt8 => #[.string ⟨x.toArray⟩]) (fun _ => rfl) [w.heap.size + 1 + 1 + 1, w.heap.size + 1 + 1, w.heap.size + 1 + 1 + 2] [w.heap.size, w.heap.size + 1]
    (by intro k hk; simp at hk; omega) (by intro k hk; simp at hk ⊢; omega) (S := Va 46 s) ?iter
    (fun pre W => ∃ a m, D0 pre = some (a, m) ∧ W.heap[w.heap.size]? = some (.cells #[.int .u32 (a : Int)] 50 (0, 0)) ∧ W.heap[w.heap.size + 1]? = some (.cells #[.int .i64 (m : Int)] 3 (0, 0)) ∧ Below w.heap.size w W)
    (fun c pre W => c = .exit 0 ∧ D0 pre = none ∧ (∃ v : Int, v ≠ 4 ∧ W.heap[w.heap.size + 1]? = some (.cells #[.int .i64 v] 3 (0, 0))) ∧ Below w.heap.size w W) ?hI ?hIx ⟨0, 0, rfl, g0, g1, hb5⟩
    (fun x => { tmps := #[.string ⟨s.toArray⟩, undef, .int .u32 0, .bool false, .pointer (some ⟨w.heap.size, 0, none⟩), .pointer (some ⟨w.heap.size + 1, 0, none⟩), .string ⟨x.toArray⟩, undef, undef, .string ⟨s.toArray⟩,
      .func (.func 202) #[] #[.pointer (some ⟨w.heap.size + 1 + 1 + 1, 0, none⟩), .pointer (some ⟨w.heap.size + 1 + 1, 0, none⟩), .pointer (some ⟨w.heap.size + 1 + 1 + 2, 0, none⟩)], .string ⟨x.toArray⟩, undef, undef, undef, undef, undef, undef, undef, undef, undef, undef, undef, undef, undef, undef, undef, undef, undef, undef, undef, undef, undef, undef, undef], defers := [] }) ?assign ?body ?done ?stop
  case iter =>
    intro l J Jx W hJ hY hT hJ0
    refine M1 _ l (w.heap.size + 1 + 1 + 1) (w.heap.size + 1 + 1) (w.heap.size + 1 + 1 + 2) 46 (by omega) (by omega) s hsl J Jx (fun pre W1 v hj => hJ pre W1 _ v (by simp) hj) (fun pre x r W1 hj hb hq => ?_) W ⟨(hT _ (by simp)).trans g3, (hT _ (by simp)).trans g2, (hT _ (by simp)).trans g4⟩ hJ0
    obtain ⟨fn, tmps, assign, body, hy, hR⟩ := hY pre x W1 hj hq
    refine ⟨fn, tmps, assign, body, hy, hR.mono ?_⟩
    rintro e W' (⟨h1, h2, h3⟩ | h)
    · exact .inl ⟨h1, h2, h3 _ (by simp), h3 _ (by simp), h3 _ (by simp)⟩
    · exact .inr h
  case hI =>
    rintro xs W W' ⟨a, m, h1, h2, h3, h4⟩ hm
    have hB : Below w.heap.size W W' := ⟨hm.os, hm.tape, hm.output, hm.size, fun k hk => hm.block k (Nat.lt_of_lt_of_le hk h4.size) (by simp [hsz5]; omega)⟩
    refine ⟨a, m, h1, (hm.block _ (Array.getElem?_eq_some_iff.1 h2).1 (by simp [hsz5]; try omega)).trans h2, (hm.block _ (Array.getElem?_eq_some_iff.1 h3).1 (by simp [hsz5]; try omega)).trans h3, h4.trans hB⟩
  case hIx =>
    rintro c xs W W' ⟨h0, h1, ⟨v, hv, h3⟩, h4⟩ hm
    have hB : Below w.heap.size W W' := ⟨hm.os, hm.tape, hm.output, hm.size, fun k hk => hm.block k (Nat.lt_of_lt_of_le hk h4.size) (by simp [hsz5]; omega)⟩
    exact ⟨h0, h1, ⟨v, hv, (hm.block _ (Array.getElem?_eq_some_iff.1 h3).1 (by simp [hsz5]; try omega)).trans h3⟩, h4.trans hB⟩
  case assign =>
    intro l x W K hK
    gi_wp2
    exact hK
  case body =>
    rintro l pre x W ⟨a, m, hst, hca, hcm, hB⟩ hsz ⟨q, hq⟩
    have hx : x.length ≤ s.length := Gn 46 s x (by rw [← hq]; simp)
    have hle := addrSt_le hst
    have hparse := lParse x (by omega)
    cases hp : Qj x with
    | none =>
      rw [hp] at hparse
      have hnone : D0 (pre ++ [x]) = none := by rw [Br, hst]; simp only [X3, hp]
      gi_wp2_with (refine ⟨trivial, ?_⟩; gi_at_call 135; refine (CallsIn.inRound l (callsIn_wide.2 (Ul x W (Qt hL hB) (0, false) hparse))).mono ?_; rintro e w' ⟨rfl, hsp⟩; have hb' := SP.keeps hsp; have hca2 := (hb'.block _ (Array.getElem?_eq_some_iff.1 hca).1).trans hca; have hcm2 := (hb'.block _ (Array.getElem?_eq_some_iff.1 hcm).1).trans hcm; have c1 := Bo hca2; have c2 := Bo hcm2; have f1 := Bp hca2; have f2 := Bp hcm2)
      exact ⟨(Yn hb' _).setCell (p := ⟨w.heap.size + 1, 0, none⟩) (.inl (by simp)) _, rfl, hnone, ⟨0, by decide, G6 hcm2⟩, (hB.trans (hb'.mono hB.size)).setCell (p := ⟨w.heap.size + 1, 0, none⟩) (by simp) _⟩
    | some n =>
      rw [hp] at hparse
      by_cases hn : 255 < n
      · have hnone : D0 (pre ++ [x]) = none := by rw [Br, hst]; simp only [X3, hp, if_pos (Or.inl hn : 255 < n ∨ 4 ≤ m)]
        have hn' : (255 : Int) < (n : Int) := by omega
        gi_wp2_with (refine ⟨trivial, ?_⟩; gi_at_call 135; refine (CallsIn.inRound l (callsIn_wide.2 (Ul x W (Qt hL hB) ((n : Int), true) hparse))).mono ?_; rintro e w' ⟨rfl, hsp⟩; have hb' := SP.keeps hsp; have hca2 := (hb'.block _ (Array.getElem?_eq_some_iff.1 hca).1).trans hca; have hcm2 := (hb'.block _ (Array.getElem?_eq_some_iff.1 hcm).1).trans hcm; have c1 := Bo hca2; have c2 := Bo hcm2; have f1 := Bp hca2; have f2 := Bp hcm2)
        exact ⟨(Yn hb' _).setCell (p := ⟨w.heap.size + 1, 0, none⟩) (.inl (by simp)) _, rfl, hnone, ⟨0, by decide, G6 hcm2⟩, (hB.trans (hb'.mono hB.size)).setCell (p := ⟨w.heap.size + 1, 0, none⟩) (by simp) _⟩
      · have hn' : ¬ (255 : Int) < (n : Int) := by omega
        by_cases hm : 4 ≤ m
        · have hnone : D0 (pre ++ [x]) = none := by rw [Br, hst]; simp only [X3, hp, if_pos (Or.inr hm : 255 < n ∨ 4 ≤ m)]
          have hm' : (4 : Int) < (m : Int) + 1 := by omega
          gi_wp2_with (refine ⟨trivial, ?_⟩; gi_at_call 135; refine (CallsIn.inRound l (callsIn_wide.2 (Ul x W (Qt hL hB) ((n : Int), true) hparse))).mono ?_; rintro e w' ⟨rfl, hsp⟩; have hb' := SP.keeps hsp; have hca2 := (hb'.block _ (Array.getElem?_eq_some_iff.1 hca).1).trans hca; have hcm2 := (hb'.block _ (Array.getElem?_eq_some_iff.1 hcm).1).trans hcm; have c1 := Bo hca2; have c2 := Bo hcm2; have f1 := Bp hca2; have f2 := Bp hcm2)
          have hcm3 : (w'.setCell ⟨w.heap.size, 0, none⟩ (.int .u32 (bits .or .u32 ((a : Int) * 256 % 4294967296) (n : Int)))).heap[w.heap.size + 1]? = some (.cells #[.int .i64 (m : Int)] 3 (0, 0)) := (Np (by omega)).trans hcm2
          exact ⟨((Yn hb' _).setCell (p := ⟨w.heap.size, 0, none⟩) (.inl (by simp)) _).setCell (p := ⟨w.heap.size + 1, 0, none⟩) (.inl (by simp)) _, rfl, hnone, ⟨(m : Int) + 1, by omega, G6 hcm3⟩,
            ((hB.trans (hb'.mono hB.size)).setCell (p := ⟨w.heap.size, 0, none⟩) (by simp) _).setCell (p := ⟨w.heap.size + 1, 0, none⟩) (by simp) _⟩
        · have hm' : ¬ (4 : Int) < (m : Int) + 1 := by omega
          gi_wp2_with (refine ⟨trivial, ?_⟩; gi_at_call 135; refine (CallsIn.inRound l (callsIn_wide.2 (Ul x W (Qt hL hB) ((n : Int), true) hparse))).mono ?_; rintro e w' ⟨rfl, hsp⟩; have hb' := SP.keeps hsp; have hca2 := (hb'.block _ (Array.getElem?_eq_some_iff.1 hca).1).trans hca; have hcm2 := (hb'.block _ (Array.getElem?_eq_some_iff.1 hcm).1).trans hcm; have c1 := Bo hca2; have c2 := Bo hcm2; have f1 := Bp hca2; have f2 := Bp hcm2)
          have hstep : D0 (pre ++ [x]) = some (a * 256 + n, m + 1) := by rw [Br, hst]; simp only [X3, hp, if_neg (by omega : ¬ (255 < n ∨ 4 ≤ m))]
          have ha : a < 16777216 := by
            have h3 := Nat.pow_le_pow_right (show 0 < 256 by omega) (show m ≤ 3 by omega)
            have h6 : (256 : Nat) ^ 3 = 16777216 := by decide
            omega
          have hj := u32_join a n ha (by omega)
          rw [hj]
          have hca3 : (w'.setCell ⟨w.heap.size, 0, none⟩ (.int .u32 ((a * 256 + n : Nat) : Int))).heap[w.heap.size]? = some (.cells #[.int .u32 ((a * 256 + n : Nat) : Int)] 50 (0, 0)) := G6 hca2
          have hcm3 : (w'.setCell ⟨w.heap.size, 0, none⟩ (.int .u32 ((a * 256 + n : Nat) : Int))).heap[w.heap.size + 1]? = some (.cells #[.int .i64 (m : Int)] 3 (0, 0)) := (Np (by omega)).trans hcm2
          exact ⟨((Yn hb' _).setCell (p := ⟨w.heap.size, 0, none⟩) (.inl (by simp)) _).setCell (p := ⟨w.heap.size + 1, 0, none⟩) (.inl (by simp)) _, a * 256 + n, m + 1, hstep, (Np (by omega)).trans hca3, G6 hcm3,
            ((hB.trans (hb'.mono hB.size)).setCell (p := ⟨w.heap.size, 0, none⟩) (by simp) _).setCell (p := ⟨w.heap.size + 1, 0, none⟩) (by simp) _⟩
  case done =>
    rintro W ⟨a, m, hst, hca, hcm, hB⟩ hK
    have c1 := Bo hca
    have c2 := Bo hcm
    by_cases h4 : m = 4
    · subst h4
      have hres : Rb s = some a := by unfold Rb; rw [hst]; rfl
      gi_wp2
      refine ⟨by simp, .inl ⟨_, _, rfl, run_takeDeferred hK, ?_⟩⟩
      exact ⟨_, results_tmp2 rfl _ _ _, by rw [hres]; rfl, hB.trans ((C9 W _ _).below hB.size (by simp [hsz5]))⟩
    · have hm : ((m : Int) != 4) = true := by rw [bne_iff_ne]; omega
      have hres : Rb s = none := by unfold Rb; rw [hst]; exact if_neg h4
      gi_wp2
      refine ⟨by simp, .inl ⟨_, _, rfl, run_takeDeferred hK, ?_⟩⟩
      exact ⟨_, results_tmp2 rfl _ _ _, by rw [hres]; rfl, hB.trans ((C9 W _ _).below hB.size (by simp [hsz5]))⟩
  case stop =>
    rintro c pre W hpre ⟨rfl, hst, ⟨v, hv, hcv⟩, hB⟩ hK
    have c2 := Bo hcv
    have hm : (v != 4) = true := by rw [bne_iff_ne]; exact hv
    have hres : Rb s = none := by unfold Rb; rw [I7 hpre hst]
    gi_wp2
    refine ⟨by simp, .inl ⟨_, _, rfl, run_takeDeferred hK, ?_⟩⟩
    exact ⟨_, results_tmp2 rfl _ _ _, by rw [hres]; rfl, hB.trans ((C9 W _ _).below hB.size (by simp [hsz5]))⟩
end Go.Proofs.YtoflbpmbkmephaaGreatDoor
namespace Go.Proofs.YtoflbpmbkmephaaGreatDoor
open Go.RowKit
theorem Hu {w w' : World} (h : Below w.heap.size w w') : SP [] w w' [] := ⟨Yn h [], trivial⟩
def ba (l : List UInt8) : ByteArray := ⟨l.toArray⟩
def U1 (l : List (List UInt8)) (sep : List UInt8) : Option (List UInt8) :=
  cond (Nat.ble l.length 140737488355328 && Nat.ble (Lib.join l sep).length 140737488355328) (some (Lib.join l sep)) none
theorem map_ba (l : List (List UInt8)) : (l.map ba).map (·.data.toList) = l := by
  rw [List.map_map]
  conv => rhs; rw [← List.map_id l]
  rfl
theorem Dl (A : Option Addr) (c : Nat) (l : List (List UInt8)) (sep : List UInt8) (w0 : World) (hr : RdT Qn w0 A c l) (r : List UInt8) (H : U1 l sep = some r) :
    Calls Tryz.prog 58 #[(.slice A (List.length l) c), (.string ⟨List.toArray sep⟩)] w0 (fun e w' => e = .returned (.string ⟨List.toArray r⟩) ∧ SP [] w0 w' []) := by
  unfold U1 at H
  cases hc : (Nat.ble l.length 140737488355328 && Nat.ble (Lib.join l sep).length 140737488355328) <;> rw [hc] at H
  · cases H
  injection H with H
  subst H
  rw [Bool.and_eq_true] at hc
  have h1 := Nat.le_of_ble_eq_true hc.1
  have h2 := Nat.le_of_ble_eq_true hc.2
  obtain ⟨_, hle, _, h4⟩ := hr
  by_cases h0 : l = []
  · subst h0
    refine (Tryz.strings_Join_none A c ⟨sep.toArray⟩ w0).mono ?_
    rintro e w' ⟨rfl, rfl⟩
    exact ⟨rfl, Qy [] w'⟩
  · obtain ⟨b, off, rfl, hb, hcell⟩ := h4 (by cases l with | nil => exact absurd rfl h0 | cons x r => simp)
    have hlen : (l.map ba).length = l.length := by simp
    have := Tryz.strings_Join b off c (l.map ba) ⟨sep.toArray⟩ w0 (fun j x hj => by
      rw [List.getElem?_map] at hj
      cases hx : l[j]? with
      | none => rw [hx] at hj; cases hj
      | some y =>
        rw [hx] at hj
        injection hj with hj
        subst hj
        have := Bk Qn (l := l) (i := j) (x := y) hx (j := 0) (u := .string ⟨y.toArray⟩) rfl
        have h9 := hcell _ _ this
        simpa [Qn, ba] using h9) hb (by rw [hlen]; exact h1) (by rw [hlen]; exact hle) (by rw [map_ba]; exact h2)
    rw [map_ba, hlen] at this
    refine this.mono ?_
    rintro e w' ⟨rfl, hbel⟩
    exact ⟨rfl, Hu hbel⟩
def G0 (s cs : List UInt8) : Option (List UInt8) :=
  cond (Nat.ble s.length 9223372036854775807 && (Nat.ble cs.length 4294967280 && cs.all (fun b => Nat.ble b.toNat 127))) (some (Lib.trimS s cs)) none
theorem Es (s cs : List UInt8) (w0 : World) (r : List UInt8) (H : G0 s cs = some r) :
    Calls Tryz.prog 148 #[(.string ⟨List.toArray s⟩), (.string ⟨List.toArray cs⟩)] w0 (fun e w' => e = .returned (.string ⟨List.toArray r⟩) ∧ SP [] w0 w' []) := by
  unfold G0 at H
  cases hc : (Nat.ble s.length 9223372036854775807 && (Nat.ble cs.length 4294967280 && cs.all (fun b => Nat.ble b.toNat 127))) <;> rw [hc] at H
  · cases H
  injection H with H
  subst H
  rw [Bool.and_eq_true, Bool.and_eq_true, List.all_eq_true] at hc
  have h1 := Nat.le_of_ble_eq_true hc.1
  have h2 := Nat.le_of_ble_eq_true hc.2.1
  refine (Any.strings_Trim_laid Kq (by kernel_rfl) ⟨s.toArray⟩ ⟨cs.toArray⟩ w0 (by rw [Rc]; exact h1) (by rw [Rc]; omega) (fun j b hj => by
    have := Nat.le_of_ble_eq_true (hc.2.2 b (List.mem_of_getElem? hj))
    omega)).mono ?_
  rintro e w' ⟨rfl, hbel⟩
  exact ⟨rfl, Hu hbel⟩
end Go.Proofs.YtoflbpmbkmephaaGreatDoor
namespace Go.Proofs.YtoflbpmbkmephaaGreatDoor
open Go.RowKit
def Zz (s sep : List UInt8) : Option Int := match sep with | [c] => some (Lib.indexByte s c) | _ => none
theorem Uq (s sep : List UInt8) (w0 : World) (r : Int) (H : Zz s sep = some r) :
    Calls Tryz.prog 182 #[(.string ⟨List.toArray s⟩), (.string ⟨List.toArray sep⟩)] w0 (fun e w' => e = .returned (.int .i64 r) ∧ SP [] w0 w' []) := by
  unfold Zz at H
  match sep, H with
  | [c], H =>
    injection H with H
    subst H
    refine (Tryz.stringslite_Index_one ⟨s.toArray⟩ c w0).mono ?_
    rintro e w' ⟨rfl, rfl⟩
    exact ⟨rfl, Qy [] w'⟩
def B9 (x : Option Nat) : Int × Bool := match x with | none => (0, false) | some a => ((a : Int), true)
def Rh (s : List UInt8) : Option (Int × Bool) := cond (Nat.ble s.length 2147483648) (some (B9 (Rb s))) none
theorem E3 (s : List UInt8) (w0 : World) (hL : Gu w0) (r : Int × Bool) (H : Rh s = some r) :
    Calls Tryz.prog 157 #[(.string ⟨List.toArray s⟩)] w0 (fun e w' => e = .returned (.tuple #[(.int .u32 r.1), (.bool r.2)]) ∧ SP [] w0 w' []) := by
  unfold Rh at H
  cases hs : Nat.ble s.length 2147483648 <;> rw [hs] at H
  · cases H
  injection H with H
  subst H
  refine (addr_any s (Nat.le_of_ble_eq_true hs) w0 hL).mono ?_
  rintro e w' ⟨rfl, hbel⟩
  refine ⟨?_, Hu hbel⟩
  cases Rb s with
  | none => rfl
  | some a => rfl
end Go.Proofs.YtoflbpmbkmephaaGreatDoor
namespace Go.Proofs.YtoflbpmbkmephaaGreatDoor
open Go.RowKit
def Ri (p1 : (List UInt8)) (p2 : (List UInt8)) : Option (Int) :=
  ((Zz p1 p2).bind fun z3 => (some (z3)))
theorem Ee  (p1 : (List UInt8)) (p2 : (List UInt8)) (w0 : World)  (r : (Int)) (H : Ri p1 p2 = some r) :
  Calls Tryz.prog 156 #[(.string ⟨List.toArray p1⟩), (.string ⟨List.toArray p2⟩)] w0 (fun e w' => e = .returned (.int .i64 r) ∧ SP [] w0 w' []) := by
 unfold Ri at H
 refine Ql (n := 8) Tryz.func156 K K K ?_
 have b := Qy [] w0
 refine aQ ?_
 refine aR ?_
 refine iR 1 1 [(4, (.int .i64 0))] ?_
 refine iF ?_
 refine aQ ?_
 refine aR ?_
 refine iR 2 2 [(5, (.string ⟨List.toArray p1⟩)), (6, (.string ⟨List.toArray p2⟩))] ?_
 obtain ⟨z3, c, H⟩ := Qa H
 refine iS 3 ?_
 refine cF 182 #[(.tmp 5), (.tmp 6)] #[9, 9] 7 Tryz.call182 (Uq  p1 p2 w0  z3 c) ?_
 rintro e w5 ⟨rfl, a⟩
 refine ⟨_, rfl, ?_⟩
 have d := SP.call b a
 clear a
 refine iR 1 4 [(4, (.int .i64 z3))] ?_
 refine iF ?_
 refine At.ret K ?_
 refine ⟨(.int .i64 z3), K, ?_⟩
 obtain rfl := Qb H
 exact ⟨rfl, SP.sel d [] rfl rfl⟩
def Ya (c : (List UInt8)) (b : (List (List UInt8))) (a : Int) : Option ((List (List UInt8))) :=
  ((idx b a).bind fun f => ((some (List.set b (Int.toNat a) c)).bind fun d => ((sub d 0 (IntKind.wrap .i64 (a + 1))).bind fun e => (some (e)))))
def Y8 (f : (List UInt8) → (List (List UInt8)) → Int → Option ((List (List UInt8)))) (p1 : (List UInt8)) (p2 : (List UInt8)) (p3 : Int) (e : Int) (a : (List UInt8)) (c : (List (List UInt8))) (b : Int) : Option ((List (List UInt8))) :=
  (cond (decide (b < (IntKind.wrap .i64 ((if (IntKind.wrap .i64 (((List.length p1 : Nat) : Int) + 1)) < e then (IntKind.wrap .i64 (((List.length p1 : Nat) : Int) + 1)) else e) - 1)))) ((Ri a p2).bind fun d => (cond (decide (d < 0)) (Ya a c b) ((sub a 0 (IntKind.wrap .i64 (d + p3))).bind fun g => ((idx c b).bind fun j => ((some (List.set c (Int.toNat b) g)).bind fun h => ((sub a (IntKind.wrap .i64 (d + ((List.length p2 : Nat) : Int))) ((List.length a : Nat) : Int)).bind fun i => (f i h (IntKind.wrap .i64 (b + 1))))))))) (Ya a c b))
def Yb (p1 : (List UInt8)) (p2 : (List UInt8)) (p3 : Int) (a : Int) : Nat → (List UInt8) → (List (List UInt8)) → Int → Option ((List (List UInt8)))
  | 0, _, _, _ => none
  | f + 1, b, c, d => Y8  (Yb p1 p2 p3 a f) p1 p2 p3 a b c d
def Y9 (p1 : (List UInt8)) (p2 : (List UInt8)) (p3 : Int) (a : Int) : Option ((List (List UInt8))) :=
  ((chk (decide (0 ≤ (if (IntKind.wrap .i64 (((List.length p1 : Nat) : Int) + 1)) < a then (IntKind.wrap .i64 (((List.length p1 : Nat) : Int) + 1)) else a) ∧ (if (IntKind.wrap .i64 (((List.length p1 : Nat) : Int) + 1)) < a then (IntKind.wrap .i64 (((List.length p1 : Nat) : Int) + 1)) else a) ≤ 2147483648))).bind fun _ => ((some (List.replicate (Int.toNat (if (IntKind.wrap .i64 (((List.length p1 : Nat) : Int) + 1)) < a then (IntKind.wrap .i64 (((List.length p1 : Nat) : Int) + 1)) else a)) (([] : List UInt8) : (List UInt8)))).bind fun b => (Yb p1 p2 p3 a Y1 p1 b 0)))
def Gh (p1 : (List UInt8)) (p2 : (List UInt8)) (p3 : Int) (p4 : Int) : Option ((List (List UInt8))) :=
  (cond (p4 == 0) (some (([] : List (List UInt8)))) (cond (p2 == ([] : List UInt8)) ((Bb p1 p4).bind fun a => (some (a))) (cond (decide (p4 < 0)) ((Rf p1 p2).bind fun b => (Y9 p1 p2 p3 (IntKind.wrap .i64 (b + 1)))) (Y9 p1 p2 p3 p4))))
theorem Bs  (p1 : (List UInt8)) (p2 : (List UInt8)) (p3 : Int) (p4 : Int) (w0 : World)  (r : ((List (List UInt8)))) (H : Gh p1 p2 p3 p4 = some r) :
  Calls Tryz.prog 111 #[(.string ⟨List.toArray p1⟩), (.string ⟨List.toArray p2⟩), (.int .i64 p3), (.int .i64 p4)] w0 (fun e w' => ∃ (A5 : Option Addr) (c6 : Nat), e = .returned (.slice A5 (List.length r) c6) ∧ SP [] w0 w' [Vu 9 Qn A5 c6 r]) := by
 unfold Gh at H
 refine Ql (n := 66) Tryz.func111 K K K ?_
 have a6 := Qy [] w0
 refine aQ ?_
 refine aR ?_
 refine iR 1 1 [(8, (.slice none (List.length ([] : List (List UInt8))) 0))] ?_
 refine iF ?_
 refine aQ ?_
 refine aQ ?_
 refine aR ?_
 refine iR 2 2 [(12, (.int .i64 p4)), (13, (.bool (p4 == 0)))] ?_
 refine iF ?_
 refine Vm K (o := (.tmp 13)) K (b := (p4 == 0)) K (fun b1 => ?_) (fun b1 => ?_)
 ·have H := ct H b1
  refine aQ ?_
  refine aR ?_
  refine iR 1 1 [(8, (.slice none (List.length ([] : List (List UInt8))) 0))] ?_
  refine iF ?_
  refine At.ret K ?_
  have d7 : SP [] w0 w0 [Vu 9 Qn none 0 ([] : List (List UInt8))] := X6 a6 9 Qn
  refine ⟨(.slice none (List.length ([] : List (List UInt8))) 0), K, ?_⟩
  obtain rfl := Qb H
  exact ⟨none, 0, rfl, SP.sel d7 [0] rfl rfl⟩
 ·have H := cf H b1
  refine At.skip K ?_
  refine aQ ?_
  refine aQ ?_
  refine aR ?_
  refine iR 1 1 [(14, (.string ⟨List.toArray p2⟩))] ?_
  refine iS 2 ?_
  refine Qu (op := .eql) (T := 9) (T' := 9) (x := (.tmp 14)) (y := (.const (.string ⟨List.toArray ([] : List UInt8)⟩))) (a := p2) (b := ([] : List UInt8)) (r := (.bool (p2 == ([] : List UInt8)))) (d := (some 15)) (k := 1) K rfl K K rfl ?_
  refine iF ?_
  refine Vm K (o := (.tmp 15)) K (b := (p2 == ([] : List UInt8))) K (fun b2 => ?_) (fun b2 => ?_)
  ·have H := ct H b2
   refine aQ ?_
   refine aR ?_
   refine iR 2 2 [(16, (.string ⟨List.toArray p1⟩)), (17, (.int .i64 p4))] ?_
   obtain ⟨b3, d8, H⟩ := Qa H
   refine iS 3 ?_
   refine cF 154 #[(.tmp 16), (.tmp 17)] #[9, 3] 18 Tryz.call154 (B8  p1 p4 w0  b3 d8) ?_
   rintro e g3 ⟨b4, b5, rfl, c1⟩
   refine ⟨_, rfl, ?_⟩
   have d9 := SP.call a6 c1
   clear c1
   refine iR 1 4 [(8, (.slice b4 (List.length b3) b5))] ?_
   refine iF ?_
   refine At.ret K ?_
   refine ⟨(.slice b4 (List.length b3) b5), K, ?_⟩
   obtain rfl := Qb H
   exact ⟨b4, b5, rfl, SP.sel d9 [0] rfl rfl⟩
  ·have H := cf H b2
   refine At.skip K ?_
   refine aQ ?_
   refine aQ ?_
   refine aR ?_
   refine iR 2 2 [(19, (.int .i64 p4)), (20, (.bool (decide (p4 < 0))))] ?_
   refine iF ?_
   refine At.join (fun ρ w => ∃ (f : Int), Q7 ρ [(0, (.string ⟨List.toArray p1⟩)), (1, (.string ⟨List.toArray p2⟩)), (2, (.int .i64 p3)), (3, (.int .i64 f))] ∧ SP [] w0 w [] ∧ Y9 p1 p2 p3 f = some r) ?_ ?_
   ·refine Vm K (o := (.tmp 20)) K (b := (decide (p4 < 0))) K (fun b6 => ?_) (fun b6 => ?_)
    ·have H := ct H b6
     refine aR ?_
     refine iR 2 2 [(21, (.string ⟨List.toArray p1⟩)), (22, (.string ⟨List.toArray p2⟩))] ?_
     obtain ⟨a7, e0, H⟩ := Qa H
     refine iS 3 ?_
     refine cF 155 #[(.tmp 21), (.tmp 22)] #[9, 9] 23 Tryz.call155 (Ed  p1 p2 w0  a7 e0) ?_
     rintro e g4 ⟨rfl, c2⟩
     refine ⟨_, rfl, ?_⟩
     have e1 := SP.call a6 c2
     clear c2
     refine iR 2 5 [(24, (.int .i64 (IntKind.wrap .i64 (a7 + 1)))), (3, (.int .i64 (IntKind.wrap .i64 (a7 + 1))))] ?_
     refine iF ?_
     exact ⟨(IntKind.wrap .i64 (a7 + 1)), ⟨K, K, K, K, trivial⟩, SP.sel e1 [] rfl rfl, H⟩
    ·have H := cf H b6
     refine At.skip K ?_
     exact ⟨p4, ⟨K, K, K, K, trivial⟩, SP.sel a6 [] rfl rfl, H⟩
   ·rintro ρ g5 ⟨f, hk, e2, H⟩
    unfold Y9 at H
    first | refine At.known [(0, (.string ⟨List.toArray p1⟩)), (1, (.string ⟨List.toArray p2⟩)), (2, (.int .i64 p3)), (3, (.int .i64 f))] hk ?_ | rw [← Qc (l := [(0, (.string ⟨List.toArray p1⟩)), (1, (.string ⟨List.toArray p2⟩)), (2, (.int .i64 p3)), (3, (.int .i64 f))]) hk]
    refine aQ ?_
    refine aR ?_
    refine iR 6 6 [(25, (.int .i64 f)), (26, (.string ⟨List.toArray p1⟩)), (27, (.int .i64 ((List.length p1 : Nat) : Int))), (28, (.int .i64 (IntKind.wrap .i64 (((List.length p1 : Nat) : Int) + 1)))), (29, (.int .i64 (if (IntKind.wrap .i64 (((List.length p1 : Nat) : Int) + 1)) < f then (IntKind.wrap .i64 (((List.length p1 : Nat) : Int) + 1)) else f))), (3, (.int .i64 (if (IntKind.wrap .i64 (((List.length p1 : Nat) : Int) + 1)) < f then (IntKind.wrap .i64 (((List.length p1 : Nat) : Int) + 1)) else f)))] ?_
    refine iF ?_
    refine aQ ?_
    refine aR ?_
    refine iR 1 1 [(30, (.int .i64 (if (IntKind.wrap .i64 (((List.length p1 : Nat) : Int) + 1)) < f then (IntKind.wrap .i64 (((List.length p1 : Nat) : Int) + 1)) else f)))] ?_
    obtain ⟨hl30, H⟩ := Dx H
    obtain ⟨a8, hyl29, H⟩ := Nk H
    refine iS 2 ?_
    refine Hq (e := Qn) (l' := a8) (z := ([] : List UInt8)) (v := (.string ⟨List.toArray ([] : List UInt8)⟩)) (b := 16) (T := 79) (E := 9) (x := (.tmp 30)) (y := (.tmp 30)) (k1 := .i64) (k2 := .i64) (iz := (if (IntKind.wrap .i64 (((List.length p1 : Nat) : Int) + 1)) < f then (IntKind.wrap .i64 (((List.length p1 : Nat) : Int) + 1)) else f)) (d := (some 31)) (k := 1) K rfl K K K K K rfl rfl rfl hl30 e2 hyl29 ?_
    intro b7 w32 c3 g6
    have e3 : SP [] w0 w32 [Vu 9 Qn (some ⟨b7, 0, none⟩) (Int.toNat (if (IntKind.wrap .i64 (((List.length p1 : Nat) : Int) + 1)) < f then (IntKind.wrap .i64 (((List.length p1 : Nat) : Int) + 1)) else f)) a8] := c3
    clear c3
    refine iR 1 3 [(9, (.slice (some ⟨b7, 0, none⟩) (List.length a8) (Int.toNat (if (IntKind.wrap .i64 (((List.length p1 : Nat) : Int) + 1)) < f then (IntKind.wrap .i64 (((List.length p1 : Nat) : Int) + 1)) else f))))] ?_
    refine iF ?_
    refine aQ ?_
    refine aR ?_
    refine iR 3 3 [(32, (.int .i64 (if (IntKind.wrap .i64 (((List.length p1 : Nat) : Int) + 1)) < f then (IntKind.wrap .i64 (((List.length p1 : Nat) : Int) + 1)) else f))), (33, (.int .i64 (IntKind.wrap .i64 ((if (IntKind.wrap .i64 (((List.length p1 : Nat) : Int) + 1)) < f then (IntKind.wrap .i64 (((List.length p1 : Nat) : Int) + 1)) else f) - 1)))), (3, (.int .i64 (IntKind.wrap .i64 ((if (IntKind.wrap .i64 (((List.length p1 : Nat) : Int) + 1)) < f then (IntKind.wrap .i64 (((List.length p1 : Nat) : Int) + 1)) else f) - 1))))] ?_
    refine iF ?_
    refine aQ ?_
    refine aR ?_
    refine iR 1 1 [(10, (.int .i64 0))] ?_
    refine iF ?_
    refine aQ ?_
    refine At.join (fun ρ w => ∃ (a4 : (List UInt8)) (a3 : (List (List UInt8))) (a2 : Int) (q : Option Addr) (g : Nat), Q7 ρ [(0, (.string ⟨List.toArray a4⟩)), (9, (.slice q (List.length a3) g)), (10, (.int .i64 a2))] ∧ SP [] w0 w [Vu 9 Qn q g a3] ∧ Ya a4 a3 a2 = some r) ?_ ?_
    ·refine J2 K (id := 0) K ?_
     refine Du K (fun f4 ρ w => ∃ (h : (List UInt8)) (s : (List (List UInt8))) (p : Int) (u : Option Addr) (a0 : Nat), Q7 ρ [(0, (.string ⟨List.toArray h⟩)), (1, (.string ⟨List.toArray p2⟩)), (2, (.int .i64 p3)), (3, (.int .i64 (IntKind.wrap .i64 ((if (IntKind.wrap .i64 (((List.length p1 : Nat) : Int) + 1)) < f then (IntKind.wrap .i64 (((List.length p1 : Nat) : Int) + 1)) else f) - 1)))), (9, (.slice u (List.length s) a0)), (10, (.int .i64 p))] ∧ SP [] w0 w [Vu 9 Qn u a0 s] ∧ Yb p1 p2 p3 f f4 h s p = some r) (by rintro ρ w ⟨h, s, p, u, a0, hk, hs, H⟩; cases H) ?_ Y1 ?_
     ·rintro f4 ρ e4 ⟨h, s, p, u, a0, hk, c4, H⟩
      refine At.known [(0, (.string ⟨List.toArray h⟩)), (1, (.string ⟨List.toArray p2⟩)), (2, (.int .i64 p3)), (3, (.int .i64 (IntKind.wrap .i64 ((if (IntKind.wrap .i64 (((List.length p1 : Nat) : Int) + 1)) < f then (IntKind.wrap .i64 (((List.length p1 : Nat) : Int) + 1)) else f) - 1)))), (9, (.slice u (List.length s) a0)), (10, (.int .i64 p))] hk ?_
      replace H := (show Y8 (Yb p1 p2 p3 f f4) p1 p2 p3 f h s p = some r from H)
      unfold Y8 at H
      refine aQ ?_
      refine aQ ?_
      refine aR ?_
      refine iR 3 3 [(34, (.int .i64 p)), (35, (.int .i64 (IntKind.wrap .i64 ((if (IntKind.wrap .i64 (((List.length p1 : Nat) : Int) + 1)) < f then (IntKind.wrap .i64 (((List.length p1 : Nat) : Int) + 1)) else f) - 1)))), (36, (.bool (decide (p < (IntKind.wrap .i64 ((if (IntKind.wrap .i64 (((List.length p1 : Nat) : Int) + 1)) < f then (IntKind.wrap .i64 (((List.length p1 : Nat) : Int) + 1)) else f) - 1))))))] ?_
      refine iF ?_
      refine Vm K (o := (.tmp 36)) K (b := (decide (p < (IntKind.wrap .i64 ((if (IntKind.wrap .i64 (((List.length p1 : Nat) : Int) + 1)) < f then (IntKind.wrap .i64 (((List.length p1 : Nat) : Int) + 1)) else f) - 1))))) K (fun b8 => ?_) (fun b8 => ?_)
      ·have H := ct H b8
       refine At.skip K ?_
       refine J2 K (id := 1) K ?_
       refine aQ ?_
       refine aR ?_
       refine iR 2 2 [(37, (.string ⟨List.toArray h⟩)), (38, (.string ⟨List.toArray p2⟩))] ?_
       obtain ⟨a1, e5, H⟩ := Qa H
       refine iS 3 ?_
       refine cF 156 #[(.tmp 37), (.tmp 38)] #[9, 9] 39 Tryz.call156 (Ee  h p2 e4  a1 e5) ?_
       rintro e g7 ⟨rfl, c5⟩
       refine ⟨_, rfl, ?_⟩
       have b9 := SP.call c4 c5
       clear c5
       refine iR 1 4 [(11, (.int .i64 a1))] ?_
       refine iF ?_
       refine aQ ?_
       refine aQ ?_
       refine aR ?_
       refine iR 2 2 [(40, (.int .i64 a1)), (41, (.bool (decide (a1 < 0))))] ?_
       refine iF ?_
       refine Vm K (o := (.tmp 41)) K (b := (decide (a1 < 0))) K (fun c0 => ?_) (fun c0 => ?_)
       ·have H := ct H c0
        refine At.exit K (id := 0) K ?_
        exact ⟨h, s, p, u, a0, ⟨K, K, K, trivial⟩, SP.sel b9 [0] rfl rfl, H⟩
       ·have H := cf H c0
        refine At.skip K ?_
        refine aQ ?_
        refine aR ?_
        refine iR 6 6 [(42, (.slice u (List.length s) a0)), (43, (.int .i64 p)), (44, (.string ⟨List.toArray h⟩)), (45, (.int .i64 a1)), (46, (.int .i64 p3)), (47, (.int .i64 (IntKind.wrap .i64 (a1 + p3))))] ?_
        obtain ⟨e6, e7, e8, H⟩ := Nm H
        obtain ⟨c7, hyl303⟩ : ∃ y, (List.drop (Int.toNat 0) (List.take (Int.toNat (IntKind.wrap .i64 (a1 + p3))) h)) = y := ⟨_, rfl⟩
        rw [hyl303] at H
        refine iS 7 ?_
        refine Xf (a := h) (T := 9) (x := (.tmp 44)) (lo := none) (hi := (some (.tmp 47))) (i := 0) (j := (IntKind.wrap .i64 (a1 + p3))) (d := (some 48)) (k := 6) K rfl K K rfl ⟨.i64, K⟩ e6 e7 e8 ?_
        rw [hyl303]
        obtain ⟨g8, c8, c9, g9, H⟩ := Vf H
        refine iS 8 ?_
        refine Z6 (e := Qn) (l := s) (A := u) (c := a0) (T := 79) (E := 9) (x := (.tmp 42)) (ix := (.tmp 43)) (ki := .i64) (iz := p) (d := (some 49)) (k := 7) K rfl K K K K (Q9 (SP.get b9 (i := 0) rfl)) c8 c9 ?_
        intro e9 f0 f1 h1 hc310
        obtain ⟨a9, hyl313, H⟩ := Nk H
        have hnl313 : List.length a9 = List.length s := by rw [← hyl313, List.length_set]
        refine iS 9 ?_
        refine Gy (e := Qn) (t := 9) (E := 9) (x := (.tmp 49)) (y := (.tmp 48)) (A := u) (c := a0) (l := s) (iz := p) (b := e9) (off := f0) (i := 0) (v := (.string ⟨List.toArray c7⟩)) (x' := c7) (d := none) (k := 8) K rfl K K b9 rfl f1 rfl c9 c8 rfl K ?_
        rw [hyl313]
        intro h2 f2
        refine In.known [(9, (.slice u (List.length a9) a0)), (42, (.slice u (List.length a9) a0))] ⟨(by rw [hnl313]; kernel_rfl), (by rw [hnl313]; kernel_rfl), trivial⟩ ?_
        refine iF ?_
        refine aQ ?_
        refine aR ?_
        refine iR 5 5 [(50, (.string ⟨List.toArray h⟩)), (51, (.int .i64 a1)), (52, (.string ⟨List.toArray p2⟩)), (53, (.int .i64 ((List.length p2 : Nat) : Int))), (54, (.int .i64 (IntKind.wrap .i64 (a1 + ((List.length p2 : Nat) : Int)))))] ?_
        obtain ⟨f3, f5, f6, H⟩ := Nm H
        obtain ⟨d0, hyl320⟩ : ∃ y, (List.drop (Int.toNat (IntKind.wrap .i64 (a1 + ((List.length p2 : Nat) : Int)))) (List.take (Int.toNat ((List.length h : Nat) : Int)) h)) = y := ⟨_, rfl⟩
        rw [hyl320] at H
        refine iS 6 ?_
        refine Xf (a := h) (T := 9) (x := (.tmp 50)) (lo := (some (.tmp 54))) (hi := none) (i := (IntKind.wrap .i64 (a1 + ((List.length p2 : Nat) : Int)))) (j := ((List.length h : Nat) : Int)) (d := (some 55)) (k := 5) K rfl K K ⟨.i64, K⟩ rfl f3 f5 f6 ?_
        rw [hyl320]
        refine iR 1 7 [(0, (.string ⟨List.toArray d0⟩))] ?_
        refine iF ?_
        refine aR ?_
        refine iR 3 3 [(56, (.int .i64 p)), (57, (.int .i64 (IntKind.wrap .i64 (p + 1)))), (10, (.int .i64 (IntKind.wrap .i64 (p + 1))))] ?_
        refine iF ?_
        exact ⟨d0, a9, (IntKind.wrap .i64 (p + 1)), u, a0, ⟨K, K, K, K, K, K, trivial⟩, SP.sel f2 [0] rfl rfl, H⟩
      ·have H := cf H b8
       refine At.exit K (id := 0) K ?_
       exact ⟨h, s, p, u, a0, ⟨K, K, K, trivial⟩, SP.sel c4 [0] rfl rfl, H⟩
     ·exact ⟨p1, a8, 0, (some ⟨b7, 0, none⟩), (Int.toNat (if (IntKind.wrap .i64 (((List.length p1 : Nat) : Int) + 1)) < f then (IntKind.wrap .i64 (((List.length p1 : Nat) : Int) + 1)) else f)), ⟨K, K, K, K, K, K, trivial⟩, SP.sel e3 [0] rfl rfl, H⟩
    ·rintro ρ h3 ⟨a4, a3, a2, q, g, hk, d1, H⟩
     unfold Ya at H
     first | refine At.known [(0, (.string ⟨List.toArray a4⟩)), (9, (.slice q (List.length a3) g)), (10, (.int .i64 a2))] hk ?_ | rw [← Qc (l := [(0, (.string ⟨List.toArray a4⟩)), (9, (.slice q (List.length a3) g)), (10, (.int .i64 a2))]) hk]
     refine aQ ?_
     refine aR ?_
     refine iR 3 3 [(58, (.slice q (List.length a3) g)), (59, (.int .i64 a2)), (60, (.string ⟨List.toArray a4⟩))] ?_
     obtain ⟨h4, d2, d3, h5, H⟩ := Vf H
     refine iS 4 ?_
     refine Z6 (e := Qn) (l := a3) (A := q) (c := g) (T := 79) (E := 9) (x := (.tmp 58)) (ix := (.tmp 59)) (ki := .i64) (iz := a2) (d := (some 61)) (k := 3) K rfl K K K K (Q9 (SP.get d1 (i := 0) rfl)) d2 d3 ?_
     intro f7 f8 f9 h6 hc179
     obtain ⟨a5, hyl182, H⟩ := Nk H
     have hnl182 : List.length a5 = List.length a3 := by rw [← hyl182, List.length_set]
     refine iS 5 ?_
     refine Gy (e := Qn) (t := 9) (E := 9) (x := (.tmp 61)) (y := (.tmp 60)) (A := q) (c := g) (l := a3) (iz := a2) (b := f7) (off := f8) (i := 0) (v := (.string ⟨List.toArray a4⟩)) (x' := a4) (d := none) (k := 4) K rfl K K d1 rfl f9 rfl d3 d2 rfl K ?_
     rw [hyl182]
     intro g0 d4
     refine In.known [(9, (.slice q (List.length a5) g)), (58, (.slice q (List.length a5) g))] ⟨(by rw [hnl182]; kernel_rfl), (by rw [hnl182]; kernel_rfl), trivial⟩ ?_
     refine iF ?_
     refine aQ ?_
     refine aR ?_
     refine iR 3 3 [(62, (.slice q (List.length a5) g)), (63, (.int .i64 a2)), (64, (.int .i64 (IntKind.wrap .i64 (a2 + 1))))] ?_
     obtain ⟨g1, d5, d6, H⟩ := Nm H
     obtain ⟨b0, hyl189⟩ : ∃ y, (List.drop (Int.toNat 0) (List.take (Int.toNat (IntKind.wrap .i64 (a2 + 1))) a5)) = y := ⟨_, rfl⟩
     rw [hyl189] at H
     refine iS 4 ?_
     refine Hp (e := Qn) (l := a5) (m := b0) (A := q) (c := g) (T := 79) (E := 9) (x := (.tmp 62)) (lo := none) (hi := (some (.tmp 64))) (i := 0) (j := (IntKind.wrap .i64 (a2 + 1))) (d := (some 65)) (k := 3) K rfl K K K rfl ⟨.i64, K⟩ (RdX.le (Q9 (SP.get d4 (i := 0) rfl))) g1 d5 d6 hyl189 ?_
     refine iR 1 5 [(8, (.slice (H9 Qn.sz g (Int.toNat 0) q) (List.length b0) (g - Int.toNat 0)))] ?_
     refine iF ?_
     refine At.ret K ?_
     have g2 : SP [] w0 g0 [Vu 9 Qn (H9 Qn.sz g (Int.toNat 0) q) (g - Int.toNat 0) b0] := SP.cutrow d4 (i := 0) rfl d5 d6 hyl189
     refine ⟨(.slice (H9 Qn.sz g (Int.toNat 0) q) (List.length b0) (g - Int.toNat 0)), K, ?_⟩
     obtain rfl := Qb H
     exact ⟨(H9 Qn.sz g (Int.toNat 0) q), (g - Int.toNat 0), rfl, SP.sel g2 [0] rfl rfl⟩
def U7 (p1 : (List UInt8)) (p2 : (List UInt8)) : Option ((List (List UInt8))) :=
  ((Gh p1 p2 0 (-1)).bind fun z5 => (some (z5)))
theorem R9  (p1 : (List UInt8)) (p2 : (List UInt8)) (w0 : World)  (r : ((List (List UInt8)))) (H : U7 p1 p2 = some r) :
  Calls Tryz.prog 67 #[(.string ⟨List.toArray p1⟩), (.string ⟨List.toArray p2⟩)] w0 (fun e w' => ∃ (A3 : Option Addr) (c4 : Nat), e = .returned (.slice A3 (List.length r) c4) ∧ SP [] w0 w' [Vu 9 Qn A3 c4 r]) := by
 unfold U7 at H
 refine Ql (n := 8) Tryz.func67 K K K ?_
 have c := Qy [] w0
 refine aQ ?_
 refine aR ?_
 refine iR 1 1 [(4, (.slice none (List.length ([] : List (List UInt8))) 0))] ?_
 refine iF ?_
 refine aQ ?_
 refine aR ?_
 refine iR 2 2 [(5, (.string ⟨List.toArray p1⟩)), (6, (.string ⟨List.toArray p2⟩))] ?_
 obtain ⟨z5, d, H⟩ := Qa H
 refine iS 3 ?_
 refine cF 111 #[(.tmp 5), (.tmp 6), (.const (.int .i64 (0))), (.const (.int .i64 (-1)))] #[9, 9, 3, 3] 7 Tryz.call111 (Bs  p1 p2 0 (-1) w0  z5 d) ?_
 rintro e w7 ⟨A9, a, rfl, b⟩
 refine ⟨_, rfl, ?_⟩
 have f := SP.call c b
 clear b
 refine iR 1 4 [(4, (.slice A9 (List.length z5) a))] ?_
 refine iF ?_
 refine At.ret K ?_
 refine ⟨(.slice A9 (List.length z5) a), K, ?_⟩
 obtain rfl := Qb H
 exact ⟨A9, a, rfl, SP.sel f [0] rfl rfl⟩
def Vx (v8 : Bool) : Option (Bool) :=
  (some (v8))
def Zb (p1 : (List UInt8)) (p2 : (List UInt8)) : Option (Bool) :=
  (cond (decide (((List.length p1 : Nat) : Int) ≥ ((List.length p2 : Nat) : Int))) ((sub p1 (IntKind.wrap .i64 (((List.length p1 : Nat) : Int) - ((List.length p2 : Nat) : Int))) ((List.length p1 : Nat) : Int)).bind fun a => (Vx (a == p2))) (Vx false))
theorem Gv  (p1 : (List UInt8)) (p2 : (List UInt8)) (w0 : World)  (r : (Bool)) (H : Zb p1 p2 = some r) :
  Calls Tryz.prog 163 #[(.string ⟨List.toArray p1⟩), (.string ⟨List.toArray p2⟩)] w0 (fun e w' => e = .returned (.bool r) ∧ SP [] w0 w' []) := by
 unfold Zb at H
 refine Ql (n := 21) Tryz.func163 K K K ?_
 have g := Qy [] w0
 refine aQ ?_
 refine aR ?_
 refine iR 1 1 [(4, (.bool false))] ?_
 refine iF ?_
 refine aQ ?_
 refine At.join (fun ρ w => ∃ (v8 : Bool), Q7 ρ [(4, (.bool v8))] ∧ SP [] w0 w [] ∧ Vx v8 = some r) ?_ ?_
 ·refine aR ?_
  refine iR 6 6 [(5, (.string ⟨List.toArray p1⟩)), (6, (.int .i64 ((List.length p1 : Nat) : Int))), (7, (.string ⟨List.toArray p2⟩)), (8, (.int .i64 ((List.length p2 : Nat) : Int))), (9, (.bool (decide (((List.length p1 : Nat) : Int) ≥ ((List.length p2 : Nat) : Int))))), (10, (.bool (decide (((List.length p1 : Nat) : Int) ≥ ((List.length p2 : Nat) : Int)))))] ?_
  refine In.guard (t := 10) (b := (decide (((List.length p1 : Nat) : Int) ≥ ((List.length p2 : Nat) : Int)))) K (fun f => ?_) (fun f => ?_)
  ·have H := ct H f
   refine iR 6 12 [(11, (.string ⟨List.toArray p1⟩)), (12, (.string ⟨List.toArray p1⟩)), (13, (.int .i64 ((List.length p1 : Nat) : Int))), (14, (.string ⟨List.toArray p2⟩)), (15, (.int .i64 ((List.length p2 : Nat) : Int))), (16, (.int .i64 (IntKind.wrap .i64 (((List.length p1 : Nat) : Int) - ((List.length p2 : Nat) : Int)))))] ?_
   obtain ⟨h, m, o, H⟩ := Nm H
   obtain ⟨c, hyl15⟩ : ∃ y, (List.drop (Int.toNat (IntKind.wrap .i64 (((List.length p1 : Nat) : Int) - ((List.length p2 : Nat) : Int)))) (List.take (Int.toNat ((List.length p1 : Nat) : Int)) p1)) = y := ⟨_, rfl⟩
   rw [hyl15] at H
   refine iS 13 ?_
   refine Xf (a := p1) (T := 9) (x := (.tmp 11)) (lo := (some (.tmp 16))) (hi := none) (i := (IntKind.wrap .i64 (((List.length p1 : Nat) : Int) - ((List.length p2 : Nat) : Int)))) (j := ((List.length p1 : Nat) : Int)) (d := (some 17)) (k := 12) K rfl K K ⟨.i64, K⟩ rfl h m o ?_
   rw [hyl15]
   refine iR 1 14 [(18, (.string ⟨List.toArray p2⟩))] ?_
   refine iS 15 ?_
   refine Qu (op := .eql) (T := 9) (T' := 9) (x := (.tmp 17)) (y := (.tmp 18)) (a := c) (b := p2) (r := (.bool (c == p2))) (d := (some 19)) (k := 14) K rfl K K rfl ?_
   refine iR 2 17 [(20, (.bool (c == p2))), (4, (.bool (c == p2)))] ?_
   refine iF ?_
   exact ⟨(c == p2), ⟨K, trivial⟩, SP.sel g [] rfl rfl, H⟩
  ·have H := cf H f
   refine iR 11 17 [(11, undef), (12, undef), (13, undef), (14, undef), (15, undef), (16, undef), (17, undef), (18, undef), (19, undef), (20, (.bool false)), (4, (.bool false))] ?_
   refine iF ?_
   exact ⟨false, ⟨K, trivial⟩, SP.sel g [] rfl rfl, H⟩
 ·rintro ρ w9 ⟨v8, hk, p, H⟩
  unfold Vx at H
  first | refine At.known [(4, (.bool v8))] hk ?_ | rw [← Qc (l := [(4, (.bool v8))]) hk]
  refine At.ret K ?_
  refine ⟨(.bool v8), K, ?_⟩
  obtain rfl := Qb H
  exact ⟨rfl, SP.sel p [] rfl rfl⟩
def Z5 (p1 : (List UInt8)) (p2 : (List UInt8)) : Option ((List UInt8) × Bool) :=
  ((Zb p1 p2).bind fun z3 => (cond (!z3) (some (p1, false)) ((sub p1 0 (IntKind.wrap .i64 (((List.length p1 : Nat) : Int) - ((List.length p2 : Nat) : Int)))).bind fun a => (some (a, true)))))
theorem Gw  (p1 : (List UInt8)) (p2 : (List UInt8)) (w0 : World)  (r : ((List UInt8) × Bool)) (H : Z5 p1 p2 = some r) :
  Calls Tryz.prog 141 #[(.string ⟨List.toArray p1⟩), (.string ⟨List.toArray p2⟩)] w0 (fun e w' => e = .returned (.tuple #[(.string ⟨List.toArray r.1⟩), (.bool r.2)]) ∧ SP [] w0 w' []) := by
 unfold Z5 at H
 refine Ql (n := 18) Tryz.func141 K K K ?_
 have l := Qy [] w0
 refine aQ ?_
 refine aR ?_
 refine iR 2 2 [(4, (.string ⟨List.toArray ([] : List UInt8)⟩)), (5, (.bool false))] ?_
 refine iF ?_
 refine aQ ?_
 refine aQ ?_
 refine aR ?_
 refine iR 2 2 [(6, (.string ⟨List.toArray p1⟩)), (7, (.string ⟨List.toArray p2⟩))] ?_
 obtain ⟨z3, m, H⟩ := Qa H
 refine iS 3 ?_
 refine cF 163 #[(.tmp 6), (.tmp 7)] #[9, 9] 8 Tryz.call163 (Gv  p1 p2 w0  z3 m) ?_
 rintro e w5 ⟨rfl, f⟩
 refine ⟨_, rfl, ?_⟩
 have g := SP.call l f
 clear f
 refine iR 1 4 [(9, (.bool (!z3)))] ?_
 refine iF ?_
 refine Vm K (o := (.tmp 9)) K (b := (!z3)) K (fun c => ?_) (fun c => ?_)
 ·have H := ct H c
  refine aQ ?_
  refine aR ?_
  refine iR 3 3 [(10, (.string ⟨List.toArray p1⟩)), (4, (.string ⟨List.toArray p1⟩)), (5, (.bool false))] ?_
  refine iF ?_
  refine At.ret K ?_
  refine ⟨(.tuple #[(.string ⟨List.toArray p1⟩), (.bool false)]), K, ?_⟩
  obtain rfl := Qb H
  exact ⟨rfl, SP.sel g [] rfl rfl⟩
 ·have H := cf H c
  refine At.skip K ?_
  refine aQ ?_
  refine aR ?_
  refine iR 6 6 [(11, (.string ⟨List.toArray p1⟩)), (12, (.string ⟨List.toArray p1⟩)), (13, (.int .i64 ((List.length p1 : Nat) : Int))), (14, (.string ⟨List.toArray p2⟩)), (15, (.int .i64 ((List.length p2 : Nat) : Int))), (16, (.int .i64 (IntKind.wrap .i64 (((List.length p1 : Nat) : Int) - ((List.length p2 : Nat) : Int)))))] ?_
  obtain ⟨p, q, s, H⟩ := Nm H
  obtain ⟨h, hyl13⟩ : ∃ y, (List.drop (Int.toNat 0) (List.take (Int.toNat (IntKind.wrap .i64 (((List.length p1 : Nat) : Int) - ((List.length p2 : Nat) : Int)))) p1)) = y := ⟨_, rfl⟩
  rw [hyl13] at H
  refine iS 7 ?_
  refine Xf (a := p1) (T := 9) (x := (.tmp 11)) (lo := none) (hi := (some (.tmp 16))) (i := 0) (j := (IntKind.wrap .i64 (((List.length p1 : Nat) : Int) - ((List.length p2 : Nat) : Int)))) (d := (some 17)) (k := 6) K rfl K K rfl ⟨.i64, K⟩ p q s ?_
  rw [hyl13]
  refine iR 2 9 [(4, (.string ⟨List.toArray h⟩)), (5, (.bool true))] ?_
  refine iF ?_
  refine At.ret K ?_
  refine ⟨(.tuple #[(.string ⟨List.toArray h⟩), (.bool true)]), K, ?_⟩
  obtain rfl := Qb H
  exact ⟨rfl, SP.sel g [] rfl rfl⟩
def Yx (p1 : (List UInt8)) (p2 : (List UInt8)) : Option ((List UInt8) × Bool) :=
  ((Z5 p1 p2).bind fun z3 => (some (z3.1, z3.2)))
theorem G8  (p1 : (List UInt8)) (p2 : (List UInt8)) (w0 : World)  (r : ((List UInt8) × Bool)) (H : Yx p1 p2 = some r) :
  Calls Tryz.prog 90 #[(.string ⟨List.toArray p1⟩), (.string ⟨List.toArray p2⟩)] w0 (fun e w' => e = .returned (.tuple #[(.string ⟨List.toArray r.1⟩), (.bool r.2)]) ∧ SP [] w0 w' []) := by
 unfold Yx at H
 refine Ql (n := 11) Tryz.func90 K K K ?_
 have b := Qy [] w0
 refine aQ ?_
 refine aR ?_
 refine iR 2 2 [(4, (.string ⟨List.toArray ([] : List UInt8)⟩)), (5, (.bool false))] ?_
 refine iF ?_
 refine aQ ?_
 refine aR ?_
 refine iR 2 2 [(6, (.string ⟨List.toArray p1⟩)), (7, (.string ⟨List.toArray p2⟩))] ?_
 obtain ⟨z3, c, H⟩ := Qa H
 refine iS 3 ?_
 refine cF 141 #[(.tmp 6), (.tmp 7)] #[9, 9] 8 Tryz.call141 (Gw  p1 p2 w0  z3 c) ?_
 rintro e w5 ⟨rfl, a⟩
 refine ⟨_, rfl, ?_⟩
 have d := SP.call b a
 clear a
 refine iR 4 7 [(9, (.string ⟨List.toArray z3.1⟩)), (10, (.bool z3.2)), (4, (.string ⟨List.toArray z3.1⟩)), (5, (.bool z3.2))] ?_
 refine iF ?_
 refine At.ret K ?_
 refine ⟨(.tuple #[(.string ⟨List.toArray z3.1⟩), (.bool z3.2)]), K, ?_⟩
 obtain rfl := Qb H
 exact ⟨rfl, SP.sel d [] rfl rfl⟩
end Go.Proofs.YtoflbpmbkmephaaGreatDoor
namespace Go.Proofs.YtoflbpmbkmephaaGreatDoor
open Go.RowKit
def J5 (e : (List UInt8) → Int → Option ((List UInt8))) (p1 : (List UInt8)) (b : (List UInt8)) (a : Int) : Option ((List UInt8)) :=
  (cond (decide (a < ((List.length p1 : Nat) : Int))) ((idx p1 a).bind fun c => ((idx ([48, 49, 50, 51, 52, 53, 54, 55, 56, 57, 97, 98, 99, 100, 101, 102] : List UInt8) (Ia .u8 ((c).toNat : Int) 4)).bind fun f => ((idx ([48, 49, 50, 51, 52, 53, 54, 55, 56, 57, 97, 98, 99, 100, 101, 102] : List UInt8) (bAnd .u8 ((c).toNat : Int) 15)).bind fun g => ((idx b (IntKind.wrap .i64 (2 * a))).bind fun i => ((some (List.set b (Int.toNat (IntKind.wrap .i64 (2 * a))) f)).bind fun d => ((idx d (IntKind.wrap .i64 ((IntKind.wrap .i64 (2 * a)) + 1))).bind fun j => ((some (List.set d (Int.toNat (IntKind.wrap .i64 ((IntKind.wrap .i64 (2 * a)) + 1))) g)).bind fun h => (e h (IntKind.wrap .i64 (a + 1)))))))))) (some (b)))
def J6 (p1 : (List UInt8)) : Nat → (List UInt8) → Int → Option ((List UInt8))
  | 0, _, _ => none
  | f + 1, a, b => J5  (J6 p1 f) p1 a b
def R4 (p1 : (List UInt8)) : Option ((List UInt8)) :=
  ((chk (decide (0 ≤ (IntKind.wrap .i64 (2 * ((List.length p1 : Nat) : Int))) ∧ (IntKind.wrap .i64 (2 * ((List.length p1 : Nat) : Int))) ≤ 2147483648))).bind fun _ => ((some (List.replicate (Int.toNat (IntKind.wrap .i64 (2 * ((List.length p1 : Nat) : Int)))) ((0 : UInt8) : UInt8))).bind fun l5 => (J6 p1 Y1 l5 0)))
theorem Fl (A2 : Option Addr) (c3 : Nat) (p1 : (List UInt8)) (w0 : World) (a7 : RdT eU8 w0 A2 c3 p1) (r : ((List UInt8))) (H : R4 p1 = some r) :
  Calls Tryz.prog 61 #[(.slice A2 (List.length p1) c3)] w0 (fun e w' => e = .returned (.string ⟨List.toArray r⟩) ∧ SP [] w0 w' []) := by
 unfold R4 at H
 refine Ql (n := 35) Tryz.func61 K K K ?_
 have b8 := Qy [] w0
 refine aQ ?_
 refine aR ?_
 refine iR 1 1 [(2, (.string ⟨List.toArray ([] : List UInt8)⟩))] ?_
 refine iF ?_
 refine aQ ?_
 refine aR ?_
 refine iR 3 3 [(6, (.slice A2 (List.length p1) c3)), (7, (.int .i64 ((List.length p1 : Nat) : Int))), (8, (.int .i64 (IntKind.wrap .i64 (2 * ((List.length p1 : Nat) : Int)))))] ?_
 obtain ⟨hl6, H⟩ := Dx H
 obtain ⟨l5, hyl5, H⟩ := Nk H
 refine iS 4 ?_
 refine Hq (e := eU8) (l' := l5) (z := (0 : UInt8)) (v := (.int .u8 0)) (b := 1) (T := 48) (E := 5) (x := (.tmp 8)) (y := (.tmp 8)) (k1 := .i64) (k2 := .i64) (iz := (IntKind.wrap .i64 (2 * ((List.length p1 : Nat) : Int)))) (d := (some 9)) (k := 3) K rfl K K K K K rfl rfl rfl hl6 b8 hyl5 ?_
 intro g7 w8 a8 f0
 have b9 : SP [] w0 w8 [Vu 5 eU8 (some ⟨g7, 0, none⟩) (Int.toNat (IntKind.wrap .i64 (2 * ((List.length p1 : Nat) : Int)))) l5] := a8
 clear a8
 refine iR 1 5 [(3, (.slice (some ⟨g7, 0, none⟩) (List.length l5) (Int.toNat (IntKind.wrap .i64 (2 * ((List.length p1 : Nat) : Int))))))] ?_
 refine iF ?_
 refine aQ ?_
 refine aQ ?_
 refine aR ?_
 refine iR 3 3 [(10, (.slice A2 (List.length p1) c3)), (11, (.int .i64 ((List.length p1 : Nat) : Int))), (12, (.int .i64 0))] ?_
 refine iF ?_
 refine J2 K (id := 0) K ?_
 refine Du K (fun f1 ρ w => ∃ (m : (List UInt8)) (f : Int) (g : Option Addr) (h : Nat), Q7 ρ [(3, (.slice g (List.length m) h)), (10, (.slice A2 (List.length p1) c3)), (11, (.int .i64 ((List.length p1 : Nat) : Int))), (12, (.int .i64 f))] ∧ SP [] w0 w [Vu 5 eU8 g h m] ∧ J6 p1 f1 m f = some r) (by rintro ρ w ⟨m, f, g, h, hk, hs, H⟩; cases H) ?_ Y1 ?_
 ·rintro f1 ρ f2 ⟨m, f, g, h, hk, a1, H⟩
  refine At.known [(3, (.slice g (List.length m) h)), (10, (.slice A2 (List.length p1) c3)), (11, (.int .i64 ((List.length p1 : Nat) : Int))), (12, (.int .i64 f))] hk ?_
  replace H := (show J5 (J6 p1 f1) p1 m f = some r from H)
  unfold J5 at H
  refine aQ ?_
  refine aR ?_
  refine iR 1 1 [(13, (.bool (decide (f < ((List.length p1 : Nat) : Int)))))] ?_
  refine iF ?_
  refine aQ ?_
  refine Vm K (o := (.tmp 13)) K (b := (decide (f < ((List.length p1 : Nat) : Int)))) K (fun a5 => ?_) (fun a5 => ?_)
  ·have H := ct H a5
   refine At.skip K ?_
   refine aQ ?_
   refine J2 K (id := 1) K ?_
   refine aQ ?_
   refine aR ?_
   refine iR 1 1 [(14, (.int .i64 f))] ?_
   obtain ⟨q, a9, b0, c0, H⟩ := Vf H
   refine iS 2 ?_
   refine Z6 (e := eU8) (l := p1) (A := A2) (c := c3) (T := 48) (E := 5) (x := (.tmp 10)) (ix := (.tmp 12)) (ki := .i64) (iz := f) (d := (some 15)) (k := 1) K rfl K K K K (RdT.sp a7 a1) a9 b0 ?_
   intro c1 c2 c4 f3 hc321
   refine iS 3 ?_
   refine sC 5 15 c1 (c2 + Int.toNat f * eU8.sz) (.int .u8 ((q).toNat : Int)) 16 (J3 (e := eU8) (Yr (RdT.sp a7 a1) c4 a9 b0) c0 (j := 0) rfl) ?_
   refine iR 2 5 [(4, (.int .i64 f)), (5, (.int .u8 ((q).toNat : Int)))] ?_
   refine iF ?_
   obtain ⟨a4, c5, f4, c6, H⟩ := Vf H
   obtain ⟨a2, b1, f5, b2, H⟩ := Vf H
   obtain ⟨f6, b3, b4, f7, H⟩ := Vf H
   obtain ⟨a0, hyl341, H⟩ := Nk H
   have hnl341 : List.length a0 = List.length m := by rw [← hyl341, List.length_set]
   obtain ⟨f8, b5, b6, f9, H⟩ := Vf H
   obtain ⟨a3, hyl354, H⟩ := Nk H
   have hnl354 : List.length a3 = List.length a0 := by rw [← hyl354, List.length_set]
   refine aG [GEq (.slice g (List.length m) h), GEq (.int .i64 f), GEq (.int .i64 (IntKind.wrap .i64 (2 * f))), GEq (.slice g (List.length m) h), GEq (.int .i64 f), GEq (.int .i64 (IntKind.wrap .i64 (2 * f))), GEq (.int .i64 (IntKind.wrap .i64 ((IntKind.wrap .i64 (2 * f)) + 1))), GEq (.int .u8 ((q).toNat : Int)), GEq (.int .u8 (Ia .u8 ((q).toNat : Int) 4)), GEq (.int .u8 ((a4).toNat : Int)), GEq (.int .u8 ((q).toNat : Int)), GEq (.int .u8 (bAnd .u8 ((q).toNat : Int) 15)), GEq (.int .u8 ((a2).toNat : Int)), El g eU8.sz (IntKind.wrap .i64 (2 * f)), Mb, El g eU8.sz (IntKind.wrap .i64 ((IntKind.wrap .i64 (2 * f)) + 1)), Mb] [14, 16] [sG [] [] [] w0 [Vu 5 eU8 g h m], sG [14] [undef] [] w0 [Vu 5 eU8 g h a0], sG [14, 16] [undef, undef] [] w0 [Vu 5 eU8 g h a3]] 17 2 ⟨trivial, SP.drew a1⟩ ?_ ?_
   iterate 17 refine And.intro ?_ ?_
   exact trivial
   ·exact oV (hC (hS 3 (.slice g (List.length m) h)) (h0)) (.slice g (List.length m) h)
   ·exact oV (hC (hS 4 (.int .i64 f)) (h0)) (.int .i64 f)
   ·exact oV (hC (hA 1 18) (h0)) (.int .i64 (IntKind.wrap .i64 (2 * f)))
   ·exact oV (hC (hS 3 (.slice g (List.length m) h)) (h0)) (.slice g (List.length m) h)
   ·exact oV (hC (hS 4 (.int .i64 f)) (h0)) (.int .i64 f)
   ·exact oV (hC (hA 4 21) (h0)) (.int .i64 (IntKind.wrap .i64 (2 * f)))
   ·exact oV (hC (hA 5 22) (h0)) (.int .i64 (IntKind.wrap .i64 ((IntKind.wrap .i64 (2 * f)) + 1)))
   ·exact oV (hC (hS 5 (.int .u8 ((q).toNat : Int))) (h0)) (.int .u8 ((q).toNat : Int))
   ·exact oV (hC (hA 7 24) (h0)) (.int .u8 (Ia .u8 ((q).toNat : Int) 4))
   ·refine oL 0 ?_
    ·rintro ρ' w' hs p ⟨g0, g1⟩
     refine kM (kc (kA p 8 25) k0) fun s => ?_
     refine Zd (a := ([48, 49, 50, 51, 52, 53, 54, 55, 56, 57, 97, 98, 99, 100, 101, 102] : List UInt8)) (u := a4) (T := 9) (x := (.const (.string ⟨List.toArray ([48, 49, 50, 51, 52, 53, 54, 55, 56, 57, 97, 98, 99, 100, 101, 102] : List UInt8)⟩))) (ix := (.tmp 25)) (ki := .u8) (iz := (Ia .u8 ((q).toNat : Int) 4)) (d := (some 26)) (k := 9) K rfl K K K c5 c6 ?_
     exact eK s
   ·exact oV (hC (hS 5 (.int .u8 ((q).toNat : Int))) (h0)) (.int .u8 ((q).toNat : Int))
   ·exact oV (hC (hA 10 27) (h0)) (.int .u8 (bAnd .u8 ((q).toNat : Int) 15))
   ·refine Owe.light K [0, 1] K (Qe ?_ (Qe ?_ Vl))
    ·rintro ρ' w' hs p ⟨g2, g3⟩
     refine kM (kc (kA p 11 28) k0) fun s => ?_
     refine Zd (a := ([48, 49, 50, 51, 52, 53, 54, 55, 56, 57, 97, 98, 99, 100, 101, 102] : List UInt8)) (u := a2) (T := 9) (x := (.const (.string ⟨List.toArray ([48, 49, 50, 51, 52, 53, 54, 55, 56, 57, 97, 98, 99, 100, 101, 102] : List UInt8)⟩))) (ix := (.tmp 28)) (ki := .u8) (iz := (bAnd .u8 ((q).toNat : Int) 15)) (d := (some 29)) (k := 12) K rfl K K K b1 b2 ?_
     exact eK s
    ·rintro ρ' w' hs p ⟨⟨g4, -⟩, g5⟩
     refine kM (kc (kA p 11 28) k0) fun s => ?_
     refine Zd (a := ([48, 49, 50, 51, 52, 53, 54, 55, 56, 57, 97, 98, 99, 100, 101, 102] : List UInt8)) (u := a2) (T := 9) (x := (.const (.string ⟨List.toArray ([48, 49, 50, 51, 52, 53, 54, 55, 56, 57, 97, 98, 99, 100, 101, 102] : List UInt8)⟩))) (ix := (.tmp 28)) (ki := .u8) (iz := (bAnd .u8 ((q).toNat : Int) 15)) (d := (some 29)) (k := 12) K rfl K K K b1 b2 ?_
     exact eK s
   ·refine oL 0 ?_
    ·rintro ρ' w' hs p ⟨g6, c7⟩
     refine kM (kc (kA p 0 17) (kc (kA p 2 19) k0)) fun s => ?_
     refine Z6 (e := eU8) (l := m) (A := g) (c := h) (T := 48) (E := 5) (x := (.tmp 17)) (ix := (.tmp 19)) (ki := .i64) (iz := (IntKind.wrap .i64 (2 * f))) (d := (some 30)) (k := 13) K rfl K K K K (Q9 (SP.get c7 (i := 0) rfl)) b3 b4 ?_
     intro c8 c9 d0 g8 hc378
     exact ⟨rfl, _, Qg s, ⟨c8, c9, d0, rfl⟩⟩
   ·refine oH 0 1 ?_
    ·rintro ρ' w' hs p ⟨g9, d1⟩
     obtain ⟨d2, d3, d4, d5⟩ := p 13 30 K
     refine kM (kc d5 (kc (kA p 9 26) k0)) fun s => ?_
     refine Gy (e := eU8) (t := 5) (E := 5) (x := (.tmp 30)) (y := (.tmp 26)) (A := g) (c := h) (l := m) (iz := (IntKind.wrap .i64 (2 * f))) (b := d2) (off := d3) (i := 0) (v := (.int .u8 ((a4).toNat : Int))) (x' := a4) (d := none) (k := 14) K rfl K K d1 rfl d4 rfl b4 b3 rfl K ?_
     rw [hyl341]
     intro h1 d6
     refine ⟨_, Qg s, trivial, ?_⟩
     exact (And.intro (And.intro rfl (trivial)) (d6))
   ·refine oL 1 ?_
    ·rintro ρ' w' hs p ⟨⟨h2, -⟩, d7⟩
     have a6 := p 3 20 K
     replace a6 : ρ' 20 = (.slice g (List.length a0) h) := by rw [hnl341]; exact a6
     refine kM (kc a6 (kc (kA p 6 23) k0)) fun s => ?_
     refine Z6 (e := eU8) (l := a0) (A := g) (c := h) (T := 48) (E := 5) (x := (.tmp 20)) (ix := (.tmp 23)) (ki := .i64) (iz := (IntKind.wrap .i64 ((IntKind.wrap .i64 (2 * f)) + 1))) (d := (some 31)) (k := 15) K rfl K K K K (Q9 (SP.get d7 (i := 0) rfl)) b5 b6 ?_
     intro d8 d9 e0 h3 hc394
     exact ⟨rfl, _, Qg s, ⟨d8, d9, e0, rfl⟩⟩
   ·refine oH 1 2 ?_
    ·rintro ρ' w' hs p ⟨⟨e1, -⟩, e2⟩
     obtain ⟨e4, e5, e6, e7⟩ := p 15 31 K
     refine kM (kc e7 (kc (kA p 12 29) k0)) fun s => ?_
     refine Gy (e := eU8) (t := 5) (E := 5) (x := (.tmp 31)) (y := (.tmp 29)) (A := g) (c := h) (l := a0) (iz := (IntKind.wrap .i64 ((IntKind.wrap .i64 (2 * f)) + 1))) (b := e4) (off := e5) (i := 0) (v := (.int .u8 ((a2).toNat : Int))) (x' := a2) (d := none) (k := 16) K rfl K K e2 rfl e6 rfl b6 b5 rfl K ?_
     rw [hyl354]
     intro h4 e8
     refine ⟨_, Qg s, trivial, ?_⟩
     exact (And.intro (And.intro e1 (And.intro rfl (trivial))) (e8))
   ·rintro ρ' w' hs hf ⟨⟨h5, h6, -⟩, b7⟩
    have e3 : ρ' 3 = (.slice g (List.length m) h) := (hs 3 K).trans K
    replace e3 : ρ' 3 = (.slice g (List.length a3) h) := by rw [hnl354, hnl341]; exact e3
    refine V3 [(3, (.slice g (List.length a3) h)), (10, (.slice A2 (List.length p1) c3)), (11, (.int .i64 ((List.length p1 : Nat) : Int))), (12, (.int .i64 f))] ⟨e3, (hs 10 K).trans K, (hs 11 K).trans K, (hs 12 K).trans K, trivial⟩ ?_
    obtain ⟨h7, e9⟩ : ∃ x, w' = x := ⟨_, rfl⟩
    rw [e9] at b7 ⊢
    refine aR ?_
    refine iR 2 2 [(32, (.int .i64 (IntKind.wrap .i64 (f + 1)))), (12, (.int .i64 (IntKind.wrap .i64 (f + 1))))] ?_
    refine iF ?_
    exact ⟨a3, (IntKind.wrap .i64 (f + 1)), g, h, ⟨K, K, K, K, trivial⟩, SP.sel b7 [0] rfl rfl, H⟩
  ·have H := cf H a5
   refine At.exit K (id := 0) K ?_
   refine aQ ?_
   refine aR ?_
   refine iR 1 1 [(33, (.slice g (List.length m) h))] ?_
   refine iS 2 ?_
   refine Dh (T := 48) (S' := 9) (E := 5) (x := (.tmp 33)) (A := g) (c := h) (l := m) (d := (some 34)) (k := 1) K rfl K K K K (Q9 (SP.get a1 (i := 0) rfl)) ?_
   refine iR 1 3 [(2, (.string ⟨List.toArray m⟩))] ?_
   refine iF ?_
   refine At.ret K ?_
   refine ⟨(.string ⟨List.toArray m⟩), K, ?_⟩
   obtain rfl := Qb H
   exact ⟨rfl, SP.sel a1 [] rfl rfl⟩
 ·exact ⟨l5, 0, (some ⟨g7, 0, none⟩), (Int.toNat (IntKind.wrap .i64 (2 * ((List.length p1 : Nat) : Int)))), ⟨K, K, K, K, trivial⟩, SP.sel b9 [0] rfl rfl, H⟩
def Xg (d : (List UInt8) → Int → Option ((List UInt8) × Bool)) (p1 : (List UInt8)) (b : (List UInt8)) (a : Int) : Option ((List UInt8) × Bool) :=
  (cond (decide (a < ((List.length p1 : Nat) : Int))) ((idx p1 a).bind fun e => ((J4 ([48, 49, 50, 51, 52, 53, 54, 55, 56, 57, 97, 98, 99, 100, 101, 102] : List UInt8) e).bind fun c => (cond (decide (c < 0)) (some (([] : List UInt8), false)) ((idx b (IntKind.wrap .i64 (Int.tdiv a 2))).bind fun f => ((idx b (IntKind.wrap .i64 (Int.tdiv a 2))).bind fun h => ((some (List.set b (Int.toNat (IntKind.wrap .i64 (Int.tdiv a 2))) (B6 (bOr .u8 (Oi .u8 ((f).toNat : Int) 4) (IntKind.wrap .u8 c))))).bind fun g => (d g (IntKind.wrap .i64 (a + 1))))))))) (some (b, true)))
def Yc (p1 : (List UInt8)) : Nat → (List UInt8) → Int → Option ((List UInt8) × Bool)
  | 0, _, _ => none
  | f + 1, a, b => Xg  (Yc p1 f) p1 a b
def G1 (p1 : (List UInt8)) : Option ((List UInt8) × Bool) :=
  (cond (decide ((Int.tmod ((List.length p1 : Nat) : Int) 2) > 0)) (some (([] : List UInt8), false)) ((chk (decide (0 ≤ (IntKind.wrap .i64 (Int.tdiv ((List.length p1 : Nat) : Int) 2)) ∧ (IntKind.wrap .i64 (Int.tdiv ((List.length p1 : Nat) : Int) 2)) ≤ 2147483648))).bind fun _ => ((some (List.replicate (Int.toNat (IntKind.wrap .i64 (Int.tdiv ((List.length p1 : Nat) : Int) 2))) ((0 : UInt8) : UInt8))).bind fun l7 => (Yc p1 Y1 l7 0))))
theorem Et  (p1 : (List UInt8)) (w0 : World)  (r : ((List UInt8) × Bool)) (H : G1 p1 = some r) :
  Calls Tryz.prog 161 #[(.string ⟨List.toArray p1⟩)] w0 (fun e w' => ∃ (A2 : Option Addr) (c3 : Nat), e = .returned (.tuple #[(.slice A2 (List.length r.1) c3), (.bool r.2)]) ∧ SP [] w0 w' [Vu 5 eU8 A2 c3 r.1]) := by
 unfold G1 at H
 refine Ql (n := 41) Tryz.func161 K K K ?_
 have a4 := Qy [] w0
 refine aQ ?_
 refine aR ?_
 refine iR 2 2 [(2, (.slice none (List.length ([] : List UInt8)) 0)), (3, (.bool false))] ?_
 refine iF ?_
 refine aQ ?_
 refine aQ ?_
 refine aR ?_
 refine iR 4 4 [(7, (.string ⟨List.toArray p1⟩)), (8, (.int .i64 ((List.length p1 : Nat) : Int))), (9, (.int .i64 (Int.tmod ((List.length p1 : Nat) : Int) 2))), (10, (.bool (decide ((Int.tmod ((List.length p1 : Nat) : Int) 2) > 0))))] ?_
 refine iF ?_
 refine Vm K (o := (.tmp 10)) K (b := (decide ((Int.tmod ((List.length p1 : Nat) : Int) 2) > 0))) K (fun a1 => ?_) (fun a1 => ?_)
 ·have H := ct H a1
  refine aQ ?_
  refine aR ?_
  refine iR 2 2 [(2, (.slice none (List.length ([] : List UInt8)) 0)), (3, (.bool false))] ?_
  refine iF ?_
  refine At.ret K ?_
  have b3 : SP [] w0 w0 [Vu 5 eU8 none 0 ([] : List UInt8)] := X6 a4 5 eU8
  refine ⟨(.tuple #[(.slice none (List.length ([] : List UInt8)) 0), (.bool false)]), K, ?_⟩
  obtain rfl := Qb H
  exact ⟨none, 0, rfl, SP.sel b3 [0] rfl rfl⟩
 ·have H := cf H a1
  refine At.skip K ?_
  refine aQ ?_
  refine aR ?_
  refine iR 3 3 [(11, (.string ⟨List.toArray p1⟩)), (12, (.int .i64 ((List.length p1 : Nat) : Int))), (13, (.int .i64 (IntKind.wrap .i64 (Int.tdiv ((List.length p1 : Nat) : Int) 2))))] ?_
  obtain ⟨hl8, H⟩ := Dx H
  obtain ⟨l7, hyl7, H⟩ := Nk H
  refine iS 4 ?_
  refine Hq (e := eU8) (l' := l7) (z := (0 : UInt8)) (v := (.int .u8 0)) (b := 1) (T := 48) (E := 5) (x := (.tmp 13)) (y := (.tmp 13)) (k1 := .i64) (k2 := .i64) (iz := (IntKind.wrap .i64 (Int.tdiv ((List.length p1 : Nat) : Int) 2))) (d := (some 14)) (k := 3) K rfl K K K K K rfl rfl rfl hl8 a4 hyl7 ?_
  intro g9 b4 a5 d1
  have b5 : SP [] w0 b4 [Vu 5 eU8 (some ⟨g9, 0, none⟩) (Int.toNat (IntKind.wrap .i64 (Int.tdiv ((List.length p1 : Nat) : Int) 2))) l7] := a5
  clear a5
  refine iR 1 5 [(4, (.slice (some ⟨g9, 0, none⟩) (List.length l7) (Int.toNat (IntKind.wrap .i64 (Int.tdiv ((List.length p1 : Nat) : Int) 2)))))] ?_
  refine iF ?_
  refine aQ ?_
  refine aQ ?_
  refine aR ?_
  refine iR 3 3 [(15, (.string ⟨List.toArray p1⟩)), (16, (.int .i64 ((List.length p1 : Nat) : Int))), (17, (.int .i64 0))] ?_
  refine iF ?_
  refine J2 K (id := 0) K ?_
  refine Du K (fun f1 ρ w => ∃ (m : (List UInt8)) (f : Int) (g : Option Addr) (h : Nat), Q7 ρ [(0, (.string ⟨List.toArray p1⟩)), (4, (.slice g (List.length m) h)), (16, (.int .i64 ((List.length p1 : Nat) : Int))), (17, (.int .i64 f))] ∧ SP [] w0 w [Vu 5 eU8 g h m] ∧ Yc p1 f1 m f = some r) (by rintro ρ w ⟨m, f, g, h, hk, hs, H⟩; cases H) ?_ Y1 ?_
  ·rintro f1 ρ b6 ⟨m, f, g, h, hk, a6, H⟩
   refine At.known [(0, (.string ⟨List.toArray p1⟩)), (4, (.slice g (List.length m) h)), (16, (.int .i64 ((List.length p1 : Nat) : Int))), (17, (.int .i64 f))] hk ?_
   replace H := (show Xg (Yc p1 f1) p1 m f = some r from H)
   unfold Xg at H
   refine aQ ?_
   refine aR ?_
   refine iR 1 1 [(18, (.bool (decide (f < ((List.length p1 : Nat) : Int)))))] ?_
   refine iF ?_
   refine aQ ?_
   refine Vm K (o := (.tmp 18)) K (b := (decide (f < ((List.length p1 : Nat) : Int)))) K (fun a2 => ?_) (fun a2 => ?_)
   ·have H := ct H a2
    refine At.skip K ?_
    refine aQ ?_
    refine J2 K (id := 1) K ?_
    refine aQ ?_
    refine aR ?_
    refine iR 2 2 [(19, (.int .i64 f)), (5, (.int .i64 f))] ?_
    refine iF ?_
    refine aQ ?_
    refine aR ?_
    refine iR 2 2 [(20, (.string ⟨List.toArray p1⟩)), (21, (.int .i64 f))] ?_
    obtain ⟨a7, b7, d2, b8, H⟩ := Vf H
    refine iS 3 ?_
    refine Zd (a := p1) (u := a7) (T := 9) (x := (.tmp 20)) (ix := (.tmp 21)) (ki := .i64) (iz := f) (d := (some 22)) (k := 2) K rfl K K K b7 b8 ?_
    obtain ⟨p, b9, H⟩ := Qa H
    refine iS 4 ?_
    refine cF 89 #[(.const (.string ⟨List.toArray ([48, 49, 50, 51, 52, 53, 54, 55, 56, 57, 97, 98, 99, 100, 101, 102] : List UInt8)⟩)), (.tmp 22)] #[9, 5] 23 Tryz.call89 (Ba  ([48, 49, 50, 51, 52, 53, 54, 55, 56, 57, 97, 98, 99, 100, 101, 102] : List UInt8) a7 b6  p b9) ?_
    rintro e c0 ⟨rfl, a8⟩
    refine ⟨_, rfl, ?_⟩
    have s := SP.call a6 a8
    clear a8
    refine iR 1 5 [(6, (.int .i64 p))] ?_
    refine iF ?_
    refine aQ ?_
    refine aQ ?_
    refine aR ?_
    refine iR 2 2 [(24, (.int .i64 p)), (25, (.bool (decide (p < 0))))] ?_
    refine iF ?_
    refine Vm K (o := (.tmp 25)) K (b := (decide (p < 0))) K (fun a3 => ?_) (fun a3 => ?_)
    ·have H := ct H a3
     refine aQ ?_
     refine aR ?_
     refine iR 2 2 [(2, (.slice none (List.length ([] : List UInt8)) 0)), (3, (.bool false))] ?_
     refine iF ?_
     refine At.ret K ?_
     have c1 : SP [] w0 c0 [Vu 5 eU8 g h m, Vu 5 eU8 none 0 ([] : List UInt8)] := X6 s 5 eU8
     refine ⟨(.tuple #[(.slice none (List.length ([] : List UInt8)) 0), (.bool false)]), K, ?_⟩
     obtain rfl := Qb H
     exact ⟨none, 0, rfl, SP.sel c1 [1] rfl rfl⟩
    ·have H := cf H a3
     refine At.skip K ?_
     refine aR ?_
     refine iR 6 6 [(26, (.slice g (List.length m) h)), (27, (.int .i64 f)), (28, (.int .i64 (IntKind.wrap .i64 (Int.tdiv f 2)))), (29, (.slice g (List.length m) h)), (30, (.int .i64 f)), (31, (.int .i64 (IntKind.wrap .i64 (Int.tdiv f 2))))] ?_
     obtain ⟨q, a9, b0, c2, H⟩ := Vf H
     refine iS 7 ?_
     refine Z6 (e := eU8) (l := m) (A := g) (c := h) (T := 48) (E := 5) (x := (.tmp 29)) (ix := (.tmp 31)) (ki := .i64) (iz := (IntKind.wrap .i64 (Int.tdiv f 2))) (d := (some 32)) (k := 6) K rfl K K K K (Q9 (SP.get s (i := 0) rfl)) a9 b0 ?_
     intro c4 c5 c6 d3 hc153
     refine iS 8 ?_
     refine sC 5 32 c4 (c5 + Int.toNat (IntKind.wrap .i64 (Int.tdiv f 2)) * eU8.sz) (.int .u8 ((q).toNat : Int)) 33 (J3 (e := eU8) (Yr (Q9 (SP.get s (i := 0) rfl)) c6 a9 b0) c2 (j := 0) rfl) ?_
     refine iR 4 12 [(34, (.int .u8 (Oi .u8 ((q).toNat : Int) 4))), (35, (.int .i64 p)), (36, (.int .u8 (IntKind.wrap .u8 p))), (37, (.int .u8 (bOr .u8 (Oi .u8 ((q).toNat : Int) 4) (IntKind.wrap .u8 p))))] ?_
     obtain ⟨d4, b1, b2, d5, H⟩ := Vf H
     refine iS 13 ?_
     refine Z6 (e := eU8) (l := m) (A := g) (c := h) (T := 48) (E := 5) (x := (.tmp 26)) (ix := (.tmp 28)) (ki := .i64) (iz := (IntKind.wrap .i64 (Int.tdiv f 2))) (d := (some 38)) (k := 12) K rfl K K K K (Q9 (SP.get s (i := 0) rfl)) b1 b2 ?_
     intro c7 c8 c9 d6 hc162
     obtain ⟨a0, hyl165, H⟩ := Nk H
     have hnl165 : List.length a0 = List.length m := by rw [← hyl165, List.length_set]
     refine iS 14 ?_
     refine Gy (e := eU8) (t := 5) (E := 5) (x := (.tmp 38)) (y := (.tmp 37)) (A := g) (c := h) (l := m) (iz := (IntKind.wrap .i64 (Int.tdiv f 2))) (b := c7) (off := c8) (i := 0) (v := (.int .u8 (bOr .u8 (Oi .u8 ((q).toNat : Int) 4) (IntKind.wrap .u8 p)))) (x' := (B6 (bOr .u8 (Oi .u8 ((q).toNat : Int) 4) (IntKind.wrap .u8 p)))) (d := none) (k := 13) K rfl K K s rfl c9 rfl b2 b1 (by show [Value.int .u8 (((B6 (bOr .u8 (Oi .u8 ((q).toNat : Int) 4) (IntKind.wrap .u8 p)))).toNat : Int)] = _; rw [I1 (u8_or _ _)]) K ?_
     rw [hyl165]
     intro d7 d0
     refine In.known [(4, (.slice g (List.length a0) h)), (26, (.slice g (List.length a0) h)), (29, (.slice g (List.length a0) h))] ⟨(by rw [hnl165]; kernel_rfl), (by rw [hnl165]; kernel_rfl), (by rw [hnl165]; kernel_rfl), trivial⟩ ?_
     refine iF ?_
     refine aR ?_
     refine iR 2 2 [(39, (.int .i64 (IntKind.wrap .i64 (f + 1)))), (17, (.int .i64 (IntKind.wrap .i64 (f + 1))))] ?_
     refine iF ?_
     exact ⟨a0, (IntKind.wrap .i64 (f + 1)), g, h, ⟨K, K, K, K, trivial⟩, SP.sel d0 [0] rfl rfl, H⟩
   ·have H := cf H a2
    refine At.exit K (id := 0) K ?_
    refine aQ ?_
    refine aR ?_
    refine iR 3 3 [(40, (.slice g (List.length m) h)), (2, (.slice g (List.length m) h)), (3, (.bool true))] ?_
    refine iF ?_
    refine At.ret K ?_
    refine ⟨(.tuple #[(.slice g (List.length m) h), (.bool true)]), K, ?_⟩
    obtain rfl := Qb H
    exact ⟨g, h, rfl, SP.sel a6 [0] rfl rfl⟩
  ·exact ⟨l7, 0, (some ⟨g9, 0, none⟩), (Int.toNat (IntKind.wrap .i64 (Int.tdiv ((List.length p1 : Nat) : Int) 2))), ⟨K, K, K, K, trivial⟩, SP.sel b5 [0] rfl rfl, H⟩
end Go.Proofs.YtoflbpmbkmephaaGreatDoor
namespace Go.Proofs.YtoflbpmbkmephaaGreatDoor
open Go.RowKit
def X4 (a : Bool) : Option (Bool) :=
  (some (a))
def Ur (p1 : (List UInt8)) : Option (Bool) :=
  (cond (!(p1 == ([] : List UInt8))) (cond (decide (((List.length p1 : Nat) : Int) ≤ 20)) ((G0 p1 ([97, 98, 99, 100, 101, 102, 103, 104, 105, 106, 107, 108, 109, 110, 111, 112, 113, 114, 115, 116, 117, 118, 119, 120, 121, 122, 48, 49, 50, 51, 52, 53, 54, 55, 56, 57, 45] : List UInt8)).bind fun a => (cond (a == ([] : List UInt8)) ((idx p1 0).bind fun b => (cond (((b).toNat : Int) != 45) ((idx p1 (IntKind.wrap .i64 (((List.length p1 : Nat) : Int) - 1))).bind fun c => (X4 (((c).toNat : Int) != 45))) (X4 false))) (X4 false))) (X4 false)) (X4 false))
set_option maxHeartbeats 40000000 in
theorem D1  (p1 : (List UInt8)) (w0 : World)  (r : (Bool)) (H : Ur p1 = some r) :
  Calls Tryz.prog 101 #[(.string ⟨List.toArray p1⟩)] w0 (fun e w' => e = .returned (.bool r) ∧ SP [] w0 w' []) := by
 unfold Ur at H
 refine Ql (n := 28) Tryz.func101 K K K ?_
 have i := Qy [] w0
 refine aQ ?_
 refine aR ?_
 refine iR 1 1 [(2, (.bool false))] ?_
 refine iF ?_
 refine aQ ?_
 refine At.join (fun ρ w => ∃ (c : Bool), Q7 ρ [(2, (.bool c))] ∧ SP [] w0 w [] ∧ X4 c = some r) ?_ ?_
 ·refine aR ?_
  refine iR 1 1 [(3, (.string ⟨List.toArray p1⟩))] ?_
  refine iS 2 ?_
  refine Qu (op := .neq) (T := 9) (T' := 9) (x := (.tmp 3)) (y := (.const (.string ⟨List.toArray ([] : List UInt8)⟩))) (a := p1) (b := ([] : List UInt8)) (r := (.bool (!(p1 == ([] : List UInt8))))) (d := (some 4)) (k := 1) K rfl K K rfl ?_
  refine iR 1 3 [(5, (.bool (!(p1 == ([] : List UInt8)))))] ?_
  refine In.guard (t := 5) (b := (!(p1 == ([] : List UInt8)))) K (fun j => ?_) (fun j => ?_)
  ·have H := ct H j
   refine iR 5 8 [(6, (.string ⟨List.toArray p1⟩)), (7, (.int .i64 ((List.length p1 : Nat) : Int))), (8, (.bool (decide (((List.length p1 : Nat) : Int) ≤ 20)))), (9, (.bool (decide (((List.length p1 : Nat) : Int) ≤ 20)))), (10, (.bool (decide (((List.length p1 : Nat) : Int) ≤ 20))))] ?_
   refine In.guard (t := 10) (b := (decide (((List.length p1 : Nat) : Int) ≤ 20))) K (fun m => ?_) (fun m => ?_)
   ·have H := ct H m
    refine iR 1 9 [(11, (.string ⟨List.toArray p1⟩))] ?_
    obtain ⟨f, v, H⟩ := Qa H
    refine iS 10 ?_
    refine cF 148 #[(.tmp 11), (.const (.string ⟨List.toArray ([97, 98, 99, 100, 101, 102, 103, 104, 105, 106, 107, 108, 109, 110, 111, 112, 113, 114, 115, 116, 117, 118, 119, 120, 121, 122, 48, 49, 50, 51, 52, 53, 54, 55, 56, 57, 45] : List UInt8)⟩))] #[9, 9] 12 Tryz.call148 (Es  p1 ([97, 98, 99, 100, 101, 102, 103, 104, 105, 106, 107, 108, 109, 110, 111, 112, 113, 114, 115, 116, 117, 118, 119, 120, 121, 122, 48, 49, 50, 51, 52, 53, 54, 55, 56, 57, 45] : List UInt8) w0  f v) ?_
    rintro e a4 ⟨rfl, s⟩
    refine ⟨_, rfl, ?_⟩
    have o := SP.call i s
    clear s
    refine iS 11 ?_
    refine Qu (op := .eql) (T := 9) (T' := 9) (x := (.tmp 12)) (y := (.const (.string ⟨List.toArray ([] : List UInt8)⟩))) (a := f) (b := ([] : List UInt8)) (r := (.bool (f == ([] : List UInt8)))) (d := (some 13)) (k := 10) K rfl K K rfl ?_
    refine iR 2 13 [(14, (.bool (f == ([] : List UInt8)))), (15, (.bool (f == ([] : List UInt8))))] ?_
    refine In.guard (t := 15) (b := (f == ([] : List UInt8))) K (fun p => ?_) (fun p => ?_)
    ·have H := ct H p
     refine iR 1 14 [(16, (.string ⟨List.toArray p1⟩))] ?_
     obtain ⟨g, z, a5, a0, H⟩ := Vf H
     refine iS 15 ?_
     refine Zd (a := p1) (u := g) (T := 9) (x := (.tmp 16)) (ix := (.const (.int .i64 (0)))) (ki := .i64) (iz := 0) (d := (some 17)) (k := 14) K rfl K K K z a0 ?_
     refine iR 3 18 [(18, (.bool (((g).toNat : Int) != 45))), (19, (.bool (((g).toNat : Int) != 45))), (20, (.bool (((g).toNat : Int) != 45)))] ?_
     refine In.guard (t := 20) (b := (((g).toNat : Int) != 45)) K (fun q => ?_) (fun q => ?_)
     ·have H := ct H q
      refine iR 4 22 [(21, (.string ⟨List.toArray p1⟩)), (22, (.string ⟨List.toArray p1⟩)), (23, (.int .i64 ((List.length p1 : Nat) : Int))), (24, (.int .i64 (IntKind.wrap .i64 (((List.length p1 : Nat) : Int) - 1))))] ?_
      obtain ⟨h, a1, a6, a2, H⟩ := Vf H
      refine iS 23 ?_
      refine Zd (a := p1) (u := h) (T := 9) (x := (.tmp 21)) (ix := (.tmp 24)) (ki := .i64) (iz := (IntKind.wrap .i64 (((List.length p1 : Nat) : Int) - 1))) (d := (some 25)) (k := 22) K rfl K K K a1 a2 ?_
      refine iR 3 26 [(26, (.bool (((h).toNat : Int) != 45))), (27, (.bool (((h).toNat : Int) != 45))), (2, (.bool (((h).toNat : Int) != 45)))] ?_
      refine iF ?_
      exact ⟨(((h).toNat : Int) != 45), ⟨K, trivial⟩, SP.sel o [] rfl rfl, H⟩
     ·have H := cf H q
      refine iR 8 26 [(21, undef), (22, undef), (23, undef), (24, undef), (25, undef), (26, undef), (27, (.bool false)), (2, (.bool false))] ?_
      refine iF ?_
      exact ⟨false, ⟨K, trivial⟩, SP.sel o [] rfl rfl, H⟩
    ·have H := cf H p
     refine iR 13 26 [(16, undef), (17, undef), (18, undef), (19, (.bool false)), (20, (.bool false)), (21, undef), (22, undef), (23, undef), (24, undef), (25, undef), (26, undef), (27, (.bool false)), (2, (.bool false))] ?_
     refine iF ?_
     exact ⟨false, ⟨K, trivial⟩, SP.sel o [] rfl rfl, H⟩
   ·have H := cf H m
    refine iR 18 26 [(11, undef), (12, undef), (13, undef), (14, (.bool false)), (15, (.bool false)), (16, undef), (17, undef), (18, undef), (19, (.bool false)), (20, (.bool false)), (21, undef), (22, undef), (23, undef), (24, undef), (25, undef), (26, undef), (27, (.bool false)), (2, (.bool false))] ?_
    refine iF ?_
    exact ⟨false, ⟨K, trivial⟩, SP.sel i [] rfl rfl, H⟩
  ·have H := cf H j
   refine iR 23 26 [(6, undef), (7, undef), (8, undef), (9, (.bool false)), (10, (.bool false)), (11, undef), (12, undef), (13, undef), (14, (.bool false)), (15, (.bool false)), (16, undef), (17, undef), (18, undef), (19, (.bool false)), (20, (.bool false)), (21, undef), (22, undef), (23, undef), (24, undef), (25, undef), (26, undef), (27, (.bool false)), (2, (.bool false))] ?_
   refine iF ?_
   exact ⟨false, ⟨K, trivial⟩, SP.sel i [] rfl rfl, H⟩
 ·rintro ρ a7 ⟨c, hk, a3, H⟩
  unfold X4 at H
  first | refine At.known [(2, (.bool c))] hk ?_ | rw [← Qc (l := [(2, (.bool c))]) hk]
  refine At.ret K ?_
  refine ⟨(.bool c), K, ?_⟩
  obtain rfl := Qb H
  exact ⟨rfl, SP.sel a3 [] rfl rfl⟩
def Ji (c : (List (List UInt8)) → Int → Option ((List UInt8))) (p1 : Int) (b : (List (List UInt8))) (a : Int) : Option ((List UInt8)) :=
  (cond (decide (a < 4)) ((chk (decide (0 ≤ (IntKind.wrap .i64 (24 - (IntKind.wrap .i64 (8 * a))))))).bind fun _ => ((Up (IntKind.wrap .i64 (IntKind.wrap .u8 (Ia .u32 p1 (IntKind.wrap .i64 (24 - (IntKind.wrap .i64 (8 * a)))))))).bind fun d => ((app b ([d] : List (List UInt8))).bind fun e => (c e (IntKind.wrap .i64 (a + 1)))))) ((U1 b ([46] : List UInt8)).bind fun f => (some (f))))
def Yo (p1 : Int) : Nat → (List (List UInt8)) → Int → Option ((List UInt8))
  | 0, _, _ => none
  | f + 1, a, b => Ji  (Yo p1 f) p1 a b
def Gp (p1 : Int) : Option ((List UInt8)) :=
  (Yo p1 Y1 ([] : List (List UInt8)) 0)
set_option maxHeartbeats 40000000 in
theorem E4  (p1 : Int) (w0 : World) (hL : Gu w0)  (r : ((List UInt8))) (H : Gp p1 = some r) :
  Calls Tryz.prog 109 #[(.int .u32 p1)] w0 (fun e w' => e = .returned (.string ⟨List.toArray r⟩) ∧ SP [] w0 w' []) := by
 unfold Gp at H
 refine Ql (n := 22) Tryz.func109 K K K ?_
 have a6 := Qy [] w0
 refine aQ ?_
 refine aR ?_
 refine iR 1 1 [(2, (.string ⟨List.toArray ([] : List UInt8)⟩))] ?_
 refine iF ?_
 refine aQ ?_
 refine aR ?_
 refine iR 1 1 [(3, (.slice none (List.length ([] : List (List UInt8))) 0))] ?_
 refine iF ?_
 refine aQ ?_
 refine aQ ?_
 refine aR ?_
 refine iR 1 1 [(5, (.int .i64 0))] ?_
 refine iF ?_
 refine J2 K (id := 0) K ?_
 refine Du K (fun f1 ρ w => ∃ (g : (List (List UInt8))) (f : Int) (h : Option Addr) (j : Nat), Q7 ρ [(0, (.int .u32 p1)), (3, (.slice h (List.length g) j)), (5, (.int .i64 f))] ∧ SP [] w0 w [Vu 9 Qn h j g] ∧ Yo p1 f1 g f = some r) (by rintro ρ w ⟨g, f, h, j, hk, hs, H⟩; cases H) ?_ Y1 ?_
 ·rintro f1 ρ z ⟨g, f, h, j, hk, q, H⟩
  refine At.known [(0, (.int .u32 p1)), (3, (.slice h (List.length g) j)), (5, (.int .i64 f))] hk ?_
  replace H := (show Ji (Yo p1 f1) p1 g f = some r from H)
  unfold Ji at H
  refine aQ ?_
  refine aR ?_
  refine iR 1 1 [(6, (.bool (decide (f < 4))))] ?_
  refine iF ?_
  refine aQ ?_
  refine Vm K (o := (.tmp 6)) K (b := (decide (f < 4))) K (fun t => ?_) (fun t => ?_)
  ·have H := ct H t
   refine At.skip K ?_
   refine aQ ?_
   refine J2 K (id := 1) K ?_
   refine aQ ?_
   refine aR ?_
   refine iR 2 2 [(7, (.int .i64 f)), (4, (.int .i64 f))] ?_
   refine iF ?_
   refine aR ?_
   refine iR 5 5 [(8, (.slice h (List.length g) j)), (9, (.int .u32 p1)), (10, (.int .i64 f)), (11, (.int .i64 (IntKind.wrap .i64 (8 * f)))), (12, (.int .i64 (IntKind.wrap .i64 (24 - (IntKind.wrap .i64 (8 * f))))))] ?_
   obtain ⟨hl63, H⟩ := Dx H
   refine iS 6 ?_
   refine Qh.shift (op := .shr) (T := 50) (T' := 3) (x := (.tmp 9)) (y := (.tmp 12)) (kx := .u32) (ky := .i64) (a := p1) (b := (IntKind.wrap .i64 (24 - (IntKind.wrap .i64 (8 * f))))) (v := (.int .u32 (Ia .u32 p1 (IntKind.wrap .i64 (24 - (IntKind.wrap .i64 (8 * f))))))) (d := (some 13)) (k := 5) K rfl K K (of_decide_eq_true hl63) rfl ?_
   refine iR 2 8 [(14, (.int .u8 (IntKind.wrap .u8 (Ia .u32 p1 (IntKind.wrap .i64 (24 - (IntKind.wrap .i64 (8 * f)))))))), (15, (.int .i64 (IntKind.wrap .i64 (IntKind.wrap .u8 (Ia .u32 p1 (IntKind.wrap .i64 (24 - (IntKind.wrap .i64 (8 * f)))))))))] ?_
   obtain ⟨p, a7, H⟩ := Qa H
   refine iS 9 ?_
   refine cF 59 #[(.tmp 15)] #[2] 16 Tryz.call59 (Gg  (IntKind.wrap .i64 (IntKind.wrap .u8 (Ia .u32 p1 (IntKind.wrap .i64 (24 - (IntKind.wrap .i64 (8 * f))))))) z (Qt hL (SP.keeps q)) p a7) ?_
   rintro e b3 ⟨rfl, a0⟩
   refine ⟨_, rfl, ?_⟩
   have a8 := SP.call q a0
   clear a0
   refine iS 10 ?_
   refine Vy (e := Qn) (T := 79) (E := 9) (len := 1) (parts := #[(0, (.tmp 16))]) (cs := #[(.string ⟨List.toArray p⟩)]) ([p] : List (List UInt8)) (d := (some 17)) (k := 9) K rfl (fun _ => K) a8 rfl rfl rfl rfl ?_
   intro a9 b4 a1
   obtain ⟨hl74, H⟩ := Vb H
   obtain ⟨a2, hyl75⟩ : ∃ y, g ++ ([p] : List (List UInt8)) = y := ⟨_, rfl⟩
   rw [hyl75] at H
   refine iS 11 ?_
   refine Qh.append (e := Qn) (l := g) (m := ([p] : List (List UInt8))) (A := h) (c := j) (T := 79) (TX := 79) (E := 9) (b := 16) (s := (.tmp 8)) (x := (.tmp 17)) (i := 0) (vx := (.slice (some ⟨a9, 0, none⟩) (List.length ([p] : List (List UInt8))) (List.length ([p] : List (List UInt8))))) (d := (some 18)) (k := 10) K rfl K K K K rfl a1 rfl (Ep (E := 9) K (Q9 (SP.get a1 (i := 1) rfl))) hl74 ?_
   rw [hyl75]
   intro a3 a4 b5 b0
   refine iR 1 12 [(3, (.slice a3 (List.length a2) a4))] ?_
   refine iF ?_
   refine aR ?_
   refine iR 2 2 [(19, (.int .i64 (IntKind.wrap .i64 (f + 1)))), (5, (.int .i64 (IntKind.wrap .i64 (f + 1))))] ?_
   refine iF ?_
   exact ⟨a2, (IntKind.wrap .i64 (f + 1)), a3, a4, ⟨K, K, K, trivial⟩, SP.sel b0 [0] rfl rfl, H⟩
  ·have H := cf H t
   refine At.exit K (id := 0) K ?_
   refine aQ ?_
   refine aR ?_
   refine iR 1 1 [(20, (.slice h (List.length g) j))] ?_
   obtain ⟨u, b1, H⟩ := Qa H
   refine iS 2 ?_
   refine cF 58 #[(.tmp 20), (.const (.string ⟨List.toArray ([46] : List UInt8)⟩))] #[79, 9] 21 Tryz.call58 (Dl h j g ([46] : List UInt8) z (Q9 (SP.get q (i := 0) rfl)) u b1) ?_
   rintro e b6 ⟨rfl, a5⟩
   refine ⟨_, rfl, ?_⟩
   have b2 := SP.call q a5
   clear a5
   refine iR 1 3 [(2, (.string ⟨List.toArray u⟩))] ?_
   refine iF ?_
   refine At.ret K ?_
   refine ⟨(.string ⟨List.toArray u⟩), K, ?_⟩
   obtain rfl := Qb H
   exact ⟨rfl, SP.sel b2 [] rfl rfl⟩
 ·exact ⟨([] : List (List UInt8)), 0, none, 0, ⟨K, K, K, trivial⟩, SP.sel (X6 a6 9 Qn) [0] rfl rfl, H⟩
end Go.Proofs.YtoflbpmbkmephaaGreatDoor
namespace Go.Proofs.YtoflbpmbkmephaaGreatDoor
open Go.RowKit
def Yp (p1 : (List UInt8)) (p2 : (List UInt8)) : Option ((List UInt8) × (List UInt8) × Bool) :=
  ((Zz p1 p2).bind fun z3 => (cond (decide (z3 ≥ 0)) ((sub p1 0 z3).bind fun a => ((sub p1 (IntKind.wrap .i64 (z3 + ((List.length p2 : Nat) : Int))) ((List.length p1 : Nat) : Int)).bind fun b => (some (a, b, true)))) (some (p1, ([] : List UInt8), false))))
set_option maxHeartbeats 40000000 in
theorem Rx  (p1 : (List UInt8)) (p2 : (List UInt8)) (w0 : World)  (r : ((List UInt8) × (List UInt8) × Bool)) (H : Yp p1 p2 = some r) :
  Calls Tryz.prog 160 #[(.string ⟨List.toArray p1⟩), (.string ⟨List.toArray p2⟩)] w0 (fun e w' => e = .returned (.tuple #[(.string ⟨List.toArray r.1⟩), (.string ⟨List.toArray r.2.1⟩), (.bool r.2.2)]) ∧ SP [] w0 w' []) := by
 unfold Yp at H
 refine Ql (n := 23) Tryz.func160 K K K ?_
 have s := Qy [] w0
 refine aQ ?_
 refine aR ?_
 refine iR 3 3 [(4, (.string ⟨List.toArray ([] : List UInt8)⟩)), (5, (.string ⟨List.toArray ([] : List UInt8)⟩)), (6, (.bool false))] ?_
 refine iF ?_
 refine aQ ?_
 refine aQ ?_
 refine aR ?_
 refine iR 2 2 [(8, (.string ⟨List.toArray p1⟩)), (9, (.string ⟨List.toArray p2⟩))] ?_
 obtain ⟨z3, t, H⟩ := Qa H
 refine iS 3 ?_
 refine cF 182 #[(.tmp 8), (.tmp 9)] #[9, 9] 10 Tryz.call182 (Uq  p1 p2 w0  z3 t) ?_
 rintro e w5 ⟨rfl, m⟩
 refine ⟨_, rfl, ?_⟩
 have p := SP.call s m
 clear m
 refine iR 1 4 [(7, (.int .i64 z3))] ?_
 refine iF ?_
 refine aQ ?_
 refine aR ?_
 refine iR 2 2 [(11, (.int .i64 z3)), (12, (.bool (decide (z3 ≥ 0))))] ?_
 refine iF ?_
 refine Vm K (o := (.tmp 12)) K (b := (decide (z3 ≥ 0))) K (fun h => ?_) (fun h => ?_)
 ·have H := ct H h
  refine aQ ?_
  obtain ⟨u, v, w, H⟩ := Nm H
  obtain ⟨c, hyl13⟩ : ∃ y, (List.drop (Int.toNat 0) (List.take (Int.toNat z3) p1)) = y := ⟨_, rfl⟩
  rw [hyl13] at H
  obtain ⟨z, a0, a1, H⟩ := Nm H
  obtain ⟨f, hyl17⟩ : ∃ y, (List.drop (Int.toNat (IntKind.wrap .i64 (z3 + ((List.length p2 : Nat) : Int)))) (List.take (Int.toNat ((List.length p1 : Nat) : Int)) p1)) = y := ⟨_, rfl⟩
  rw [hyl17] at H
  refine aG [GEq (.string ⟨List.toArray p1⟩), GEq (.int .i64 z3), GEq (.string ⟨List.toArray c⟩), GEq (.string ⟨List.toArray p1⟩), GEq (.int .i64 z3), GEq (.string ⟨List.toArray p2⟩), GEq (.int .i64 ((List.length p2 : Nat) : Int)), GEq (.int .i64 (IntKind.wrap .i64 (z3 + ((List.length p2 : Nat) : Int)))), GEq (.string ⟨List.toArray f⟩), GEq (.string ⟨List.toArray c⟩), GEq (.string ⟨List.toArray f⟩), GEq (.bool true)] [] (tG [] w0 [] [([], [])]) 12 0 ⟨trivial, SP.drew p⟩ ?_ ?_
  iterate 12 refine And.intro ?_ ?_
  exact trivial
  ·exact oV (hC (hS 0 (.string ⟨List.toArray p1⟩)) (h0)) (.string ⟨List.toArray p1⟩)
  ·exact oV (hC (hS 7 (.int .i64 z3)) (h0)) (.int .i64 z3)
  ·refine oL 0 ?_
   ·rintro ρ' w' hs g ⟨a3, a4⟩
    refine kM (kc (kA g 0 13) (kc (kA g 1 14) k0)) fun l => ?_
    refine Xf (a := p1) (T := 9) (x := (.tmp 13)) (lo := none) (hi := (some (.tmp 14))) (i := 0) (j := z3) (d := (some 15)) (k := 2) K rfl K K rfl ⟨.i64, K⟩ u v w ?_
    rw [hyl13]
    exact eK l
  ·exact oV (hC (hS 0 (.string ⟨List.toArray p1⟩)) (h0)) (.string ⟨List.toArray p1⟩)
  ·exact oV (hC (hS 7 (.int .i64 z3)) (h0)) (.int .i64 z3)
  ·exact oV (hC (hS 1 (.string ⟨List.toArray p2⟩)) (h0)) (.string ⟨List.toArray p2⟩)
  ·exact oV (hC (hA 5 18) (h0)) (.int .i64 ((List.length p2 : Nat) : Int))
  ·exact oV (hC (hA 4 17) (hC (hA 6 19) (h0))) (.int .i64 (IntKind.wrap .i64 (z3 + ((List.length p2 : Nat) : Int))))
  ·refine oL 0 ?_
   ·rintro ρ' w' hs g ⟨a5, a6⟩
    refine kM (kc (kA g 3 16) (kc (kA g 7 20) k0)) fun l => ?_
    refine Xf (a := p1) (T := 9) (x := (.tmp 16)) (lo := (some (.tmp 20))) (hi := none) (i := (IntKind.wrap .i64 (z3 + ((List.length p2 : Nat) : Int)))) (j := ((List.length p1 : Nat) : Int)) (d := (some 21)) (k := 8) K rfl K K ⟨.i64, K⟩ rfl z a0 a1 ?_
    rw [hyl17]
    exact eK l
  ·exact oV (hC (hA 2 15) (h0)) (.string ⟨List.toArray c⟩)
  ·exact oV (hC (hA 8 21) (h0)) (.string ⟨List.toArray f⟩)
  ·exact Owe.run K [] trivial (.bool true) (fun _ _ => K) rfl
  ·rintro ρ' w' hs hf ⟨a7, q⟩
   refine V3 [(4, (.string ⟨List.toArray c⟩)), (5, (.string ⟨List.toArray f⟩)), (6, (.bool true))] ⟨hf 9 4 K, hf 10 5 K, hf 11 6 K, trivial⟩ ?_
   obtain ⟨a8, a2⟩ : ∃ x, w' = x := ⟨_, rfl⟩
   rw [a2] at q ⊢
   refine At.ret K ?_
   refine ⟨(.tuple #[(.string ⟨List.toArray c⟩), (.string ⟨List.toArray f⟩), (.bool true)]), K, ?_⟩
   obtain rfl := Qb H
   exact ⟨rfl, SP.sel q [] rfl rfl⟩
 ·have H := cf H h
  refine At.skip K ?_
  refine aQ ?_
  refine aR ?_
  refine iR 4 4 [(22, (.string ⟨List.toArray p1⟩)), (4, (.string ⟨List.toArray p1⟩)), (5, (.string ⟨List.toArray ([] : List UInt8)⟩)), (6, (.bool false))] ?_
  refine iF ?_
  refine At.ret K ?_
  refine ⟨(.tuple #[(.string ⟨List.toArray p1⟩), (.string ⟨List.toArray ([] : List UInt8)⟩), (.bool false)]), K, ?_⟩
  obtain rfl := Qb H
  exact ⟨rfl, SP.sel p [] rfl rfl⟩
def Rj (p1 : (List UInt8)) (p2 : (List UInt8)) : Option ((List UInt8) × (List UInt8) × Bool) :=
  ((Yp p1 p2).bind fun z3 => (some (z3.1, z3.2.1, z3.2.2)))
set_option maxHeartbeats 40000000 in
theorem E5  (p1 : (List UInt8)) (p2 : (List UInt8)) (w0 : World)  (r : ((List UInt8) × (List UInt8) × Bool)) (H : Rj p1 p2 = some r) :
  Calls Tryz.prog 137 #[(.string ⟨List.toArray p1⟩), (.string ⟨List.toArray p2⟩)] w0 (fun e w' => e = .returned (.tuple #[(.string ⟨List.toArray r.1⟩), (.string ⟨List.toArray r.2.1⟩), (.bool r.2.2)]) ∧ SP [] w0 w' []) := by
 unfold Rj at H
 refine Ql (n := 13) Tryz.func137 K K K ?_
 have b := Qy [] w0
 refine aQ ?_
 refine aR ?_
 refine iR 3 3 [(4, (.string ⟨List.toArray ([] : List UInt8)⟩)), (5, (.string ⟨List.toArray ([] : List UInt8)⟩)), (6, (.bool false))] ?_
 refine iF ?_
 refine aQ ?_
 refine aR ?_
 refine iR 2 2 [(7, (.string ⟨List.toArray p1⟩)), (8, (.string ⟨List.toArray p2⟩))] ?_
 obtain ⟨z3, c, H⟩ := Qa H
 refine iS 3 ?_
 refine cF 160 #[(.tmp 7), (.tmp 8)] #[9, 9] 9 Tryz.call160 (Rx  p1 p2 w0  z3 c) ?_
 rintro e w5 ⟨rfl, a⟩
 refine ⟨_, rfl, ?_⟩
 have d := SP.call b a
 clear a
 refine iR 6 9 [(10, (.string ⟨List.toArray z3.1⟩)), (11, (.string ⟨List.toArray z3.2.1⟩)), (12, (.bool z3.2.2)), (4, (.string ⟨List.toArray z3.1⟩)), (5, (.string ⟨List.toArray z3.2.1⟩)), (6, (.bool z3.2.2))] ?_
 refine iF ?_
 refine At.ret K ?_
 refine ⟨(.tuple #[(.string ⟨List.toArray z3.1⟩), (.string ⟨List.toArray z3.2.1⟩), (.bool z3.2.2)]), K, ?_⟩
 obtain rfl := Qb H
 exact ⟨rfl, SP.sel d [] rfl rfl⟩
end Go.Proofs.YtoflbpmbkmephaaGreatDoor
namespace Go.Proofs.YtoflbpmbkmephaaGreatDoor
open Go.RowKit
def Rk (p1 : Bool) (p2 : (List UInt8)) : Option ((List UInt8)) :=
  (cond p1 (some (p2)) (some (([] : List UInt8))))
set_option maxHeartbeats 40000000 in
theorem D2  (p1 : Bool) (p2 : (List UInt8)) (w0 : World)  (r : ((List UInt8))) (H : Rk p1 p2 = some r) :
  Calls Tryz.prog 87 #[(.bool p1), (.string ⟨List.toArray p2⟩)] w0 (fun e w' => e = .returned (.string ⟨List.toArray r⟩) ∧ SP [] w0 w' []) := by
 unfold Rk at H
 refine Ql (n := 7) Tryz.func87 K K K ?_
 have c := Qy [] w0
 refine aQ ?_
 refine aR ?_
 refine iR 1 1 [(4, (.string ⟨List.toArray ([] : List UInt8)⟩))] ?_
 refine iF ?_
 refine aQ ?_
 refine aQ ?_
 refine aR ?_
 refine iR 1 1 [(5, (.bool p1))] ?_
 refine iF ?_
 refine Vm K (o := (.tmp 5)) K (b := p1) K (fun a => ?_) (fun a => ?_)
 ·have H := ct H a
  refine aQ ?_
  refine aR ?_
  refine iR 2 2 [(6, (.string ⟨List.toArray p2⟩)), (4, (.string ⟨List.toArray p2⟩))] ?_
  refine iF ?_
  refine At.ret K ?_
  refine ⟨(.string ⟨List.toArray p2⟩), K, ?_⟩
  obtain rfl := Qb H
  exact ⟨rfl, SP.sel c [] rfl rfl⟩
 ·have H := cf H a
  refine At.skip K ?_
  refine aQ ?_
  refine aR ?_
  refine iR 1 1 [(4, (.string ⟨List.toArray ([] : List UInt8)⟩))] ?_
  refine iF ?_
  refine At.ret K ?_
  refine ⟨(.string ⟨List.toArray ([] : List UInt8)⟩), K, ?_⟩
  obtain rfl := Qb H
  exact ⟨rfl, SP.sel c [] rfl rfl⟩
def Y3 (p1 : (List UInt8)) : Option ((List UInt8)) :=
  (cond (p1 == ([] : List UInt8)) (some (([45] : List UInt8))) ((chk (Nat.ble (List.length p1) 281474976710656)).bind fun _ => ((R4 p1).bind fun z9 => (some (z9)))))
set_option maxHeartbeats 40000000 in
theorem J7  (p1 : (List UInt8)) (w0 : World)  (r : ((List UInt8))) (H : Y3 p1 = some r) :
  Calls Tryz.prog 86 #[(.string ⟨List.toArray p1⟩)] w0 (fun e w' => e = .returned (.string ⟨List.toArray r⟩) ∧ SP [] w0 w' []) := by
 unfold Y3 at H
 refine Ql (n := 8) Tryz.func86 K K K ?_
 have f := Qy [] w0
 refine aQ ?_
 refine aR ?_
 refine iR 1 1 [(2, (.string ⟨List.toArray ([] : List UInt8)⟩))] ?_
 refine iF ?_
 refine aQ ?_
 refine aQ ?_
 refine aR ?_
 refine iR 1 1 [(3, (.string ⟨List.toArray p1⟩))] ?_
 refine iS 2 ?_
 refine Qu (op := .eql) (T := 9) (T' := 9) (x := (.tmp 3)) (y := (.const (.string ⟨List.toArray ([] : List UInt8)⟩))) (a := p1) (b := ([] : List UInt8)) (r := (.bool (p1 == ([] : List UInt8)))) (d := (some 4)) (k := 1) K rfl K K rfl ?_
 refine iF ?_
 refine Vm K (o := (.tmp 4)) K (b := (p1 == ([] : List UInt8))) K (fun c => ?_) (fun c => ?_)
 ·have H := ct H c
  refine aQ ?_
  refine aR ?_
  refine iR 1 1 [(2, (.string ⟨List.toArray ([45] : List UInt8)⟩))] ?_
  refine iF ?_
  refine At.ret K ?_
  refine ⟨(.string ⟨List.toArray ([45] : List UInt8)⟩), K, ?_⟩
  obtain rfl := Qb H
  exact ⟨rfl, SP.sel f [] rfl rfl⟩
 ·have H := cf H c
  refine At.skip K ?_
  refine aQ ?_
  refine aR ?_
  refine iR 1 1 [(5, (.string ⟨List.toArray p1⟩))] ?_
  obtain ⟨m, H⟩ := Dx H
  refine iS 2 ?_
  refine Co (S' := 9) (T := 48) (E := 5) (x := (.tmp 5)) (l := p1) (d := (some 6)) (k := 1) K rfl K K K K (Cp m) f ?_
  intro g4 c5 w6 g _
  have h : SP [] w0 w6 [rdE eU8 (some ⟨g4, 0, none⟩) c5 p1] := g
  clear g
  obtain ⟨z9, p, H⟩ := Qa H
  refine iS 3 ?_
  refine cF 61 #[(.tmp 6)] #[48] 7 Tryz.call61 (Fl (some ⟨g4, 0, none⟩) c5 p1 w6 (Hm (SP.get h (i := 0) rfl)) z9 p) ?_
  rintro e s ⟨rfl, j⟩
  refine ⟨_, rfl, ?_⟩
  have q := SP.call h j
  clear j
  refine iR 1 4 [(2, (.string ⟨List.toArray z9⟩))] ?_
  refine iF ?_
  refine At.ret K ?_
  refine ⟨(.string ⟨List.toArray z9⟩), K, ?_⟩
  obtain rfl := Qb H
  exact ⟨rfl, SP.sel q [] rfl rfl⟩
def Q8 (q2 : (List (List UInt8))) (q5 : Bool) (p6 : (List (List UInt8))) : Option ((List (List UInt8)) × Bool) :=
  ((app q2 p6).bind fun a => (some (a, q5)))
set_option maxHeartbeats 40000000 in
theorem V1 {S : List Nat} (g1 : Nat) (A3 : Option Addr) (c4 : Nat) (A7 : Option Addr) (c8 : Nat) (q2 : (List (List UInt8))) (q5 : Bool) (p6 : (List (List UInt8))) (w0 : World) (hO : SP S w0 w0 [Qk g1 133 #[(.slice A3 (List.length q2) c4), (.bool q5)], Vu 9 Qn A3 c4 q2]) (q : ∀ w, Mod S w0 w → RdT Qn w A7 c8 p6) (r : ((List (List UInt8)) × Bool)) (H : Q8 q2 q5 p6 = some r) :
  Calls Tryz.prog 84 #[(pt g1 0), (.slice A7 (List.length p6) c8)] w0 (fun e w' => ∃ (j : Option Addr) (o : Nat), e = .returned (.tuple #[]) ∧ SP S w0 w' [Qk g1 133 #[(.slice j (List.length r.1) o), (.bool r.2)], Vu 9 Qn j o r.1]) := by
 unfold Q8 at H
 refine Ql (n := 13) Tryz.func84 K K K ?_
 have a := hO
 refine aR ?_
 refine iR 4 4 [(4, (pt g1 0)), (5, (pt g1 0)), (6, (pt g1 0)), (7, (pt g1 0))] ?_
 refine iS 5 ?_
 refine sL 79 7 g1 0 0 (.slice A3 (List.length q2) c4) 8 a rfl ?_
 refine iR 1 6 [(9, (.slice A7 (List.length p6) c8))] ?_
 obtain ⟨hl22, H⟩ := Vb H
 obtain ⟨p, hyl23⟩ : ∃ y, q2 ++ p6 = y := ⟨_, rfl⟩
 rw [hyl23] at H
 refine iS 7 ?_
 refine Qh.append (e := Qn) (l := q2) (m := p6) (A := A3) (c := c4) (T := 79) (TX := 79) (E := 9) (b := 16) (s := (.tmp 8)) (x := (.tmp 9)) (i := 1) (vx := (.slice A7 (List.length p6) c8)) (d := (some 10)) (k := 6) K rfl K K K K rfl a rfl (Ep (E := 9) K (q w0 (SP.mod a))) hl22 ?_
 rw [hyl23]
 intro f h a0 u
 refine iR 2 9 [(11, (pt g1 0)), (12, (pt g1 0))] ?_
 refine iS 10 ?_
 refine Qh.store (t := 79) (x := (.tmp 12)) (y := (.tmp 10)) (g := g1) (off := 0) (i := 0) (v := (.slice f (List.length p) h)) (cs' := #[(.slice f (List.length p) h), (.bool q5)]) (d := none) (k := 9) K rfl K K u rfl K ?_
 intro a1 z
 refine iF ?_
 refine ⟨(.tuple #[]), K, ?_⟩
 obtain rfl := Qb H
 exact ⟨f, h, rfl, SP.sel z [0,1] rfl rfl⟩
def Xv (q2 : (List (List UInt8))) (p6 : Int) (b : Bool) : Option ((List (List UInt8)) × Bool) :=
  ((Up p6).bind fun c => ((Q8 q2 b ([c] : List (List UInt8))).bind fun a => (some (a.1, a.2))))
def Vc (q2 : (List (List UInt8))) (q5 : Bool) (p6 : Int) : Option ((List (List UInt8)) × Bool) :=
  (cond q5 (Xv q2 p6 true) (cond (decide (p6 < 0)) (Xv q2 p6 true) (Xv q2 p6 (decide (p6 > 1099511627776)))))
set_option maxHeartbeats 40000000 in
theorem Vg {S : List Nat} (g1 : Nat) (A3 : Option Addr) (c4 : Nat) (q2 : (List (List UInt8))) (q5 : Bool) (p6 : Int) (w0 : World) (hL : ∀ w, Mod S w0 w → Gu w) (hO : SP S w0 w0 [Qk g1 133 #[(.slice A3 (List.length q2) c4), (.bool q5)], Vu 9 Qn A3 c4 q2])  (r : ((List (List UInt8)) × Bool)) (H : Vc q2 q5 p6 = some r) :
  Calls Tryz.prog 85 #[(pt g1 0), (.int .i64 p6)] w0 (fun e w' => ∃ (s : Option Addr) (u : Nat), e = .returned (.tuple #[]) ∧ SP S w0 w' [Qk g1 133 #[(.slice s (List.length r.1) u), (.bool r.2)], Vu 9 Qn s u r.1]) := by
 unfold Vc at H
 refine Ql (n := 24) Tryz.func85 K K K ?_
 have c := hO
 refine aQ ?_
 refine At.join (fun ρ w => ∃ (f : Bool), Q7 ρ [(0, (pt g1 0)), (1, (.int .i64 p6))] ∧ SP S w0 w [Vu 9 Qn A3 c4 q2, Qk g1 133 #[(.slice A3 (List.length q2) c4), (.bool f)]] ∧ Xv q2 p6 f = some r) ?_ ?_
 ·refine aR ?_
  refine iR 4 4 [(4, (pt g1 0)), (5, (pt g1 0)), (6, (pt g1 0)), (7, (pt g1 1))] ?_
  refine iS 5 ?_
  refine sL 4 7 g1 1 0 (.bool q5) 8 c rfl ?_
  refine iR 1 6 [(9, (.bool q5))] ?_
  refine In.guard (t := 9) (b := q5) K (fun j => ?_) (fun j => ?_)
  ·have H := ct H j
   refine iR 9 15 [(10, undef), (11, undef), (12, (.bool true)), (13, (.bool true)), (14, undef), (15, undef), (16, (.bool true)), (17, (pt g1 0)), (18, (pt g1 1))] ?_
   refine iS 16 ?_
   refine Qh.store (t := 4) (x := (.tmp 18)) (y := (.tmp 16)) (g := g1) (off := 1) (i := 0) (v := (.bool true)) (cs' := #[(.slice A3 (List.length q2) c4), (.bool true)]) (d := none) (k := 15) K rfl K K c rfl K ?_
   intro b3 a4
   refine iF ?_
   exact ⟨true, ⟨K, K, trivial⟩, SP.sel a4 [1, 0] rfl rfl, H⟩
  ·have H := cf H j
   refine iR 4 10 [(10, (.int .i64 p6)), (11, (.bool (decide (p6 < 0)))), (12, (.bool (decide (p6 < 0)))), (13, (.bool (decide (p6 < 0))))] ?_
   refine In.guard (t := 13) (b := (decide (p6 < 0))) K (fun m => ?_) (fun m => ?_)
   ·have H := ct H m
    refine iR 5 15 [(14, undef), (15, undef), (16, (.bool true)), (17, (pt g1 0)), (18, (pt g1 1))] ?_
    refine iS 16 ?_
    refine Qh.store (t := 4) (x := (.tmp 18)) (y := (.tmp 16)) (g := g1) (off := 1) (i := 0) (v := (.bool true)) (cs' := #[(.slice A3 (List.length q2) c4), (.bool true)]) (d := none) (k := 15) K rfl K K c rfl K ?_
    intro b4 a5
    refine iF ?_
    exact ⟨true, ⟨K, K, trivial⟩, SP.sel a5 [1, 0] rfl rfl, H⟩
   ·have H := cf H m
    refine iR 5 15 [(14, (.int .i64 p6)), (15, (.bool (decide (p6 > 1099511627776)))), (16, (.bool (decide (p6 > 1099511627776)))), (17, (pt g1 0)), (18, (pt g1 1))] ?_
    refine iS 16 ?_
    refine Qh.store (t := 4) (x := (.tmp 18)) (y := (.tmp 16)) (g := g1) (off := 1) (i := 0) (v := (.bool (decide (p6 > 1099511627776)))) (cs' := #[(.slice A3 (List.length q2) c4), (.bool (decide (p6 > 1099511627776)))]) (d := none) (k := 15) K rfl K K c rfl K ?_
    intro b5 a6
    refine iF ?_
    exact ⟨(decide (p6 > 1099511627776)), ⟨K, K, trivial⟩, SP.sel a6 [1, 0] rfl rfl, H⟩
 ·rintro ρ z ⟨f, hk, a0, H⟩
  unfold Xv at H
  first | refine At.known [(0, (pt g1 0)), (1, (.int .i64 p6))] hk ?_ | rw [← Qc (l := [(0, (pt g1 0)), (1, (.int .i64 p6))]) hk]
  refine aR ?_
  refine iR 2 2 [(19, (pt g1 0)), (20, (.int .i64 p6))] ?_
  obtain ⟨a, a7, H⟩ := Qa H
  refine iS 3 ?_
  refine cF 59 #[(.tmp 20)] #[2] 21 Tryz.call59 (Gg  p6 z (hL z (SP.mod a0)) a a7) ?_
  rintro e b6 ⟨rfl, a1⟩
  refine ⟨_, rfl, ?_⟩
  have a8 := SP.call a0 a1
  clear a1
  refine iS 4 ?_
  refine Vy (e := Qn) (T := 79) (E := 9) (len := 1) (parts := #[(0, (.tmp 21))]) (cs := #[(.string ⟨List.toArray a⟩)]) ([a] : List (List UInt8)) (d := (some 22)) (k := 3) K rfl (fun _ => K) a8 rfl rfl rfl rfl ?_
  intro a2 a9 o
  obtain ⟨h, b0, H⟩ := Qa H
  refine iS 5 ?_
  refine cF 84 #[(.tmp 19), (.tmp 22)] #[132, 79] 23 Tryz.call84 (V1 g1 A3 c4 (some ⟨a2, 0, none⟩) (List.length ([a] : List (List UInt8))) q2 f ([a] : List (List UInt8)) a9 (Za o [1, 0] rfl rfl) (fun w hm => (Q9 (SP.still o (l := [1, 0]) (i := 2) rfl rfl rfl hm))) h b0) ?_
  rintro e b1 ⟨p, q, rfl, a3⟩
  refine ⟨_, rfl, ?_⟩
  have b2 : SP S w0 b1 [Vu 9 Qn (some ⟨a2, 0, none⟩) (List.length ([a] : List (List UInt8))) ([a] : List (List UInt8)), Qk g1 133 #[(.slice p (List.length h.1) q), (.bool h.2)], Vu 9 Qn p q h.1] := Qr o [1, 0] [2] rfl rfl a3 rfl
  clear a3
  refine iF ?_
  refine ⟨(.tuple #[]), K, ?_⟩
  obtain rfl := Qb H
  exact ⟨p, q, rfl, SP.sel b2 [1,2] rfl rfl⟩
def Yk (q2 : (List (List UInt8))) (p6 : (List UInt8)) (b : Bool) : Option ((List (List UInt8)) × Bool) :=
  ((Q8 q2 b ([p6] : List (List UInt8))).bind fun a => (some (a.1, a.2)))
def Xo (q2 : (List (List UInt8))) (q5 : Bool) (p6 : (List UInt8)) : Option ((List (List UInt8)) × Bool) :=
  (cond q5 (Yk q2 p6 true) ((Ur p6).bind fun a => (Yk q2 p6 (!a))))
set_option maxHeartbeats 40000000 in
theorem U2 {S : List Nat} (g1 : Nat) (A3 : Option Addr) (c4 : Nat) (q2 : (List (List UInt8))) (q5 : Bool) (p6 : (List UInt8)) (w0 : World) (hO : SP S w0 w0 [Qk g1 133 #[(.slice A3 (List.length q2) c4), (.bool q5)], Vu 9 Qn A3 c4 q2])  (r : ((List (List UInt8)) × Bool)) (H : Xo q2 q5 p6 = some r) :
  Calls Tryz.prog 127 #[(pt g1 0), (.string ⟨List.toArray p6⟩)] w0 (fun e w' => ∃ (q : Option Addr) (s : Nat), e = .returned (.tuple #[]) ∧ SP S w0 w' [Qk g1 133 #[(.slice q (List.length r.1) s), (.bool r.2)], Vu 9 Qn q s r.1]) := by
 unfold Xo at H
 refine Ql (n := 20) Tryz.func127 K K K ?_
 have h := hO
 refine aQ ?_
 refine At.join (fun ρ w => ∃ (c : Bool), Q7 ρ [(0, (pt g1 0)), (1, (.string ⟨List.toArray p6⟩))] ∧ SP S w0 w [Vu 9 Qn A3 c4 q2, Qk g1 133 #[(.slice A3 (List.length q2) c4), (.bool c)]] ∧ Yk q2 p6 c = some r) ?_ ?_
 ·refine aR ?_
  refine iR 4 4 [(4, (pt g1 0)), (5, (pt g1 0)), (6, (pt g1 0)), (7, (pt g1 1))] ?_
  refine iS 5 ?_
  refine sL 4 7 g1 1 0 (.bool q5) 8 h rfl ?_
  refine iR 1 6 [(9, (.bool q5))] ?_
  refine In.guard (t := 9) (b := q5) K (fun j => ?_) (fun j => ?_)
  ·have H := ct H j
   refine iR 6 12 [(10, undef), (11, undef), (12, undef), (13, (.bool true)), (14, (pt g1 0)), (15, (pt g1 1))] ?_
   refine iS 13 ?_
   refine Qh.store (t := 4) (x := (.tmp 15)) (y := (.tmp 13)) (g := g1) (off := 1) (i := 0) (v := (.bool true)) (cs' := #[(.slice A3 (List.length q2) c4), (.bool true)]) (d := none) (k := 12) K rfl K K h rfl K ?_
   intro b0 a1
   refine iF ?_
   exact ⟨true, ⟨K, K, trivial⟩, SP.sel a1 [1, 0] rfl rfl, H⟩
  ·have H := cf H j
   refine iR 1 7 [(10, (.string ⟨List.toArray p6⟩))] ?_
   obtain ⟨a, a2, H⟩ := Qa H
   refine iS 8 ?_
   refine cF 101 #[(.tmp 10)] #[9] 11 Tryz.call101 (D1  p6 w0  a a2) ?_
   rintro e b1 ⟨rfl, u⟩
   refine ⟨_, rfl, ?_⟩
   have a3 := SP.call h u
   clear u
   refine iR 4 12 [(12, (.bool (!a))), (13, (.bool (!a))), (14, (pt g1 0)), (15, (pt g1 1))] ?_
   refine iS 13 ?_
   refine Qh.store (t := 4) (x := (.tmp 15)) (y := (.tmp 13)) (g := g1) (off := 1) (i := 0) (v := (.bool (!a))) (cs' := #[(.slice A3 (List.length q2) c4), (.bool (!a))]) (d := none) (k := 12) K rfl K K a3 rfl K ?_
   intro b2 a4
   refine iF ?_
   exact ⟨(!a), ⟨K, K, trivial⟩, SP.sel a4 [1, 0] rfl rfl, H⟩
 ·rintro ρ b3 ⟨c, hk, a5, H⟩
  unfold Yk at H
  first | refine At.known [(0, (pt g1 0)), (1, (.string ⟨List.toArray p6⟩))] hk ?_ | rw [← Qc (l := [(0, (pt g1 0)), (1, (.string ⟨List.toArray p6⟩))]) hk]
  refine aR ?_
  refine iR 2 2 [(16, (pt g1 0)), (17, (.string ⟨List.toArray p6⟩))] ?_
  refine iS 3 ?_
  refine Vy (e := Qn) (T := 79) (E := 9) (len := 1) (parts := #[(0, (.tmp 17))]) (cs := #[(.string ⟨List.toArray p6⟩)]) ([p6] : List (List UInt8)) (d := (some 18)) (k := 2) K rfl (fun _ => K) a5 rfl rfl rfl rfl ?_
  intro z a6 m
  obtain ⟨f, a7, H⟩ := Qa H
  refine iS 4 ?_
  refine cF 84 #[(.tmp 16), (.tmp 18)] #[132, 79] 19 Tryz.call84 (V1 g1 A3 c4 (some ⟨z, 0, none⟩) (List.length ([p6] : List (List UInt8))) q2 c ([p6] : List (List UInt8)) a6 (Za m [1, 0] rfl rfl) (fun w hm => (Q9 (SP.still m (l := [1, 0]) (i := 2) rfl rfl rfl hm))) f a7) ?_
  rintro e a8 ⟨o, p, rfl, a0⟩
  refine ⟨_, rfl, ?_⟩
  have a9 : SP S w0 a8 [Vu 9 Qn (some ⟨z, 0, none⟩) (List.length ([p6] : List (List UInt8))) ([p6] : List (List UInt8)), Qk g1 133 #[(.slice o (List.length f.1) p), (.bool f.2)], Vu 9 Qn o p f.1] := Qr m [1, 0] [2] rfl rfl a0 rfl
  clear a0
  refine iF ?_
  refine ⟨(.tuple #[]), K, ?_⟩
  obtain rfl := Qb H
  exact ⟨o, p, rfl, SP.sel a9 [1,2] rfl rfl⟩
def Q0 (q2 : (List (List UInt8))) (q5 : Bool) : Option ((List UInt8)) :=
  (cond q5 (some (([] : List UInt8))) ((U1 q2 ([32] : List UInt8)).bind fun a => (some (a))))
set_option maxHeartbeats 40000000 in
theorem U3 {S : List Nat} (g1 : Nat) (A3 : Option Addr) (c4 : Nat) (q2 : (List (List UInt8))) (q5 : Bool) (w0 : World) (hO : SP S w0 w0 [Qk g1 133 #[(.slice A3 (List.length q2) c4), (.bool q5)], Vu 9 Qn A3 c4 q2])  (r : ((List UInt8))) (H : Q0 q2 q5 = some r) :
  Calls Tryz.prog 79 #[(pt g1 0)] w0 (fun e w' => ∃ (f : Option Addr) (g : Nat), e = .returned (.string ⟨List.toArray r⟩) ∧ SP S w0 w' [Qk g1 133 #[(.slice f (List.length q2) g), (.bool q5)], Vu 9 Qn f g q2]) := by
 unfold Q0 at H
 refine Ql (n := 12) Tryz.func79 K K K ?_
 have a := hO
 refine aQ ?_
 refine aR ?_
 refine iR 1 1 [(2, (.string ⟨List.toArray ([] : List UInt8)⟩))] ?_
 refine iF ?_
 refine aQ ?_
 refine aQ ?_
 refine aR ?_
 refine iR 3 3 [(3, (pt g1 0)), (4, (pt g1 0)), (5, (pt g1 1))] ?_
 refine iS 4 ?_
 refine sL 4 5 g1 1 0 (.bool q5) 6 a rfl ?_
 refine iF ?_
 refine Vm K (o := (.tmp 6)) K (b := q5) K (fun c => ?_) (fun c => ?_)
 ·have H := ct H c
  refine aQ ?_
  refine aR ?_
  refine iR 1 1 [(2, (.string ⟨List.toArray ([] : List UInt8)⟩))] ?_
  refine iF ?_
  refine At.ret K ?_
  refine ⟨(.string ⟨List.toArray ([] : List UInt8)⟩), K, ?_⟩
  obtain rfl := Qb H
  exact ⟨A3, c4, rfl, SP.sel a [0,1] rfl rfl⟩
 ·have H := cf H c
  refine At.skip K ?_
  refine aQ ?_
  refine aR ?_
  refine iR 3 3 [(7, (pt g1 0)), (8, (pt g1 0)), (9, (pt g1 0))] ?_
  refine iS 4 ?_
  refine sL 79 9 g1 0 0 (.slice A3 (List.length q2) c4) 10 a rfl ?_
  obtain ⟨d, j, H⟩ := Qa H
  refine iS 5 ?_
  refine cF 58 #[(.tmp 10), (.const (.string ⟨List.toArray ([32] : List UInt8)⟩))] #[79, 9] 11 Tryz.call58 (Dl A3 c4 q2 ([32] : List UInt8) w0 (Q9 (SP.get a (i := 1) rfl)) d j) ?_
  rintro e l ⟨rfl, h⟩
  refine ⟨_, rfl, ?_⟩
  have k := SP.call a h
  clear h
  refine iR 1 6 [(2, (.string ⟨List.toArray d⟩))] ?_
  refine iF ?_
  refine At.ret K ?_
  refine ⟨(.string ⟨List.toArray d⟩), K, ?_⟩
  obtain rfl := Qb H
  exact ⟨A3, c4, rfl, SP.sel k [0,1] rfl rfl⟩
def Ve (q2 : (List (List UInt8))) (q5 : Bool) : Option ((List UInt8) × (List (List UInt8)) × Bool) :=
  (cond (((List.length q2 : Nat) : Int) == 0) (some (([] : List UInt8), q2, true)) ((idx q2 0).bind fun a => ((sub q2 1 ((List.length q2 : Nat) : Int)).bind fun b => (some (a, b, q5)))))
set_option maxHeartbeats 40000000 in
theorem V7 {S : List Nat} (g1 : Nat) (A3 : Option Addr) (c4 : Nat) (q2 : (List (List UInt8))) (q5 : Bool) (w0 : World) (hO : SP S w0 w0 [Qk g1 112 #[(.slice A3 (List.length q2) c4), (.bool q5)], rdE Qn A3 c4 q2])  (r : ((List UInt8) × (List (List UInt8)) × Bool)) (H : Ve q2 q5 = some r) :
  Calls Tryz.prog 68 #[(pt g1 0)] w0 (fun e w' => ∃ (q : Option Addr) (s : Nat), e = .returned (.string ⟨List.toArray r.1⟩) ∧ SP S w0 w' [Qk g1 112 #[(.slice q (List.length r.2.1) s), (.bool r.2.2)], rdE Qn q s r.2.1]) := by
 unfold Ve at H
 refine Ql (n := 28) Tryz.func68 K K K ?_
 have a := hO
 refine aQ ?_
 refine aR ?_
 refine iR 1 1 [(2, (.string ⟨List.toArray ([] : List UInt8)⟩))] ?_
 refine iF ?_
 refine aQ ?_
 refine aQ ?_
 refine aR ?_
 refine iR 3 3 [(4, (pt g1 0)), (5, (pt g1 0)), (6, (pt g1 0))] ?_
 refine iS 4 ?_
 refine sL 79 6 g1 0 0 (.slice A3 (List.length q2) c4) 7 a rfl ?_
 refine iR 2 6 [(8, (.int .i64 ((List.length q2 : Nat) : Int))), (9, (.bool (((List.length q2 : Nat) : Int) == 0)))] ?_
 refine iF ?_
 refine Vm K (o := (.tmp 9)) K (b := (((List.length q2 : Nat) : Int) == 0)) K (fun p => ?_) (fun p => ?_)
 ·have H := ct H p
  refine aQ ?_
  refine aR ?_
  refine iR 3 3 [(10, (pt g1 0)), (11, (pt g1 0)), (12, (pt g1 1))] ?_
  refine iS 4 ?_
  refine Qh.store (t := 4) (x := (.tmp 12)) (y := (.const (.bool true))) (g := g1) (off := 1) (i := 0) (v := (.bool true)) (cs' := #[(.slice A3 (List.length q2) c4), (.bool true)]) (d := none) (k := 3) K rfl K K a rfl K ?_
  intro a9 a2
  refine iF ?_
  refine aQ ?_
  refine aR ?_
  refine iR 1 1 [(2, (.string ⟨List.toArray ([] : List UInt8)⟩))] ?_
  refine iF ?_
  refine At.ret K ?_
  refine ⟨(.string ⟨List.toArray ([] : List UInt8)⟩), K, ?_⟩
  obtain rfl := Qb H
  exact ⟨A3, c4, rfl, SP.sel a2 [0,1] rfl rfl⟩
 ·have H := cf H p
  refine At.skip K ?_
  refine aQ ?_
  refine aR ?_
  refine iR 3 3 [(13, (pt g1 0)), (14, (pt g1 0)), (15, (pt g1 0))] ?_
  refine iS 4 ?_
  refine sL 79 15 g1 0 0 (.slice A3 (List.length q2) c4) 16 a rfl ?_
  obtain ⟨f, u, w, a3, H⟩ := Vf H
  refine iS 5 ?_
  refine Z6 (e := Qn) (l := q2) (A := A3) (c := c4) (T := 79) (E := 9) (x := (.tmp 16)) (ix := (.const (.int .i64 (0)))) (ki := .i64) (iz := 0) (d := (some 17)) (k := 4) K rfl K K K K (Hm (SP.get a (i := 1) rfl)) u w ?_
  intro a4 a5 a6 b0 hc39
  refine iS 6 ?_
  refine sC 9 17 a4 (a5 + Int.toNat 0 * Qn.sz) (.string ⟨List.toArray f⟩) 18 (J3 (e := Qn) (Yr (Hm (SP.get a (i := 1) rfl)) a6 u w) a3 (j := 0) rfl) ?_
  refine iR 1 7 [(3, (.string ⟨List.toArray f⟩))] ?_
  refine iF ?_
  refine aQ ?_
  refine aR ?_
  refine iR 4 4 [(19, (pt g1 0)), (20, (pt g1 0)), (21, (pt g1 0)), (22, (pt g1 0))] ?_
  refine iS 5 ?_
  refine sL 79 22 g1 0 0 (.slice A3 (List.length q2) c4) 23 a rfl ?_
  obtain ⟨z, a0, a1, H⟩ := Nm H
  obtain ⟨h, hyl45⟩ : ∃ y, (List.drop (Int.toNat 1) (List.take (Int.toNat ((List.length q2 : Nat) : Int)) q2)) = y := ⟨_, rfl⟩
  rw [hyl45] at H
  refine iS 6 ?_
  refine Hp (e := Qn) (l := q2) (m := h) (A := A3) (c := c4) (T := 79) (E := 9) (x := (.tmp 23)) (lo := (some (.const (.int .i64 (1))))) (hi := none) (i := 1) (j := ((List.length q2 : Nat) : Int)) (d := (some 24)) (k := 5) K rfl K K K ⟨.i64, K⟩ rfl (RdX.le (Hm (SP.get a (i := 1) rfl))) z a0 a1 hyl45 ?_
  refine iR 2 8 [(25, (pt g1 0)), (26, (pt g1 0))] ?_
  refine iS 9 ?_
  have a7 : SP S w0 w0 [Qk g1 112 #[(.slice A3 (List.length q2) c4), (.bool q5)], rdE Qn (H9 Qn.sz c4 (Int.toNat 1) A3) (c4 - Int.toNat 1) h] := SP.cutrd a (i := 1) rfl z a0 a1 hyl45
  refine Qh.store (t := 79) (x := (.tmp 26)) (y := (.tmp 24)) (g := g1) (off := 0) (i := 0) (v := (.slice (H9 Qn.sz c4 (Int.toNat 1) A3) (List.length h) (c4 - Int.toNat 1))) (cs' := #[(.slice (H9 Qn.sz c4 (Int.toNat 1) A3) (List.length h) (c4 - Int.toNat 1)), (.bool q5)]) (d := none) (k := 8) K rfl K K a7 rfl K ?_
  intro b1 a8
  refine iF ?_
  refine aQ ?_
  refine aR ?_
  refine iR 2 2 [(27, (.string ⟨List.toArray f⟩)), (2, (.string ⟨List.toArray f⟩))] ?_
  refine iF ?_
  refine At.ret K ?_
  refine ⟨(.string ⟨List.toArray f⟩), K, ?_⟩
  obtain rfl := Qb H
  exact ⟨(H9 Qn.sz c4 (Int.toNat 1) A3), (c4 - Int.toNat 1), rfl, SP.sel a8 [0,1] rfl rfl⟩
def J8 (z3 : ((List UInt8) × Bool)) (a : Bool) : Option ((List UInt8) × Bool) :=
  (some (z3.1, a))
def Um (p1 : (List UInt8)) : Option ((List UInt8) × Bool) :=
  (cond (p1 == ([45] : List UInt8)) (some (([] : List UInt8), true)) ((G1 p1).bind fun z3 => (cond z3.2 (J8 z3 (decide (((List.length z3.1 : Nat) : Int) > 0))) (J8 z3 false))))
set_option maxHeartbeats 40000000 in
theorem R5  (p1 : (List UInt8)) (w0 : World)  (r : ((List UInt8) × Bool)) (H : Um p1 = some r) :
  Calls Tryz.prog 138 #[(.string ⟨List.toArray p1⟩)] w0 (fun e w' => e = .returned (.tuple #[(.string ⟨List.toArray r.1⟩), (.bool r.2)]) ∧ SP [] w0 w' []) := by
 unfold Um at H
 refine Ql (n := 21) Tryz.func138 K K K ?_
 have m := Qy [] w0
 refine aQ ?_
 refine aR ?_
 refine iR 2 2 [(2, (.string ⟨List.toArray ([] : List UInt8)⟩)), (3, (.bool false))] ?_
 refine iF ?_
 refine aQ ?_
 refine aQ ?_
 refine aR ?_
 refine iR 1 1 [(6, (.string ⟨List.toArray p1⟩))] ?_
 refine iS 2 ?_
 refine Qu (op := .eql) (T := 9) (T' := 9) (x := (.tmp 6)) (y := (.const (.string ⟨List.toArray ([45] : List UInt8)⟩))) (a := p1) (b := ([45] : List UInt8)) (r := (.bool (p1 == ([45] : List UInt8)))) (d := (some 7)) (k := 1) K rfl K K rfl ?_
 refine iF ?_
 refine Vm K (o := (.tmp 7)) K (b := (p1 == ([45] : List UInt8))) K (fun g => ?_) (fun g => ?_)
 ·have H := ct H g
  refine aQ ?_
  refine aR ?_
  refine iR 2 2 [(2, (.string ⟨List.toArray ([] : List UInt8)⟩)), (3, (.bool true))] ?_
  refine iF ?_
  refine At.ret K ?_
  refine ⟨(.tuple #[(.string ⟨List.toArray ([] : List UInt8)⟩), (.bool true)]), K, ?_⟩
  obtain rfl := Qb H
  exact ⟨rfl, SP.sel m [] rfl rfl⟩
 ·have H := cf H g
  refine At.skip K ?_
  refine aQ ?_
  refine aR ?_
  refine iR 1 1 [(9, (.string ⟨List.toArray p1⟩))] ?_
  obtain ⟨z3, q, H⟩ := Qa H
  refine iS 2 ?_
  refine cF 161 #[(.tmp 9)] #[9] 10 Tryz.call161 (Et  p1 w0  z3 q) ?_
  rintro e w5 ⟨A7, c8, rfl, p⟩
  refine ⟨_, rfl, ?_⟩
  have h := SP.call m p
  clear p
  refine iR 5 7 [(8, (.tuple #[(.slice A7 (List.length z3.1) c8), (.bool z3.2)])), (11, (.slice A7 (List.length z3.1) c8)), (12, (.bool z3.2)), (4, (.slice A7 (List.length z3.1) c8)), (5, (.bool z3.2))] ?_
  refine iF ?_
  refine aQ ?_
  refine At.join (fun ρ w => ∃ (f : Bool), Q7 ρ [(2, (.string ⟨List.toArray z3.1⟩)), (3, (.bool f))] ∧ SP [] w0 w [] ∧ J8 z3 f = some r) ?_ ?_
  ·refine aR ?_
   refine iR 1 1 [(13, (.slice A7 (List.length z3.1) c8))] ?_
   refine iS 2 ?_
   refine Dh (T := 48) (S' := 9) (E := 5) (x := (.tmp 13)) (A := A7) (c := c8) (l := z3.1) (d := (some 14)) (k := 1) K rfl K K K K (Q9 (SP.get h (i := 0) rfl)) ?_
   refine iR 2 4 [(15, (.bool z3.2)), (16, (.bool z3.2))] ?_
   refine In.guard (t := 16) (b := z3.2) K (fun j => ?_) (fun j => ?_)
   ·have H := ct H j
    refine iR 6 10 [(17, (.slice A7 (List.length z3.1) c8)), (18, (.int .i64 ((List.length z3.1 : Nat) : Int))), (19, (.bool (decide (((List.length z3.1 : Nat) : Int) > 0)))), (20, (.bool (decide (((List.length z3.1 : Nat) : Int) > 0)))), (2, (.string ⟨List.toArray z3.1⟩)), (3, (.bool (decide (((List.length z3.1 : Nat) : Int) > 0))))] ?_
    refine iF ?_
    exact ⟨(decide (((List.length z3.1 : Nat) : Int) > 0)), ⟨K, K, trivial⟩, SP.sel h [] rfl rfl, H⟩
   ·have H := cf H j
    refine iR 6 10 [(17, undef), (18, undef), (19, undef), (20, (.bool false)), (2, (.string ⟨List.toArray z3.1⟩)), (3, (.bool false))] ?_
    refine iF ?_
    exact ⟨false, ⟨K, K, trivial⟩, SP.sel h [] rfl rfl, H⟩
  ·rintro ρ u ⟨f, hk, s, H⟩
   unfold J8 at H
   first | refine At.known [(2, (.string ⟨List.toArray z3.1⟩)), (3, (.bool f))] hk ?_ | rw [← Qc (l := [(2, (.string ⟨List.toArray z3.1⟩)), (3, (.bool f))]) hk]
   refine At.ret K ?_
   refine ⟨(.tuple #[(.string ⟨List.toArray z3.1⟩), (.bool f)]), K, ?_⟩
   obtain rfl := Qb H
   exact ⟨rfl, SP.sel s [] rfl rfl⟩
def Ys (q2 : (List (List UInt8))) (p6 : Int) (a : Bool) : Option (Int × (List (List UInt8)) × Bool) :=
  (some (p6, q2, a))
def Nr (q2 : (List (List UInt8))) (q5 : Bool) (p6 : Int) (p7 : Bool) : Option (Int × (List (List UInt8)) × Bool) :=
  (cond q5 (Ys q2 p6 true) (Ys q2 p6 (!p7)))
set_option maxHeartbeats 40000000 in
theorem Bd {S : List Nat} (g1 : Nat) (A3 : Option Addr) (c4 : Nat) (q2 : (List (List UInt8))) (q5 : Bool) (p6 : Int) (p7 : Bool) (w0 : World) (hO : SP S w0 w0 [Qk g1 112 #[(.slice A3 (List.length q2) c4), (.bool q5)], rdE Qn A3 c4 q2])  (r : (Int × (List (List UInt8)) × Bool)) (H : Nr q2 q5 p6 p7 = some r) :
  Calls Tryz.prog 136 #[(pt g1 0), (.int .i64 p6), (.bool p7)] w0 (fun e w' => ∃ (h : Option Addr) (j : Nat), e = .returned (.int .i64 r.1) ∧ SP S w0 w' [Qk g1 112 #[(.slice h (List.length r.2.1) j), (.bool r.2.2)], rdE Qn h j r.2.1]) := by
 unfold Nr at H
 refine Ql (n := 19) Tryz.func136 K K K ?_
 have a := hO
 refine aQ ?_
 refine aR ?_
 refine iR 1 1 [(6, (.int .i64 0))] ?_
 refine iF ?_
 refine aQ ?_
 refine At.join (fun ρ w => ∃ (c : Bool), Q7 ρ [(1, (.int .i64 p6))] ∧ SP S w0 w [rdE Qn A3 c4 q2, Qk g1 112 #[(.slice A3 (List.length q2) c4), (.bool c)]] ∧ Ys q2 p6 c = some r) ?_ ?_
 ·refine aR ?_
  refine iR 4 4 [(7, (pt g1 0)), (8, (pt g1 0)), (9, (pt g1 0)), (10, (pt g1 1))] ?_
  refine iS 5 ?_
  refine sL 4 10 g1 1 0 (.bool q5) 11 a rfl ?_
  refine iR 1 6 [(12, (.bool q5))] ?_
  refine In.guard (t := 12) (b := q5) K (fun f => ?_) (fun f => ?_)
  ·have H := ct H f
   refine iR 5 11 [(13, undef), (14, undef), (15, (.bool true)), (16, (pt g1 0)), (17, (pt g1 1))] ?_
   refine iS 12 ?_
   refine Qh.store (t := 4) (x := (.tmp 17)) (y := (.tmp 15)) (g := g1) (off := 1) (i := 0) (v := (.bool true)) (cs' := #[(.slice A3 (List.length q2) c4), (.bool true)]) (d := none) (k := 11) K rfl K K a rfl K ?_
   intro q m
   refine iF ?_
   exact ⟨true, ⟨K, trivial⟩, SP.sel m [1, 0] rfl rfl, H⟩
  ·have H := cf H f
   refine iR 5 11 [(13, (.bool p7)), (14, (.bool (!p7))), (15, (.bool (!p7))), (16, (pt g1 0)), (17, (pt g1 1))] ?_
   refine iS 12 ?_
   refine Qh.store (t := 4) (x := (.tmp 17)) (y := (.tmp 15)) (g := g1) (off := 1) (i := 0) (v := (.bool (!p7))) (cs' := #[(.slice A3 (List.length q2) c4), (.bool (!p7))]) (d := none) (k := 11) K rfl K K a rfl K ?_
   intro s o
   refine iF ?_
   exact ⟨(!p7), ⟨K, trivial⟩, SP.sel o [1, 0] rfl rfl, H⟩
 ·rintro ρ u ⟨c, hk, p, H⟩
  unfold Ys at H
  first | refine At.known [(1, (.int .i64 p6))] hk ?_ | rw [← Qc (l := [(1, (.int .i64 p6))]) hk]
  refine aQ ?_
  refine aR ?_
  refine iR 2 2 [(18, (.int .i64 p6)), (6, (.int .i64 p6))] ?_
  refine iF ?_
  refine At.ret K ?_
  refine ⟨(.int .i64 p6), K, ?_⟩
  obtain rfl := Qb H
  exact ⟨A3, c4, rfl, SP.sel p [1,0] rfl rfl⟩
def Yl (q2 : (List (List UInt8))) (p6 : Int) (a : Bool) : Option (Int × (List (List UInt8)) × Bool) :=
  (some (p6, q2, a))
def U5 (q2 : (List (List UInt8))) (q5 : Bool) (p6 : Int) (p7 : Bool) : Option (Int × (List (List UInt8)) × Bool) :=
  (cond q5 (Yl q2 p6 true) (Yl q2 p6 (!p7)))
set_option maxHeartbeats 40000000 in
theorem D5 {S : List Nat} (g1 : Nat) (A3 : Option Addr) (c4 : Nat) (q2 : (List (List UInt8))) (q5 : Bool) (p6 : Int) (p7 : Bool) (w0 : World) (hO : SP S w0 w0 [Qk g1 112 #[(.slice A3 (List.length q2) c4), (.bool q5)], rdE Qn A3 c4 q2])  (r : (Int × (List (List UInt8)) × Bool)) (H : U5 q2 q5 p6 p7 = some r) :
  Calls Tryz.prog 158 #[(pt g1 0), (.int .u32 p6), (.bool p7)] w0 (fun e w' => ∃ (h : Option Addr) (j : Nat), e = .returned (.int .u32 r.1) ∧ SP S w0 w' [Qk g1 112 #[(.slice h (List.length r.2.1) j), (.bool r.2.2)], rdE Qn h j r.2.1]) := by
 unfold U5 at H
 refine Ql (n := 19) Tryz.func158 K K K ?_
 have a := hO
 refine aQ ?_
 refine aR ?_
 refine iR 1 1 [(6, (.int .u32 0))] ?_
 refine iF ?_
 refine aQ ?_
 refine At.join (fun ρ w => ∃ (c : Bool), Q7 ρ [(1, (.int .u32 p6))] ∧ SP S w0 w [rdE Qn A3 c4 q2, Qk g1 112 #[(.slice A3 (List.length q2) c4), (.bool c)]] ∧ Yl q2 p6 c = some r) ?_ ?_
 ·refine aR ?_
  refine iR 4 4 [(7, (pt g1 0)), (8, (pt g1 0)), (9, (pt g1 0)), (10, (pt g1 1))] ?_
  refine iS 5 ?_
  refine sL 4 10 g1 1 0 (.bool q5) 11 a rfl ?_
  refine iR 1 6 [(12, (.bool q5))] ?_
  refine In.guard (t := 12) (b := q5) K (fun f => ?_) (fun f => ?_)
  ·have H := ct H f
   refine iR 5 11 [(13, undef), (14, undef), (15, (.bool true)), (16, (pt g1 0)), (17, (pt g1 1))] ?_
   refine iS 12 ?_
   refine Qh.store (t := 4) (x := (.tmp 17)) (y := (.tmp 15)) (g := g1) (off := 1) (i := 0) (v := (.bool true)) (cs' := #[(.slice A3 (List.length q2) c4), (.bool true)]) (d := none) (k := 11) K rfl K K a rfl K ?_
   intro q m
   refine iF ?_
   exact ⟨true, ⟨K, trivial⟩, SP.sel m [1, 0] rfl rfl, H⟩
  ·have H := cf H f
   refine iR 5 11 [(13, (.bool p7)), (14, (.bool (!p7))), (15, (.bool (!p7))), (16, (pt g1 0)), (17, (pt g1 1))] ?_
   refine iS 12 ?_
   refine Qh.store (t := 4) (x := (.tmp 17)) (y := (.tmp 15)) (g := g1) (off := 1) (i := 0) (v := (.bool (!p7))) (cs' := #[(.slice A3 (List.length q2) c4), (.bool (!p7))]) (d := none) (k := 11) K rfl K K a rfl K ?_
   intro s o
   refine iF ?_
   exact ⟨(!p7), ⟨K, trivial⟩, SP.sel o [1, 0] rfl rfl, H⟩
 ·rintro ρ u ⟨c, hk, p, H⟩
  unfold Yl at H
  first | refine At.known [(1, (.int .u32 p6))] hk ?_ | rw [← Qc (l := [(1, (.int .u32 p6))]) hk]
  refine aQ ?_
  refine aR ?_
  refine iR 2 2 [(18, (.int .u32 p6)), (6, (.int .u32 p6))] ?_
  refine iF ?_
  refine At.ret K ?_
  refine ⟨(.int .u32 p6), K, ?_⟩
  obtain rfl := Qb H
  exact ⟨A3, c4, rfl, SP.sel p [1,0] rfl rfl⟩
def Xh (q2 : (List (List UInt8))) (p6 : (List UInt8)) (a : Bool) : Option ((List UInt8) × (List (List UInt8)) × Bool) :=
  (some (p6, q2, a))
def Ym (q2 : (List (List UInt8))) (q5 : Bool) (p6 : (List UInt8)) (p7 : Bool) : Option ((List UInt8) × (List (List UInt8)) × Bool) :=
  (cond q5 (Xh q2 p6 true) (Xh q2 p6 (!p7)))
set_option maxHeartbeats 40000000 in
theorem G2 {S : List Nat} (g1 : Nat) (A3 : Option Addr) (c4 : Nat) (q2 : (List (List UInt8))) (q5 : Bool) (p6 : (List UInt8)) (p7 : Bool) (w0 : World) (hO : SP S w0 w0 [Qk g1 112 #[(.slice A3 (List.length q2) c4), (.bool q5)], rdE Qn A3 c4 q2])  (r : ((List UInt8) × (List (List UInt8)) × Bool)) (H : Ym q2 q5 p6 p7 = some r) :
  Calls Tryz.prog 159 #[(pt g1 0), (.string ⟨List.toArray p6⟩), (.bool p7)] w0 (fun e w' => ∃ (h : Option Addr) (j : Nat), e = .returned (.string ⟨List.toArray r.1⟩) ∧ SP S w0 w' [Qk g1 112 #[(.slice h (List.length r.2.1) j), (.bool r.2.2)], rdE Qn h j r.2.1]) := by
 unfold Ym at H
 refine Ql (n := 19) Tryz.func159 K K K ?_
 have a := hO
 refine aQ ?_
 refine aR ?_
 refine iR 1 1 [(6, (.string ⟨List.toArray ([] : List UInt8)⟩))] ?_
 refine iF ?_
 refine aQ ?_
 refine At.join (fun ρ w => ∃ (c : Bool), Q7 ρ [(1, (.string ⟨List.toArray p6⟩))] ∧ SP S w0 w [rdE Qn A3 c4 q2, Qk g1 112 #[(.slice A3 (List.length q2) c4), (.bool c)]] ∧ Xh q2 p6 c = some r) ?_ ?_
 ·refine aR ?_
  refine iR 4 4 [(7, (pt g1 0)), (8, (pt g1 0)), (9, (pt g1 0)), (10, (pt g1 1))] ?_
  refine iS 5 ?_
  refine sL 4 10 g1 1 0 (.bool q5) 11 a rfl ?_
  refine iR 1 6 [(12, (.bool q5))] ?_
  refine In.guard (t := 12) (b := q5) K (fun f => ?_) (fun f => ?_)
  ·have H := ct H f
   refine iR 5 11 [(13, undef), (14, undef), (15, (.bool true)), (16, (pt g1 0)), (17, (pt g1 1))] ?_
   refine iS 12 ?_
   refine Qh.store (t := 4) (x := (.tmp 17)) (y := (.tmp 15)) (g := g1) (off := 1) (i := 0) (v := (.bool true)) (cs' := #[(.slice A3 (List.length q2) c4), (.bool true)]) (d := none) (k := 11) K rfl K K a rfl K ?_
   intro q m
   refine iF ?_
   exact ⟨true, ⟨K, trivial⟩, SP.sel m [1, 0] rfl rfl, H⟩
  ·have H := cf H f
   refine iR 5 11 [(13, (.bool p7)), (14, (.bool (!p7))), (15, (.bool (!p7))), (16, (pt g1 0)), (17, (pt g1 1))] ?_
   refine iS 12 ?_
   refine Qh.store (t := 4) (x := (.tmp 17)) (y := (.tmp 15)) (g := g1) (off := 1) (i := 0) (v := (.bool (!p7))) (cs' := #[(.slice A3 (List.length q2) c4), (.bool (!p7))]) (d := none) (k := 11) K rfl K K a rfl K ?_
   intro s o
   refine iF ?_
   exact ⟨(!p7), ⟨K, trivial⟩, SP.sel o [1, 0] rfl rfl, H⟩
 ·rintro ρ u ⟨c, hk, p, H⟩
  unfold Xh at H
  first | refine At.known [(1, (.string ⟨List.toArray p6⟩))] hk ?_ | rw [← Qc (l := [(1, (.string ⟨List.toArray p6⟩))]) hk]
  refine aQ ?_
  refine aR ?_
  refine iR 2 2 [(18, (.string ⟨List.toArray p6⟩)), (6, (.string ⟨List.toArray p6⟩))] ?_
  refine iF ?_
  refine At.ret K ?_
  refine ⟨(.string ⟨List.toArray p6⟩), K, ?_⟩
  obtain rfl := Qb H
  exact ⟨A3, c4, rfl, SP.sel p [1,0] rfl rfl⟩
def X1 (q2 : (List (List UInt8))) (a : Int) (b : (List UInt8)) (c : Bool) (d : Bool) (e : Bool) : Option (Int × (List UInt8) × Bool × Bool × (List (List UInt8)) × Bool) :=
  (some (a, b, c, d, q2, e))
def Xw (q2 : (List (List UInt8))) (q5 : Bool) (a : Int) (b : (List UInt8)) (c : Bool) (d : Bool) (e : Bool) : Option (Int × (List UInt8) × Bool × Bool × (List (List UInt8)) × Bool) :=
  (cond q5 (X1 q2 a b c d true) (X1 q2 a b c d (!e)))
set_option maxHeartbeats 40000000 in
theorem J9 {S : List Nat} (g1 : Nat) (A3 : Option Addr) (c4 : Nat) (q2 : (List (List UInt8))) (q5 : Bool) (c : Int) (f : (List UInt8)) (h : Bool) (j : Bool) (m : Bool) (w0 : World) (hO : SP S w0 w0 [Qk g1 112 #[(.slice A3 (List.length q2) c4), (.bool q5)], rdE Qn A3 c4 q2])  (r : (Int × (List UInt8) × Bool × Bool × (List (List UInt8)) × Bool)) (H : Xw q2 q5 c f h j m = some r) :
  Calls Tryz.prog 139 #[(pt g1 0), (.agg #[(.int .i64 c), (.string ⟨List.toArray f⟩), (.bool h), (.bool j)]), (.bool m)] w0 (fun e w' => ∃ (a0 : Option Addr) (a1 : Nat), e = .returned (.agg #[(.int .i64 r.1), (.string ⟨List.toArray r.2.1⟩), (.bool r.2.2.1), (.bool r.2.2.2.1)]) ∧ SP S w0 w' [Qk g1 112 #[(.slice a0 (List.length r.2.2.2.2.1) a1), (.bool r.2.2.2.2.2)], rdE Qn a0 a1 r.2.2.2.2.1]) := by
 unfold Xw at H
 refine Ql (n := 19) Tryz.func139 K K K ?_
 have a4 := hO
 refine aQ ?_
 refine aR ?_
 refine iS 1 ?_
 refine Yi (t := 108) (x := (.tmp 1)) (v := (.agg #[(.int .i64 c), (.string ⟨List.toArray f⟩), (.bool h), (.bool j)])) (d := (some 4)) (k := 0) K rfl K a4 ?_
 intro p a8 a5
 refine iS 2 ?_
 refine Qh.alloc (t := 108) (z := (.agg #[(.int .i64 0), (.string ⟨List.toArray ([] : List UInt8)⟩), (.bool false), (.bool false)])) (d := (some 6)) (k := 1) K rfl K a5 ?_
 intro o a9 q
 refine iF ?_
 refine aQ ?_
 refine At.join (fun ρ w => ∃ (s : Bool), Q7 ρ [(4, (pt p 0)), (6, (pt o 0))] ∧ SP S w0 w [rdE Qn A3 c4 q2, Qk g1 112 #[(.slice A3 (List.length q2) c4), (.bool s)], Qk p 108 #[(.int .i64 c), (.string ⟨List.toArray f⟩), (.bool h), (.bool j)], Qk o 108 #[(.int .i64 0), (.string ⟨List.toArray ([] : List UInt8)⟩), (.bool false), (.bool false)]] ∧ X1 q2 c f h j s = some r) ?_ ?_
 ·refine aR ?_
  refine iR 4 4 [(7, (pt g1 0)), (8, (pt g1 0)), (9, (pt g1 0)), (10, (pt g1 1))] ?_
  refine iS 5 ?_
  refine sL 4 10 g1 1 0 (.bool q5) 11 q rfl ?_
  refine iR 1 6 [(12, (.bool q5))] ?_
  refine In.guard (t := 12) (b := q5) K (fun u => ?_) (fun u => ?_)
  ·have H := ct H u
   refine iR 5 11 [(13, undef), (14, undef), (15, (.bool true)), (16, (pt g1 0)), (17, (pt g1 1))] ?_
   refine iS 12 ?_
   refine Qh.store (t := 4) (x := (.tmp 17)) (y := (.tmp 15)) (g := g1) (off := 1) (i := 0) (v := (.bool true)) (cs' := #[(.slice A3 (List.length q2) c4), (.bool true)]) (d := none) (k := 11) K rfl K K q rfl K ?_
   intro b0 a6
   refine iF ?_
   exact ⟨true, ⟨K, K, trivial⟩, SP.sel a6 [1, 0, 2, 3] rfl rfl, H⟩
  ·have H := cf H u
   refine iR 5 11 [(13, (.bool m)), (14, (.bool (!m))), (15, (.bool (!m))), (16, (pt g1 0)), (17, (pt g1 1))] ?_
   refine iS 12 ?_
   refine Qh.store (t := 4) (x := (.tmp 17)) (y := (.tmp 15)) (g := g1) (off := 1) (i := 0) (v := (.bool (!m))) (cs' := #[(.slice A3 (List.length q2) c4), (.bool (!m))]) (d := none) (k := 11) K rfl K K q rfl K ?_
   intro b1 a7
   refine iF ?_
   exact ⟨(!m), ⟨K, K, trivial⟩, SP.sel a7 [1, 0, 2, 3] rfl rfl, H⟩
 ·rintro ρ b2 ⟨s, hk, a2, H⟩
  unfold X1 at H
  first | refine At.known [(4, (pt p 0)), (6, (pt o 0))] hk ?_ | rw [← Qc (l := [(4, (pt p 0)), (6, (pt o 0))]) hk]
  refine aQ ?_
  refine aR ?_
  refine iS 1 ?_
  refine sL 108 4 p 0 2 (.agg #[(.int .i64 c), (.string ⟨List.toArray f⟩), (.bool h), (.bool j)]) 18 a2 rfl ?_
  refine iS 2 ?_
  refine Qh.store (t := 108) (x := (.tmp 6)) (y := (.tmp 18)) (g := o) (off := 0) (i := 3) (v := (.agg #[(.int .i64 c), (.string ⟨List.toArray f⟩), (.bool h), (.bool j)])) (cs' := #[(.int .i64 c), (.string ⟨List.toArray f⟩), (.bool h), (.bool j)]) (d := none) (k := 1) K rfl K K a2 rfl K ?_
  intro b3 a3
  refine iF ?_
  refine At.ret K ?_
  refine ⟨(.agg #[(.int .i64 c), (.string ⟨List.toArray f⟩), (.bool h), (.bool j)]), res_1 K (Gt (a := 6) (t := 108) (g := o) (off := 0) K (SP.get a3 (i := 3) rfl) K), ?_⟩
  obtain rfl := Qb H
  exact ⟨A3, c4, rfl, SP.sel a3 [1,0] rfl rfl⟩
def Vd (q2 : (List (List UInt8))) (q5 : Bool) : Option (Int × (List (List UInt8)) × Bool) :=
  ((Ve q2 q5).bind fun a => ((Rw a.1).bind fun c => ((Nr a.2.1 a.2.2 c.1 c.2).bind fun b => (some (b.1, b.2.1, b.2.2)))))
set_option maxHeartbeats 40000000 in
theorem Vh {S : List Nat} (g1 : Nat) (A3 : Option Addr) (c4 : Nat) (q2 : (List (List UInt8))) (q5 : Bool) (w0 : World) (hL : ∀ w, Mod S w0 w → Gu w) (hO : SP S w0 w0 [Qk g1 112 #[(.slice A3 (List.length q2) c4), (.bool q5)], rdE Qn A3 c4 q2])  (r : (Int × (List (List UInt8)) × Bool)) (H : Vd q2 q5 = some r) :
  Calls Tryz.prog 76 #[(pt g1 0)] w0 (fun e w' => ∃ (i : Option Addr) (j : Nat), e = .returned (.int .i64 r.1) ∧ SP S w0 w' [Qk g1 112 #[(.slice i (List.length r.2.1) j), (.bool r.2.2)], rdE Qn i j r.2.1]) := by
 unfold Vd at H
 refine Ql (n := 15) Tryz.func76 K K K ?_
 have k := hO
 refine aQ ?_
 refine aR ?_
 refine iR 1 1 [(2, (.int .i64 0))] ?_
 refine iF ?_
 refine aQ ?_
 refine aR ?_
 refine iR 1 1 [(6, (pt g1 0))] ?_
 obtain ⟨b, s, H⟩ := Qa H
 refine iS 2 ?_
 refine cF 68 #[(.tmp 6)] #[109] 7 Tryz.call68 (V7 g1 A3 c4 q2 q5 w0 (Za k [0, 1] rfl rfl) b s) ?_
 rintro e w32 ⟨d, f, rfl, l⟩
 refine ⟨_, rfl, ?_⟩
 have m : SP S w0 w32 [Qk g1 112 #[(.slice d (List.length b.2.1) f), (.bool b.2.2)], rdE Qn d f b.2.1] := Qr k [0, 1] [] rfl rfl l rfl
 clear l
 obtain ⟨a, t, H⟩ := Qa H
 refine iS 3 ?_
 refine cF 135 #[(.tmp 7)] #[9] 8 Tryz.call135 (Ul  b.1 w32 (hL w32 (SP.mod m)) a t) ?_
 rintro e u ⟨rfl, o⟩
 refine ⟨_, rfl, ?_⟩
 have p := SP.call m o
 clear o
 refine iR 5 8 [(5, (.tuple #[(.int .i64 a.1), (.bool a.2)])), (9, (.int .i64 a.1)), (10, (.bool a.2)), (3, (.int .i64 a.1)), (4, (.bool a.2))] ?_
 refine iF ?_
 refine aQ ?_
 refine aR ?_
 refine iR 3 3 [(11, (pt g1 0)), (12, (.int .i64 a.1)), (13, (.bool a.2))] ?_
 obtain ⟨c, v, H⟩ := Qa H
 refine iS 4 ?_
 refine cF 136 #[(.tmp 11), (.tmp 12), (.tmp 13)] #[109, 2, 4] 14 Tryz.call136 (Bd g1 d f b.2.1 b.2.2 a.1 a.2 u (Za p [0, 1] rfl rfl) c v) ?_
 rintro e x ⟨g, h, rfl, q⟩
 refine ⟨_, rfl, ?_⟩
 have y : SP S w0 x [Qk g1 112 #[(.slice g (List.length c.2.1) h), (.bool c.2.2)], rdE Qn g h c.2.1] := Qr p [0, 1] [] rfl rfl q rfl
 clear q
 refine iR 1 5 [(2, (.int .i64 c.1))] ?_
 refine iF ?_
 refine At.ret K ?_
 refine ⟨(.int .i64 c.1), K, ?_⟩
 obtain rfl := Qb H
 exact ⟨g, h, rfl, SP.sel y [0,1] rfl rfl⟩
def Jm (q2 : (List (List UInt8))) (q5 : Bool) : Option (Int × (List (List UInt8)) × Bool) :=
  ((Ve q2 q5).bind fun a => ((Rh a.1).bind fun c => ((U5 a.2.1 a.2.2 c.1 c.2).bind fun b => (some (b.1, b.2.1, b.2.2)))))
set_option maxHeartbeats 40000000 in
theorem D6 {S : List Nat} (g1 : Nat) (A3 : Option Addr) (c4 : Nat) (q2 : (List (List UInt8))) (q5 : Bool) (w0 : World) (hL : ∀ w, Mod S w0 w → Gu w) (hO : SP S w0 w0 [Qk g1 112 #[(.slice A3 (List.length q2) c4), (.bool q5)], rdE Qn A3 c4 q2])  (r : (Int × (List (List UInt8)) × Bool)) (H : Jm q2 q5 = some r) :
  Calls Tryz.prog 114 #[(pt g1 0)] w0 (fun e w' => ∃ (i : Option Addr) (j : Nat), e = .returned (.int .u32 r.1) ∧ SP S w0 w' [Qk g1 112 #[(.slice i (List.length r.2.1) j), (.bool r.2.2)], rdE Qn i j r.2.1]) := by
 unfold Jm at H
 refine Ql (n := 15) Tryz.func114 K K K ?_
 have k := hO
 refine aQ ?_
 refine aR ?_
 refine iR 1 1 [(2, (.int .u32 0))] ?_
 refine iF ?_
 refine aQ ?_
 refine aR ?_
 refine iR 1 1 [(6, (pt g1 0))] ?_
 obtain ⟨b, s, H⟩ := Qa H
 refine iS 2 ?_
 refine cF 68 #[(.tmp 6)] #[109] 7 Tryz.call68 (V7 g1 A3 c4 q2 q5 w0 (Za k [0, 1] rfl rfl) b s) ?_
 rintro e w32 ⟨d, f, rfl, l⟩
 refine ⟨_, rfl, ?_⟩
 have m : SP S w0 w32 [Qk g1 112 #[(.slice d (List.length b.2.1) f), (.bool b.2.2)], rdE Qn d f b.2.1] := Qr k [0, 1] [] rfl rfl l rfl
 clear l
 obtain ⟨a, t, H⟩ := Qa H
 refine iS 3 ?_
 refine cF 157 #[(.tmp 7)] #[9] 8 Tryz.call157 (E3  b.1 w32 (hL w32 (SP.mod m)) a t) ?_
 rintro e u ⟨rfl, o⟩
 refine ⟨_, rfl, ?_⟩
 have p := SP.call m o
 clear o
 refine iR 5 8 [(5, (.tuple #[(.int .u32 a.1), (.bool a.2)])), (9, (.int .u32 a.1)), (10, (.bool a.2)), (3, (.int .u32 a.1)), (4, (.bool a.2))] ?_
 refine iF ?_
 refine aQ ?_
 refine aR ?_
 refine iR 3 3 [(11, (pt g1 0)), (12, (.int .u32 a.1)), (13, (.bool a.2))] ?_
 obtain ⟨c, v, H⟩ := Qa H
 refine iS 4 ?_
 refine cF 158 #[(.tmp 11), (.tmp 12), (.tmp 13)] #[109, 50, 4] 14 Tryz.call158 (D5 g1 d f b.2.1 b.2.2 a.1 a.2 u (Za p [0, 1] rfl rfl) c v) ?_
 rintro e x ⟨g, h, rfl, q⟩
 refine ⟨_, rfl, ?_⟩
 have y : SP S w0 x [Qk g1 112 #[(.slice g (List.length c.2.1) h), (.bool c.2.2)], rdE Qn g h c.2.1] := Qr p [0, 1] [] rfl rfl q rfl
 clear q
 refine iR 1 5 [(2, (.int .u32 c.1))] ?_
 refine iF ?_
 refine At.ret K ?_
 refine ⟨(.int .u32 c.1), K, ?_⟩
 obtain rfl := Qb H
 exact ⟨g, h, rfl, SP.sel y [0,1] rfl rfl⟩
def Xp (q2 : (List (List UInt8))) (q5 : Bool) : Option ((List UInt8) × (List (List UInt8)) × Bool) :=
  ((Ve q2 q5).bind fun a => ((Ur a.1).bind fun c => ((Ym a.2.1 a.2.2 a.1 c).bind fun b => (some (b.1, b.2.1, b.2.2)))))
set_option maxHeartbeats 40000000 in
theorem U4 {S : List Nat} (g1 : Nat) (A3 : Option Addr) (c4 : Nat) (q2 : (List (List UInt8))) (q5 : Bool) (w0 : World) (hO : SP S w0 w0 [Qk g1 112 #[(.slice A3 (List.length q2) c4), (.bool q5)], rdE Qn A3 c4 q2])  (r : ((List UInt8) × (List (List UInt8)) × Bool)) (H : Xp q2 q5 = some r) :
  Calls Tryz.prog 129 #[(pt g1 0)] w0 (fun e w' => ∃ (h : Option Addr) (i : Nat), e = .returned (.string ⟨List.toArray r.1⟩) ∧ SP S w0 w' [Qk g1 112 #[(.slice h (List.length r.2.1) i), (.bool r.2.2)], rdE Qn h i r.2.1]) := by
 unfold Xp at H
 refine Ql (n := 11) Tryz.func129 K K K ?_
 have j := hO
 refine aQ ?_
 refine aR ?_
 refine iR 1 1 [(2, (.string ⟨List.toArray ([] : List UInt8)⟩))] ?_
 refine iF ?_
 refine aQ ?_
 refine aR ?_
 refine iR 1 1 [(4, (pt g1 0))] ?_
 obtain ⟨a, q, H⟩ := Qa H
 refine iS 2 ?_
 refine cF 68 #[(.tmp 4)] #[109] 5 Tryz.call68 (V7 g1 A3 c4 q2 q5 w0 (Za j [0, 1] rfl rfl) a q) ?_
 rintro e w32 ⟨c, d, rfl, k⟩
 refine ⟨_, rfl, ?_⟩
 have s : SP S w0 w32 [Qk g1 112 #[(.slice c (List.length a.2.1) d), (.bool a.2.2)], rdE Qn c d a.2.1] := Qr j [0, 1] [] rfl rfl k rfl
 clear k
 refine iR 1 3 [(3, (.string ⟨List.toArray a.1⟩))] ?_
 refine iF ?_
 refine aQ ?_
 refine aR ?_
 refine iR 3 3 [(6, (pt g1 0)), (7, (.string ⟨List.toArray a.1⟩)), (8, (.string ⟨List.toArray a.1⟩))] ?_
 obtain ⟨l, t, H⟩ := Qa H
 refine iS 4 ?_
 refine cF 101 #[(.tmp 8)] #[9] 9 Tryz.call101 (D1  a.1 w32  l t) ?_
 rintro e u ⟨rfl, m⟩
 refine ⟨_, rfl, ?_⟩
 have o := SP.call s m
 clear m
 obtain ⟨b, v, H⟩ := Qa H
 refine iS 5 ?_
 refine cF 159 #[(.tmp 6), (.tmp 7), (.tmp 9)] #[109, 9, 4] 10 Tryz.call159 (G2 g1 c d a.2.1 a.2.2 a.1 l u (Za o [0, 1] rfl rfl) b v) ?_
 rintro e w ⟨f, g, rfl, p⟩
 refine ⟨_, rfl, ?_⟩
 have x : SP S w0 w [Qk g1 112 #[(.slice f (List.length b.2.1) g), (.bool b.2.2)], rdE Qn f g b.2.1] := Qr o [0, 1] [] rfl rfl p rfl
 clear p
 refine iR 1 6 [(2, (.string ⟨List.toArray b.1⟩))] ?_
 refine iF ?_
 refine At.ret K ?_
 refine ⟨(.string ⟨List.toArray b.1⟩), K, ?_⟩
 obtain rfl := Qb H
 exact ⟨f, g, rfl, SP.sel x [0,1] rfl rfl⟩
def Zj (q2 : (List (List UInt8))) (q5 : Bool) : Option ((List UInt8) × (List (List UInt8)) × Bool) :=
  ((Ve q2 q5).bind fun a => ((Um a.1).bind fun c => ((Ym a.2.1 a.2.2 c.1 c.2).bind fun b => (some (b.1, b.2.1, b.2.2)))))
set_option maxHeartbeats 40000000 in
theorem Yq {S : List Nat} (g1 : Nat) (A3 : Option Addr) (c4 : Nat) (q2 : (List (List UInt8))) (q5 : Bool) (w0 : World) (hO : SP S w0 w0 [Qk g1 112 #[(.slice A3 (List.length q2) c4), (.bool q5)], rdE Qn A3 c4 q2])  (r : ((List UInt8) × (List (List UInt8)) × Bool)) (H : Zj q2 q5 = some r) :
  Calls Tryz.prog 115 #[(pt g1 0)] w0 (fun e w' => ∃ (i : Option Addr) (j : Nat), e = .returned (.string ⟨List.toArray r.1⟩) ∧ SP S w0 w' [Qk g1 112 #[(.slice i (List.length r.2.1) j), (.bool r.2.2)], rdE Qn i j r.2.1]) := by
 unfold Zj at H
 refine Ql (n := 15) Tryz.func115 K K K ?_
 have k := hO
 refine aQ ?_
 refine aR ?_
 refine iR 1 1 [(2, (.string ⟨List.toArray ([] : List UInt8)⟩))] ?_
 refine iF ?_
 refine aQ ?_
 refine aR ?_
 refine iR 1 1 [(6, (pt g1 0))] ?_
 obtain ⟨b, q, H⟩ := Qa H
 refine iS 2 ?_
 refine cF 68 #[(.tmp 6)] #[109] 7 Tryz.call68 (V7 g1 A3 c4 q2 q5 w0 (Za k [0, 1] rfl rfl) b q) ?_
 rintro e w32 ⟨d, f, rfl, l⟩
 refine ⟨_, rfl, ?_⟩
 have s : SP S w0 w32 [Qk g1 112 #[(.slice d (List.length b.2.1) f), (.bool b.2.2)], rdE Qn d f b.2.1] := Qr k [0, 1] [] rfl rfl l rfl
 clear l
 obtain ⟨a, t, H⟩ := Qa H
 refine iS 3 ?_
 refine cF 138 #[(.tmp 7)] #[9] 8 Tryz.call138 (R5  b.1 w32  a t) ?_
 rintro e u ⟨rfl, m⟩
 refine ⟨_, rfl, ?_⟩
 have o := SP.call s m
 clear m
 refine iR 5 8 [(5, (.tuple #[(.string ⟨List.toArray a.1⟩), (.bool a.2)])), (9, (.string ⟨List.toArray a.1⟩)), (10, (.bool a.2)), (3, (.string ⟨List.toArray a.1⟩)), (4, (.bool a.2))] ?_
 refine iF ?_
 refine aQ ?_
 refine aR ?_
 refine iR 3 3 [(11, (pt g1 0)), (12, (.string ⟨List.toArray a.1⟩)), (13, (.bool a.2))] ?_
 obtain ⟨c, v, H⟩ := Qa H
 refine iS 4 ?_
 refine cF 159 #[(.tmp 11), (.tmp 12), (.tmp 13)] #[109, 9, 4] 14 Tryz.call159 (G2 g1 d f b.2.1 b.2.2 a.1 a.2 u (Za o [0, 1] rfl rfl) c v) ?_
 rintro e w ⟨g, h, rfl, p⟩
 refine ⟨_, rfl, ?_⟩
 have x : SP S w0 w [Qk g1 112 #[(.slice g (List.length c.2.1) h), (.bool c.2.2)], rdE Qn g h c.2.1] := Qr o [0, 1] [] rfl rfl p rfl
 clear p
 refine iR 1 5 [(2, (.string ⟨List.toArray c.1⟩))] ?_
 refine iF ?_
 refine At.ret K ?_
 refine ⟨(.string ⟨List.toArray c.1⟩), K, ?_⟩
 obtain rfl := Qb H
 exact ⟨g, h, rfl, SP.sel x [0,1] rfl rfl⟩
def Xi (a : (List (List UInt8))) (b : Bool) (c : Int) (d : (List UInt8)) (e : Bool) (f : Bool) : Option (Int × (List UInt8) × Bool × Bool × (List (List UInt8)) × Bool) :=
  (some (c, d, e, f, a, b))
def Jn (q2 : (List (List UInt8))) (q5 : Bool) : Option (Int × (List UInt8) × Bool × Bool × (List (List UInt8)) × Bool) :=
  ((Ve q2 q5).bind fun a => ((Rj a.1 ([61] : List UInt8)).bind fun i => ((Rw i.1).bind fun e => ((Yx i.2.1 ([33] : List UInt8)).bind fun f => ((Yx f.1 ([43] : List UInt8)).bind fun g => ((Um g.1).bind fun h => (cond i.2.2 (cond e.2 ((Xw a.2.1 a.2.2 e.1 h.1 g.2 f.2 h.2).bind fun b => (Xi b.2.2.2.2.1 b.2.2.2.2.2 b.1 b.2.1 b.2.2.1 b.2.2.2.1)) ((Xw a.2.1 a.2.2 e.1 h.1 g.2 f.2 false).bind fun c => (Xi c.2.2.2.2.1 c.2.2.2.2.2 c.1 c.2.1 c.2.2.1 c.2.2.2.1))) ((Xw a.2.1 a.2.2 e.1 h.1 g.2 f.2 false).bind fun d => (Xi d.2.2.2.2.1 d.2.2.2.2.2 d.1 d.2.1 d.2.2.1 d.2.2.2.1)))))))))
set_option maxHeartbeats 40000000 in
theorem D7 {S : List Nat} (g1 : Nat) (A3 : Option Addr) (c4 : Nat) (q2 : (List (List UInt8))) (q5 : Bool) (w0 : World) (hL : ∀ w, Mod S w0 w → Gu w) (hO : SP S w0 w0 [Qk g1 112 #[(.slice A3 (List.length q2) c4), (.bool q5)], rdE Qn A3 c4 q2])  (r : (Int × (List UInt8) × Bool × Bool × (List (List UInt8)) × Bool)) (H : Jn q2 q5 = some r) :
  Calls Tryz.prog 77 #[(pt g1 0)] w0 (fun e w' => ∃ (c0 : Option Addr) (c1 : Nat), e = .returned (.agg #[(.int .i64 r.1), (.string ⟨List.toArray r.2.1⟩), (.bool r.2.2.1), (.bool r.2.2.2.1)]) ∧ SP S w0 w' [Qk g1 112 #[(.slice c0 (List.length r.2.2.2.2.1) c1), (.bool r.2.2.2.2.2)], rdE Qn c0 c1 r.2.2.2.2.1]) := by
 unfold Jn at H
 refine Ql (n := 53) Tryz.func77 K K K ?_
 have d7 := hO
 refine aQ ?_
 refine aR ?_
 refine iS 1 ?_
 refine Qh.alloc (t := 108) (z := (.agg #[(.int .i64 0), (.string ⟨List.toArray ([] : List UInt8)⟩), (.bool false), (.bool false)])) (d := (some 2)) (k := 0) K rfl K d7 ?_
 intro s d8 c2
 refine iF ?_
 refine aQ ?_
 refine aR ?_
 refine iR 1 1 [(13, (pt g1 0))] ?_
 obtain ⟨u, d9, H⟩ := Qa H
 refine iS 2 ?_
 refine cF 68 #[(.tmp 13)] #[109] 14 Tryz.call68 (V7 g1 A3 c4 q2 q5 d8 (Za c2 [0, 1] rfl rfl) u d9) ?_
 rintro e c3 ⟨a1, a2, rfl, c5⟩
 refine ⟨_, rfl, ?_⟩
 have e0 : SP S w0 c3 [Qk s 108 #[(.int .i64 0), (.string ⟨List.toArray ([] : List UInt8)⟩), (.bool false), (.bool false)], Qk g1 112 #[(.slice a1 (List.length u.2.1) a2), (.bool u.2.2)], rdE Qn a1 a2 u.2.1] := Qr c2 [0, 1] [2] rfl rfl c5 rfl
 clear c5
 obtain ⟨j, e1, H⟩ := Qa H
 refine iS 3 ?_
 refine cF 137 #[(.tmp 14), (.const (.string ⟨List.toArray ([61] : List UInt8)⟩))] #[9, 9] 15 Tryz.call137 (E5  u.1 ([61] : List UInt8) c3  j e1) ?_
 rintro e c6 ⟨rfl, c7⟩
 refine ⟨_, rfl, ?_⟩
 have c8 := SP.call e0 c7
 clear c7
 refine iR 7 10 [(12, (.tuple #[(.string ⟨List.toArray j.1⟩), (.string ⟨List.toArray j.2.1⟩), (.bool j.2.2)])), (16, (.string ⟨List.toArray j.1⟩)), (17, (.string ⟨List.toArray j.2.1⟩)), (18, (.bool j.2.2)), (3, (.string ⟨List.toArray j.1⟩)), (4, (.string ⟨List.toArray j.2.1⟩)), (5, (.bool j.2.2))] ?_
 refine iF ?_
 refine aQ ?_
 refine aR ?_
 refine iR 1 1 [(20, (.string ⟨List.toArray j.1⟩))] ?_
 obtain ⟨m, e2, H⟩ := Qa H
 refine iS 2 ?_
 refine cF 135 #[(.tmp 20)] #[9] 21 Tryz.call135 (Ul  j.1 c6 (hL c6 (SP.mod c8)) m e2) ?_
 rintro e e3 ⟨rfl, c9⟩
 refine ⟨_, rfl, ?_⟩
 have e4 := SP.call c8 c9
 clear c9
 refine iR 5 7 [(19, (.tuple #[(.int .i64 m.1), (.bool m.2)])), (22, (.int .i64 m.1)), (23, (.bool m.2)), (6, (.int .i64 m.1)), (7, (.bool m.2))] ?_
 refine iF ?_
 refine aQ ?_
 refine aR ?_
 refine iR 1 1 [(25, (.string ⟨List.toArray j.2.1⟩))] ?_
 obtain ⟨p, e5, H⟩ := Qa H
 refine iS 2 ?_
 refine cF 90 #[(.tmp 25), (.const (.string ⟨List.toArray ([33] : List UInt8)⟩))] #[9, 9] 26 Tryz.call90 (G8  j.2.1 ([33] : List UInt8) e3  p e5) ?_
 rintro e e6 ⟨rfl, d0⟩
 refine ⟨_, rfl, ?_⟩
 have e7 := SP.call e4 d0
 clear d0
 refine iR 5 7 [(24, (.tuple #[(.string ⟨List.toArray p.1⟩), (.bool p.2)])), (27, (.string ⟨List.toArray p.1⟩)), (28, (.bool p.2)), (4, (.string ⟨List.toArray p.1⟩)), (8, (.bool p.2))] ?_
 refine iF ?_
 refine aQ ?_
 refine aR ?_
 refine iR 1 1 [(30, (.string ⟨List.toArray p.1⟩))] ?_
 obtain ⟨q, e8, H⟩ := Qa H
 refine iS 2 ?_
 refine cF 90 #[(.tmp 30), (.const (.string ⟨List.toArray ([43] : List UInt8)⟩))] #[9, 9] 31 Tryz.call90 (G8  p.1 ([43] : List UInt8) e6  q e8) ?_
 rintro e e9 ⟨rfl, d1⟩
 refine ⟨_, rfl, ?_⟩
 have f0 := SP.call e7 d1
 clear d1
 refine iR 5 7 [(29, (.tuple #[(.string ⟨List.toArray q.1⟩), (.bool q.2)])), (32, (.string ⟨List.toArray q.1⟩)), (33, (.bool q.2)), (4, (.string ⟨List.toArray q.1⟩)), (9, (.bool q.2))] ?_
 refine iF ?_
 refine aQ ?_
 refine aR ?_
 refine iR 1 1 [(35, (.string ⟨List.toArray q.1⟩))] ?_
 obtain ⟨o, f1, H⟩ := Qa H
 refine iS 2 ?_
 refine cF 138 #[(.tmp 35)] #[9] 36 Tryz.call138 (R5  q.1 e9  o f1) ?_
 rintro e b0 ⟨rfl, d2⟩
 refine ⟨_, rfl, ?_⟩
 have a0 := SP.call f0 d2
 clear d2
 refine iR 5 7 [(34, (.tuple #[(.string ⟨List.toArray o.1⟩), (.bool o.2)])), (37, (.string ⟨List.toArray o.1⟩)), (38, (.bool o.2)), (10, (.string ⟨List.toArray o.1⟩)), (11, (.bool o.2))] ?_
 refine iF ?_
 refine aQ ?_
 refine At.join (fun ρ w => ∃ (a3 : (List (List UInt8))) (b1 : Bool) (a4 : Int) (a5 : (List UInt8)) (a6 : Bool) (a7 : Bool) (a8 : Option Addr) (a9 : Nat), Q7 ρ [(2, (pt s 0))] ∧ SP S w0 w [rdE Qn a8 a9 a3, Qk g1 112 #[(.slice a8 (List.length a3) a9), (.bool b1)], Qk s 108 #[(.int .i64 a4), (.string ⟨List.toArray a5⟩), (.bool a6), (.bool a7)]] ∧ Xi a3 b1 a4 a5 a6 a7 = some r) ?_ ?_
 ·refine aR ?_
  refine iR 8 8 [(39, (pt g1 0)), (40, (.int .i64 m.1)), (41, (.string ⟨List.toArray o.1⟩)), (42, (.bool q.2)), (43, (.bool p.2)), (44, (.agg #[(.int .i64 m.1), (.string ⟨List.toArray o.1⟩), (.bool q.2), (.bool p.2)])), (45, (.bool j.2.2)), (46, (.bool j.2.2))] ?_
  refine In.guard (t := 46) (b := j.2.2) K (fun b2 => ?_) (fun b2 => ?_)
  ·have H := ct H b2
   refine iR 3 11 [(47, (.bool m.2)), (48, (.bool m.2)), (49, (.bool m.2))] ?_
   refine In.guard (t := 49) (b := m.2) K (fun b3 => ?_) (fun b3 => ?_)
   ·have H := ct H b3
    refine iR 2 13 [(50, (.bool o.2)), (51, (.bool o.2))] ?_
    obtain ⟨c, f2, H⟩ := Qa H
    refine iS 14 ?_
    refine cF 139 #[(.tmp 39), (.tmp 44), (.tmp 51)] #[109, 108, 4] 52 Tryz.call139 (J9 g1 a1 a2 u.2.1 u.2.2 m.1 o.1 q.2 p.2 o.2 b0 (Za a0 [1, 2] rfl rfl) c f2) ?_
    rintro e f3 ⟨b4, b5, rfl, d3⟩
    refine ⟨_, rfl, ?_⟩
    have f4 : SP S w0 f3 [Qk s 108 #[(.int .i64 0), (.string ⟨List.toArray ([] : List UInt8)⟩), (.bool false), (.bool false)], Qk g1 112 #[(.slice b4 (List.length c.2.2.2.2.1) b5), (.bool c.2.2.2.2.2)], rdE Qn b4 b5 c.2.2.2.2.1] := Qr a0 [1, 2] [0] rfl rfl d3 rfl
    clear d3
    refine iS 15 ?_
    refine Qh.store (t := 108) (x := (.tmp 2)) (y := (.tmp 52)) (g := s) (off := 0) (i := 0) (v := (.agg #[(.int .i64 c.1), (.string ⟨List.toArray c.2.1⟩), (.bool c.2.2.1), (.bool c.2.2.2.1)])) (cs' := #[(.int .i64 c.1), (.string ⟨List.toArray c.2.1⟩), (.bool c.2.2.1), (.bool c.2.2.2.1)]) (d := none) (k := 14) K rfl K K f4 rfl K ?_
    intro g5 f5
    refine iF ?_
    exact ⟨c.2.2.2.2.1, c.2.2.2.2.2, c.1, c.2.1, c.2.2.1, c.2.2.2.1, b4, b5, ⟨K, trivial⟩, SP.sel f5 [2, 1, 0] rfl rfl, H⟩
   ·have H := cf H b3
    refine iR 2 13 [(50, undef), (51, (.bool false))] ?_
    obtain ⟨f, f6, H⟩ := Qa H
    refine iS 14 ?_
    refine cF 139 #[(.tmp 39), (.tmp 44), (.tmp 51)] #[109, 108, 4] 52 Tryz.call139 (J9 g1 a1 a2 u.2.1 u.2.2 m.1 o.1 q.2 p.2 false b0 (Za a0 [1, 2] rfl rfl) f f6) ?_
    rintro e f7 ⟨b6, b7, rfl, d4⟩
    refine ⟨_, rfl, ?_⟩
    have f8 : SP S w0 f7 [Qk s 108 #[(.int .i64 0), (.string ⟨List.toArray ([] : List UInt8)⟩), (.bool false), (.bool false)], Qk g1 112 #[(.slice b6 (List.length f.2.2.2.2.1) b7), (.bool f.2.2.2.2.2)], rdE Qn b6 b7 f.2.2.2.2.1] := Qr a0 [1, 2] [0] rfl rfl d4 rfl
    clear d4
    refine iS 15 ?_
    refine Qh.store (t := 108) (x := (.tmp 2)) (y := (.tmp 52)) (g := s) (off := 0) (i := 0) (v := (.agg #[(.int .i64 f.1), (.string ⟨List.toArray f.2.1⟩), (.bool f.2.2.1), (.bool f.2.2.2.1)])) (cs' := #[(.int .i64 f.1), (.string ⟨List.toArray f.2.1⟩), (.bool f.2.2.1), (.bool f.2.2.2.1)]) (d := none) (k := 14) K rfl K K f8 rfl K ?_
    intro g6 f9
    refine iF ?_
    exact ⟨f.2.2.2.2.1, f.2.2.2.2.2, f.1, f.2.1, f.2.2.1, f.2.2.2.1, b6, b7, ⟨K, trivial⟩, SP.sel f9 [2, 1, 0] rfl rfl, H⟩
  ·have H := cf H b2
   refine iR 5 13 [(47, undef), (48, (.bool false)), (49, (.bool false)), (50, undef), (51, (.bool false))] ?_
   obtain ⟨h, g0, H⟩ := Qa H
   refine iS 14 ?_
   refine cF 139 #[(.tmp 39), (.tmp 44), (.tmp 51)] #[109, 108, 4] 52 Tryz.call139 (J9 g1 a1 a2 u.2.1 u.2.2 m.1 o.1 q.2 p.2 false b0 (Za a0 [1, 2] rfl rfl) h g0) ?_
   rintro e g2 ⟨b8, b9, rfl, d5⟩
   refine ⟨_, rfl, ?_⟩
   have g3 : SP S w0 g2 [Qk s 108 #[(.int .i64 0), (.string ⟨List.toArray ([] : List UInt8)⟩), (.bool false), (.bool false)], Qk g1 112 #[(.slice b8 (List.length h.2.2.2.2.1) b9), (.bool h.2.2.2.2.2)], rdE Qn b8 b9 h.2.2.2.2.1] := Qr a0 [1, 2] [0] rfl rfl d5 rfl
   clear d5
   refine iS 15 ?_
   refine Qh.store (t := 108) (x := (.tmp 2)) (y := (.tmp 52)) (g := s) (off := 0) (i := 0) (v := (.agg #[(.int .i64 h.1), (.string ⟨List.toArray h.2.1⟩), (.bool h.2.2.1), (.bool h.2.2.2.1)])) (cs' := #[(.int .i64 h.1), (.string ⟨List.toArray h.2.1⟩), (.bool h.2.2.1), (.bool h.2.2.2.1)]) (d := none) (k := 14) K rfl K K g3 rfl K ?_
   intro g7 g4
   refine iF ?_
   exact ⟨h.2.2.2.2.1, h.2.2.2.2.2, h.1, h.2.1, h.2.2.1, h.2.2.2.1, b8, b9, ⟨K, trivial⟩, SP.sel g4 [2, 1, 0] rfl rfl, H⟩
 ·rintro ρ g8 ⟨a3, b1, a4, a5, a6, a7, a8, a9, hk, d6, H⟩
  unfold Xi at H
  first | refine At.known [(2, (pt s 0))] hk ?_ | rw [← Qc (l := [(2, (pt s 0))]) hk]
  refine At.ret K ?_
  refine ⟨(.agg #[(.int .i64 a4), (.string ⟨List.toArray a5⟩), (.bool a6), (.bool a7)]), res_1 K (Gt (a := 2) (t := 108) (g := s) (off := 0) K (SP.get d6 (i := 2) rfl) K), ?_⟩
  obtain rfl := Qb H
  exact ⟨a8, a9, rfl, SP.sel d6 [1,0] rfl rfl⟩
def Nz (q2 : (List (List UInt8))) (q5 : Bool) (f : Int) (g : Int) (b : Int) (h : (List UInt8)) (i : Int) (j : (List UInt8)) (k : (List UInt8)) (c : (List UInt8)) : Option ((List (List UInt8)) × Bool) :=
  ((Gp b).bind fun d => ((Y3 c).bind fun e => ((Q8 q2 q5 ([d, e] : List (List UInt8))).bind fun a => (some (a.1, a.2)))))
set_option maxHeartbeats 40000000 in
theorem Cv {S : List Nat} (g1 : Nat) (A3 : Option Addr) (c4 : Nat) (q2 : (List (List UInt8))) (q5 : Bool) (o : Int) (p : Int) (j : Int) (q : (List UInt8)) (s : Int) (u : (List UInt8)) (y : (List UInt8)) (f : (List UInt8)) (w0 : World) (hL : ∀ w, Mod S w0 w → Gu w) (hO : SP S w0 w0 [Qk g1 133 #[(.slice A3 (List.length q2) c4), (.bool q5)], Vu 9 Qn A3 c4 q2])  (r : ((List (List UInt8)) × Bool)) (H : Nz q2 q5 o p j q s u y f = some r) :
  Calls Tryz.prog 112 #[(pt g1 0), (.agg #[(.int .i64 o), (.int .i64 p), (.int .u32 j), (.string ⟨List.toArray q⟩), (.int .i64 s), (.string ⟨List.toArray u⟩), (.string ⟨List.toArray y⟩), (.string ⟨List.toArray f⟩)])] w0 (fun e w' => ∃ (a7 : Option Addr) (a8 : Nat), e = .returned (.tuple #[]) ∧ SP S w0 w' [Qk g1 133 #[(.slice a7 (List.length r.1) a8), (.bool r.2)], Vu 9 Qn a7 a8 r.1]) := by
 unfold Nz at H
 refine Ql (n := 13) Tryz.func112 K K K ?_
 have b7 := hO
 refine aQ ?_
 refine aR ?_
 refine iS 1 ?_
 refine Yi (t := 52) (x := (.tmp 1)) (v := (.agg #[(.int .i64 o), (.int .i64 p), (.int .u32 j), (.string ⟨List.toArray q⟩), (.int .i64 s), (.string ⟨List.toArray u⟩), (.string ⟨List.toArray y⟩), (.string ⟨List.toArray f⟩)])) (d := (some 3)) (k := 0) K rfl K b7 ?_
 intro c d8 b8
 refine iF ?_
 obtain ⟨a, b9, H⟩ := Qa H
 obtain ⟨b, c0, H⟩ := Qa H
 obtain ⟨z, c1, H⟩ := Qa H
 refine aG [GEq (pt g1 0), GEq (pt c 2), GEq (.int .u32 j), GEq (.string ⟨List.toArray a⟩), GEq (pt c 7), GEq (.string ⟨List.toArray f⟩), GEq (.string ⟨List.toArray b⟩), Mb, GEq (.tuple #[])] [3, 6, 7, 8] [([], fun vs w => VL vs [] ∧ SP S w0 w [Qk g1 133 #[(.slice A3 (List.length q2) c4), (.bool q5)], Vu 9 Qn A3 c4 q2, Qk c 52 #[(.int .i64 o), (.int .i64 p), (.int .u32 j), (.string ⟨List.toArray q⟩), (.int .i64 s), (.string ⟨List.toArray u⟩), (.string ⟨List.toArray y⟩), (.string ⟨List.toArray f⟩)]]), ([3], fun vs w => VL vs [(.string ⟨List.toArray a⟩)] ∧ SP S w0 w [Qk g1 133 #[(.slice A3 (List.length q2) c4), (.bool q5)], Vu 9 Qn A3 c4 q2, Qk c 52 #[(.int .i64 o), (.int .i64 p), (.int .u32 j), (.string ⟨List.toArray q⟩), (.int .i64 s), (.string ⟨List.toArray u⟩), (.string ⟨List.toArray y⟩), (.string ⟨List.toArray f⟩)]]), ([3, 6], fun vs w => VL vs [(.string ⟨List.toArray a⟩), (.string ⟨List.toArray b⟩)] ∧ SP S w0 w [Qk g1 133 #[(.slice A3 (List.length q2) c4), (.bool q5)], Vu 9 Qn A3 c4 q2, Qk c 52 #[(.int .i64 o), (.int .i64 p), (.int .u32 j), (.string ⟨List.toArray q⟩), (.int .i64 s), (.string ⟨List.toArray u⟩), (.string ⟨List.toArray y⟩), (.string ⟨List.toArray f⟩)]]), ([3, 6, 7], fun vs w => ∃ (a0 : Nat), VL vs [(.string ⟨List.toArray a⟩), (.string ⟨List.toArray b⟩), (.slice (some ⟨a0, 0, none⟩) (List.length ([a, b] : List (List UInt8))) (List.length ([a, b] : List (List UInt8))))] ∧ SP S w0 w [Qk g1 133 #[(.slice A3 (List.length q2) c4), (.bool q5)], Vu 9 Qn A3 c4 q2, Qk c 52 #[(.int .i64 o), (.int .i64 p), (.int .u32 j), (.string ⟨List.toArray q⟩), (.int .i64 s), (.string ⟨List.toArray u⟩), (.string ⟨List.toArray y⟩), (.string ⟨List.toArray f⟩)], Vu 9 Qn (some ⟨a0, 0, none⟩) (List.length ([a, b] : List (List UInt8))) ([a, b] : List (List UInt8))]), ([3, 6, 7, 8], fun vs w => ∃ (a3 : Nat), ∃ (a1 : Option Addr), ∃ (a2 : Nat), VL vs [(.string ⟨List.toArray a⟩), (.string ⟨List.toArray b⟩), (.slice (some ⟨a3, 0, none⟩) (List.length ([a, b] : List (List UInt8))) (List.length ([a, b] : List (List UInt8)))), (.tuple #[])] ∧ SP S w0 w [Qk c 52 #[(.int .i64 o), (.int .i64 p), (.int .u32 j), (.string ⟨List.toArray q⟩), (.int .i64 s), (.string ⟨List.toArray u⟩), (.string ⟨List.toArray y⟩), (.string ⟨List.toArray f⟩)], Vu 9 Qn (some ⟨a3, 0, none⟩) (List.length ([a, b] : List (List UInt8))) ([a, b] : List (List UInt8)), Qk g1 133 #[(.slice a1 (List.length z.1) a2), (.bool z.2)], Vu 9 Qn a1 a2 z.1])] 9 4 ⟨trivial, SP.drew b8⟩ ?_ ?_
 iterate 9 refine And.intro ?_ ?_
 exact trivial
 ·exact oV (hC (hS 0 (pt g1 0)) (h0)) (pt g1 0)
 ·exact oV (hC (hS 3 (pt c 0)) (h0)) (pt c 2)
 ·refine oL 0 ?_
  ·rintro ρ' w' hs m ⟨d9, c2⟩
   refine kM (kc (kA m 1 5) k0) fun g => ?_
   refine sL 50 5 c 2 2 (.int .u32 j) 6 c2 rfl ?_
   exact eK g
 ·refine oH 0 1 ?_
  ·rintro ρ' w' hs m ⟨e0, a9⟩
   refine kM (kc (kA m 2 6) k0) fun g => ?_
   refine cF 109 #[(.tmp 6)] #[50] 7 Tryz.call109 (E4  j w' (hL w' (SP.mod a9)) a b9) ?_
   rintro e e1 ⟨rfl, b0⟩
   refine ⟨_, rfl, ?_⟩
   have c3 := SP.call a9 b0
   clear b0
   refine ⟨_, Qg g, rfl, ?_⟩
   exact (And.intro (And.intro rfl (trivial)) (c3))
 ·exact oV (hC (hS 3 (pt c 0)) (h0)) (pt c 7)
 ·refine Owe.light K [0, 1] K (Qe ?_ (Qe ?_ Vl))
  ·rintro ρ' w' hs m ⟨e2, c5⟩
   refine kM (kc (kA m 4 8) k0) fun g => ?_
   refine sL 9 8 c 7 2 (.string ⟨List.toArray f⟩) 9 c5 rfl ?_
   exact eK g
  ·rintro ρ' w' hs m ⟨⟨e3, -⟩, c6⟩
   refine kM (kc (kA m 4 8) k0) fun g => ?_
   refine sL 9 8 c 7 2 (.string ⟨List.toArray f⟩) 9 c6 rfl ?_
   exact eK g
 ·refine oH 1 2 ?_
  ·rintro ρ' w' hs m ⟨⟨c7, -⟩, c8⟩
   refine kM (kc (kA m 5 9) k0) fun g => ?_
   refine cF 86 #[(.tmp 9)] #[9] 10 Tryz.call86 (J7  f w'  b c0) ?_
   rintro e e4 ⟨rfl, b1⟩
   refine ⟨_, rfl, ?_⟩
   have c9 := SP.call c8 b1
   clear b1
   refine ⟨_, Qg g, rfl, ?_⟩
   exact (And.intro (And.intro c7 (And.intro rfl (trivial))) (c9))
 ·refine oH 2 3 ?_
  ·rintro ρ' w' hs m ⟨⟨b2, b3, -⟩, d0⟩
   refine kN [(7, (.string ⟨List.toArray a⟩)), (10, (.string ⟨List.toArray b⟩))] ⟨(Qv (h := 3) K).symm.trans b2, (Qv (h := 6) K).symm.trans b3, trivial⟩ fun g => ?_
   refine Vy (e := Qn) (T := 79) (E := 9) (len := 2) (parts := #[(0, (.tmp 7)), (1, (.tmp 10))]) (cs := #[(.string ⟨List.toArray a⟩), (.string ⟨List.toArray b⟩)]) ([a, b] : List (List UInt8)) (d := (some 11)) (k := 7) K rfl (fun _ => K) d0 rfl rfl rfl rfl ?_
   intro d1 e5 d2
   refine ⟨_, Qg g, trivial, ?_⟩
   exact (Exists.intro d1 (And.intro (And.intro b2 (And.intro b3 (And.intro rfl (trivial)))) (d2)))
 ·refine oH 3 4 ?_
  ·rintro ρ' w' hs m ⟨a0, ⟨d3, d4, b4, -⟩, a4⟩
   refine kN [(4, (pt g1 0)), (11, (.slice (some ⟨a0, 0, none⟩) (List.length ([a, b] : List (List UInt8))) (List.length ([a, b] : List (List UInt8)))))] ⟨m 0 4 K, (Qv (h := 7) K).symm.trans b4, trivial⟩ fun g => ?_
   refine cF 84 #[(.tmp 4), (.tmp 11)] #[132, 79] 12 Tryz.call84 (V1 g1 A3 c4 (some ⟨a0, 0, none⟩) (List.length ([a, b] : List (List UInt8))) q2 q5 ([a, b] : List (List UInt8)) w' (Za a4 [0, 1] rfl rfl) (fun w hm => (Q9 (SP.still a4 (l := [0, 1]) (i := 3) rfl rfl rfl hm))) z c1) ?_
   rintro e d5 ⟨a5, a6, rfl, b5⟩
   refine ⟨_, rfl, ?_⟩
   have d6 : SP S w0 d5 [Qk c 52 #[(.int .i64 o), (.int .i64 p), (.int .u32 j), (.string ⟨List.toArray q⟩), (.int .i64 s), (.string ⟨List.toArray u⟩), (.string ⟨List.toArray y⟩), (.string ⟨List.toArray f⟩)], Vu 9 Qn (some ⟨a0, 0, none⟩) (List.length ([a, b] : List (List UInt8))) ([a, b] : List (List UInt8)), Qk g1 133 #[(.slice a5 (List.length z.1) a6), (.bool z.2)], Vu 9 Qn a5 a6 z.1] := Qr a4 [0, 1] [2, 3] rfl rfl b5 rfl
   clear b5
   refine ⟨_, Qg g, rfl, ?_⟩
   exact (Exists.intro a0 (Exists.intro a5 (Exists.intro a6 (And.intro (And.intro d3 (And.intro d4 (And.intro b4 (And.intro rfl (trivial))))) (d6)))))
 ·rintro ρ' w' hs hf ⟨a3, a1, a2, ⟨e6, e7, e8, e9, -⟩, b6⟩
  refine V3 [] trivial ?_
  obtain ⟨f0, d7⟩ : ∃ x, w' = x := ⟨_, rfl⟩
  rw [d7] at b6 ⊢
  refine ⟨(.tuple #[]), K, ?_⟩
  obtain rfl := Qb H
  exact ⟨a1, a2, rfl, SP.sel b6 [2,3] rfl rfl⟩
def N0 (q2 : (List (List UInt8))) (q5 : Bool) (q7 : Int) (q8 : Int) (q9 : Int) (c : (List UInt8)) (d : Int) (e : (List UInt8)) (f : (List UInt8)) (g : (List UInt8)) : Option ((List (List UInt8)) × Bool × Int × Int × Int × (List UInt8) × Int × (List UInt8) × (List UInt8) × (List UInt8)) :=
  ((Jm q2 q5).bind fun a => ((Zj a.2.1 a.2.2).bind fun b => (some (b.2.1, b.2.2, q7, q8, a.1, c, d, e, f, b.1))))
set_option maxHeartbeats 40000000 in
theorem Cw {S : List Nat} (g1 : Nat) (A3 : Option Addr) (c4 : Nat) (g6 : Nat) (q2 : (List (List UInt8))) (q5 : Bool) (q7 : Int) (q8 : Int) (q9 : Int) (b : (List UInt8)) (c : Int) (f : (List UInt8)) (h : (List UInt8)) (m : (List UInt8)) (w0 : World) (hL : ∀ w, Mod S w0 w → Gu w) (hO : SP S w0 w0 [Qk g1 112 #[(.slice A3 (List.length q2) c4), (.bool q5)], rdE Qn A3 c4 q2, Qk g6 52 #[(.int .i64 q7), (.int .i64 q8), (.int .u32 q9), (.string ⟨List.toArray b⟩), (.int .i64 c), (.string ⟨List.toArray f⟩), (.string ⟨List.toArray h⟩), (.string ⟨List.toArray m⟩)]])  (r : ((List (List UInt8)) × Bool × Int × Int × Int × (List UInt8) × Int × (List UInt8) × (List UInt8) × (List UInt8))) (H : N0 q2 q5 q7 q8 q9 b c f h m = some r) :
  Calls Tryz.prog 113 #[(pt g1 0), (pt g6 0)] w0 (fun e w' => ∃ (z : Option Addr) (a0 : Nat), e = .returned (.tuple #[]) ∧ SP S w0 w' [Qk g1 112 #[(.slice z (List.length r.1) a0), (.bool r.2.1)], rdE Qn z a0 r.1, Qk g6 52 #[(.int .i64 r.2.2.1), (.int .i64 r.2.2.2.1), (.int .u32 r.2.2.2.2.1), (.string ⟨List.toArray r.2.2.2.2.2.1⟩), (.int .i64 r.2.2.2.2.2.2.1), (.string ⟨List.toArray r.2.2.2.2.2.2.2.1⟩), (.string ⟨List.toArray r.2.2.2.2.2.2.2.2.1⟩), (.string ⟨List.toArray r.2.2.2.2.2.2.2.2.2⟩)]]) := by
 unfold N0 at H
 refine Ql (n := 14) Tryz.func113 K K K ?_
 have o := hO
 refine aR ?_
 refine iR 3 3 [(4, (pt g6 0)), (5, (pt g6 0)), (6, (pt g1 0))] ?_
 obtain ⟨a, a5, H⟩ := Qa H
 refine iS 4 ?_
 refine cF 114 #[(.tmp 6)] #[109] 7 Tryz.call114 (D6 g1 A3 c4 q2 q5 w0 (fun w hm => hL w (SP.through o (l := [0, 1]) rfl hm)) (Za o [0, 1] rfl rfl) a a5) ?_
 rintro e a1 ⟨p, q, rfl, a2⟩
 refine ⟨_, rfl, ?_⟩
 have a3 : SP S w0 a1 [Qk g6 52 #[(.int .i64 q7), (.int .i64 q8), (.int .u32 q9), (.string ⟨List.toArray b⟩), (.int .i64 c), (.string ⟨List.toArray f⟩), (.string ⟨List.toArray h⟩), (.string ⟨List.toArray m⟩)], Qk g1 112 #[(.slice p (List.length a.2.1) q), (.bool a.2.2)], rdE Qn p q a.2.1] := Qr o [0, 1] [2] rfl rfl a2 rfl
 clear a2
 refine iR 1 5 [(8, (pt g1 0))] ?_
 obtain ⟨j, a6, H⟩ := Qa H
 refine iS 6 ?_
 refine cF 115 #[(.tmp 8)] #[109] 9 Tryz.call115 (Yq g1 p q a.2.1 a.2.2 a1 (Za a3 [1, 2] rfl rfl) j a6) ?_
 rintro e a7 ⟨s, u, rfl, a4⟩
 refine ⟨_, rfl, ?_⟩
 have a8 : SP S w0 a7 [Qk g6 52 #[(.int .i64 q7), (.int .i64 q8), (.int .u32 q9), (.string ⟨List.toArray b⟩), (.int .i64 c), (.string ⟨List.toArray f⟩), (.string ⟨List.toArray h⟩), (.string ⟨List.toArray m⟩)], Qk g1 112 #[(.slice s (List.length j.2.1) u), (.bool j.2.2)], rdE Qn s u j.2.1] := Qr a3 [1, 2] [0] rfl rfl a4 rfl
 clear a4
 refine iR 2 8 [(10, (pt g6 0)), (11, (pt g6 2))] ?_
 refine iS 9 ?_
 refine Qh.store (t := 50) (x := (.tmp 11)) (y := (.tmp 7)) (g := g6) (off := 2) (i := 0) (v := (.int .u32 a.1)) (cs' := #[(.int .i64 q7), (.int .i64 q8), (.int .u32 a.1), (.string ⟨List.toArray b⟩), (.int .i64 c), (.string ⟨List.toArray f⟩), (.string ⟨List.toArray h⟩), (.string ⟨List.toArray m⟩)]) (d := none) (k := 8) K rfl K K a8 rfl K ?_
 intro b1 a9
 refine iR 2 11 [(12, (pt g6 0)), (13, (pt g6 7))] ?_
 refine iS 12 ?_
 refine Qh.store (t := 9) (x := (.tmp 13)) (y := (.tmp 9)) (g := g6) (off := 7) (i := 0) (v := (.string ⟨List.toArray j.1⟩)) (cs' := #[(.int .i64 q7), (.int .i64 q8), (.int .u32 a.1), (.string ⟨List.toArray b⟩), (.int .i64 c), (.string ⟨List.toArray f⟩), (.string ⟨List.toArray h⟩), (.string ⟨List.toArray j.1⟩)]) (d := none) (k := 11) K rfl K K a9 rfl K ?_
 intro b2 b0
 refine iF ?_
 refine ⟨(.tuple #[]), K, ?_⟩
 obtain rfl := Qb H
 exact ⟨s, u, rfl, SP.sel b0 [1,2,0] rfl rfl⟩
def N1 (q2 : (List (List UInt8))) (q5 : Bool) (h : Int) (c : Int) (i : Int) (d : (List UInt8)) (j : Int) (k : (List UInt8)) (l : (List UInt8)) (e : (List UInt8)) : Option ((List (List UInt8)) × Bool) :=
  ((Vc q2 q5 c).bind fun a => ((Y3 d).bind fun f => ((Y3 e).bind fun g => ((Q8 a.1 a.2 ([f, g] : List (List UInt8))).bind fun b => (some (b.1, b.2))))))
set_option maxHeartbeats 40000000 in
theorem Cx {S : List Nat} (g1 : Nat) (A3 : Option Addr) (c4 : Nat) (q2 : (List (List UInt8))) (q5 : Bool) (u : Int) (o : Int) (y : Int) (j : (List UInt8)) (z : Int) (a0 : (List UInt8)) (a1 : (List UInt8)) (g : (List UInt8)) (w0 : World) (hL : ∀ w, Mod S w0 w → Gu w) (hO : SP S w0 w0 [Qk g1 133 #[(.slice A3 (List.length q2) c4), (.bool q5)], Vu 9 Qn A3 c4 q2])  (r : ((List (List UInt8)) × Bool)) (H : N1 q2 q5 u o y j z a0 a1 g = some r) :
  Calls Tryz.prog 116 #[(pt g1 0), (.agg #[(.int .i64 u), (.int .i64 o), (.int .u32 y), (.string ⟨List.toArray j⟩), (.int .i64 z), (.string ⟨List.toArray a0⟩), (.string ⟨List.toArray a1⟩), (.string ⟨List.toArray g⟩)])] w0 (fun e w' => ∃ (b1 : Option Addr) (b2 : Nat), e = .returned (.tuple #[]) ∧ SP S w0 w' [Qk g1 133 #[(.slice b1 (List.length r.1) b2), (.bool r.2)], Vu 9 Qn b1 b2 r.1]) := by
 unfold N1 at H
 refine Ql (n := 17) Tryz.func116 K K K ?_
 have c1 := hO
 refine aQ ?_
 refine aR ?_
 refine iS 1 ?_
 refine Yi (t := 52) (x := (.tmp 1)) (v := (.agg #[(.int .i64 u), (.int .i64 o), (.int .u32 y), (.string ⟨List.toArray j⟩), (.int .i64 z), (.string ⟨List.toArray a0⟩), (.string ⟨List.toArray a1⟩), (.string ⟨List.toArray g⟩)])) (d := (some 3)) (k := 0) K rfl K c1 ?_
 intro c c2 a4
 refine iF ?_
 refine aQ ?_
 refine aR ?_
 refine iR 2 2 [(4, (pt g1 0)), (5, (pt c 1))] ?_
 refine iS 3 ?_
 refine sL 3 5 c 1 2 (.int .i64 o) 6 a4 rfl ?_
 obtain ⟨f, c3, H⟩ := Qa H
 refine iS 4 ?_
 refine cF 85 #[(.tmp 4), (.tmp 6)] #[132, 2] 7 Tryz.call85 (Vg g1 A3 c4 q2 q5 o c2 (fun w hm => hL w (SP.through a4 (l := [0, 1]) rfl hm)) (Za a4 [0, 1] rfl rfl) f c3) ?_
 rintro e c5 ⟨q, s, rfl, b3⟩
 refine ⟨_, rfl, ?_⟩
 have c6 : SP S w0 c5 [Qk c 52 #[(.int .i64 u), (.int .i64 o), (.int .u32 y), (.string ⟨List.toArray j⟩), (.int .i64 z), (.string ⟨List.toArray a0⟩), (.string ⟨List.toArray a1⟩), (.string ⟨List.toArray g⟩)], Qk g1 133 #[(.slice q (List.length f.1) s), (.bool f.2)], Vu 9 Qn q s f.1] := Qr a4 [0, 1] [2] rfl rfl b3 rfl
 clear b3
 refine iF ?_
 obtain ⟨a, c7, H⟩ := Qa H
 obtain ⟨b, c8, H⟩ := Qa H
 obtain ⟨a2, c9, H⟩ := Qa H
 refine aG [GEq (pt g1 0), GEq (pt c 3), GEq (.string ⟨List.toArray j⟩), GEq (.string ⟨List.toArray a⟩), GEq (pt c 7), GEq (.string ⟨List.toArray g⟩), GEq (.string ⟨List.toArray b⟩), Mb, GEq (.tuple #[])] [3, 6, 7, 8] [([], fun vs w => VL vs [] ∧ SP S w0 w [Qk c 52 #[(.int .i64 u), (.int .i64 o), (.int .u32 y), (.string ⟨List.toArray j⟩), (.int .i64 z), (.string ⟨List.toArray a0⟩), (.string ⟨List.toArray a1⟩), (.string ⟨List.toArray g⟩)], Qk g1 133 #[(.slice q (List.length f.1) s), (.bool f.2)], Vu 9 Qn q s f.1]), ([3], fun vs w => VL vs [(.string ⟨List.toArray a⟩)] ∧ SP S w0 w [Qk c 52 #[(.int .i64 u), (.int .i64 o), (.int .u32 y), (.string ⟨List.toArray j⟩), (.int .i64 z), (.string ⟨List.toArray a0⟩), (.string ⟨List.toArray a1⟩), (.string ⟨List.toArray g⟩)], Qk g1 133 #[(.slice q (List.length f.1) s), (.bool f.2)], Vu 9 Qn q s f.1]), ([3, 6], fun vs w => VL vs [(.string ⟨List.toArray a⟩), (.string ⟨List.toArray b⟩)] ∧ SP S w0 w [Qk c 52 #[(.int .i64 u), (.int .i64 o), (.int .u32 y), (.string ⟨List.toArray j⟩), (.int .i64 z), (.string ⟨List.toArray a0⟩), (.string ⟨List.toArray a1⟩), (.string ⟨List.toArray g⟩)], Qk g1 133 #[(.slice q (List.length f.1) s), (.bool f.2)], Vu 9 Qn q s f.1]), ([3, 6, 7], fun vs w => ∃ (a3 : Nat), VL vs [(.string ⟨List.toArray a⟩), (.string ⟨List.toArray b⟩), (.slice (some ⟨a3, 0, none⟩) (List.length ([a, b] : List (List UInt8))) (List.length ([a, b] : List (List UInt8))))] ∧ SP S w0 w [Qk c 52 #[(.int .i64 u), (.int .i64 o), (.int .u32 y), (.string ⟨List.toArray j⟩), (.int .i64 z), (.string ⟨List.toArray a0⟩), (.string ⟨List.toArray a1⟩), (.string ⟨List.toArray g⟩)], Qk g1 133 #[(.slice q (List.length f.1) s), (.bool f.2)], Vu 9 Qn q s f.1, Vu 9 Qn (some ⟨a3, 0, none⟩) (List.length ([a, b] : List (List UInt8))) ([a, b] : List (List UInt8))]), ([3, 6, 7, 8], fun vs w => ∃ (a7 : Nat), ∃ (a5 : Option Addr), ∃ (a6 : Nat), VL vs [(.string ⟨List.toArray a⟩), (.string ⟨List.toArray b⟩), (.slice (some ⟨a7, 0, none⟩) (List.length ([a, b] : List (List UInt8))) (List.length ([a, b] : List (List UInt8)))), (.tuple #[])] ∧ SP S w0 w [Qk c 52 #[(.int .i64 u), (.int .i64 o), (.int .u32 y), (.string ⟨List.toArray j⟩), (.int .i64 z), (.string ⟨List.toArray a0⟩), (.string ⟨List.toArray a1⟩), (.string ⟨List.toArray g⟩)], Vu 9 Qn (some ⟨a7, 0, none⟩) (List.length ([a, b] : List (List UInt8))) ([a, b] : List (List UInt8)), Qk g1 133 #[(.slice a5 (List.length a2.1) a6), (.bool a2.2)], Vu 9 Qn a5 a6 a2.1])] 9 4 ⟨trivial, SP.drew c6⟩ ?_ ?_
 iterate 9 refine And.intro ?_ ?_
 exact trivial
 ·exact oV (hC (hS 0 (pt g1 0)) (h0)) (pt g1 0)
 ·exact oV (hC (hS 3 (pt c 0)) (h0)) (pt c 3)
 ·refine oL 0 ?_
  ·rintro ρ' w' hs p ⟨e6, d0⟩
   refine kM (kc (kA p 1 9) k0) fun m => ?_
   refine sL 9 9 c 3 0 (.string ⟨List.toArray j⟩) 10 d0 rfl ?_
   exact eK m
 ·refine oH 0 1 ?_
  ·rintro ρ' w' hs p ⟨e7, d1⟩
   refine kM (kc (kA p 2 10) k0) fun m => ?_
   refine cF 86 #[(.tmp 10)] #[9] 11 Tryz.call86 (J7  j w'  a c7) ?_
   rintro e e8 ⟨rfl, b4⟩
   refine ⟨_, rfl, ?_⟩
   have d2 := SP.call d1 b4
   clear b4
   refine ⟨_, Qg m, rfl, ?_⟩
   exact (And.intro (And.intro rfl (trivial)) (d2))
 ·exact oV (hC (hS 3 (pt c 0)) (h0)) (pt c 7)
 ·refine Owe.light K [0, 1] K (Qe ?_ (Qe ?_ Vl))
  ·rintro ρ' w' hs p ⟨e9, d3⟩
   refine kM (kc (kA p 4 12) k0) fun m => ?_
   refine sL 9 12 c 7 0 (.string ⟨List.toArray g⟩) 13 d3 rfl ?_
   exact eK m
  ·rintro ρ' w' hs p ⟨⟨f0, -⟩, d4⟩
   refine kM (kc (kA p 4 12) k0) fun m => ?_
   refine sL 9 12 c 7 0 (.string ⟨List.toArray g⟩) 13 d4 rfl ?_
   exact eK m
 ·refine oH 1 2 ?_
  ·rintro ρ' w' hs p ⟨⟨d5, -⟩, d6⟩
   refine kM (kc (kA p 5 13) k0) fun m => ?_
   refine cF 86 #[(.tmp 13)] #[9] 14 Tryz.call86 (J7  g w'  b c8) ?_
   rintro e f1 ⟨rfl, b5⟩
   refine ⟨_, rfl, ?_⟩
   have d7 := SP.call d6 b5
   clear b5
   refine ⟨_, Qg m, rfl, ?_⟩
   exact (And.intro (And.intro d5 (And.intro rfl (trivial))) (d7))
 ·refine oH 2 3 ?_
  ·rintro ρ' w' hs p ⟨⟨b6, b7, -⟩, d8⟩
   refine kN [(11, (.string ⟨List.toArray a⟩)), (14, (.string ⟨List.toArray b⟩))] ⟨(Qv (h := 3) K).symm.trans b6, (Qv (h := 6) K).symm.trans b7, trivial⟩ fun m => ?_
   refine Vy (e := Qn) (T := 79) (E := 9) (len := 2) (parts := #[(0, (.tmp 11)), (1, (.tmp 14))]) (cs := #[(.string ⟨List.toArray a⟩), (.string ⟨List.toArray b⟩)]) ([a, b] : List (List UInt8)) (d := (some 15)) (k := 7) K rfl (fun _ => K) d8 rfl rfl rfl rfl ?_
   intro d9 f2 e0
   refine ⟨_, Qg m, trivial, ?_⟩
   exact (Exists.intro d9 (And.intro (And.intro b6 (And.intro b7 (And.intro rfl (trivial)))) (e0)))
 ·refine oH 3 4 ?_
  ·rintro ρ' w' hs p ⟨a3, ⟨e1, e2, b8, -⟩, a8⟩
   refine kN [(8, (pt g1 0)), (15, (.slice (some ⟨a3, 0, none⟩) (List.length ([a, b] : List (List UInt8))) (List.length ([a, b] : List (List UInt8)))))] ⟨p 0 8 K, (Qv (h := 7) K).symm.trans b8, trivial⟩ fun m => ?_
   refine cF 84 #[(.tmp 8), (.tmp 15)] #[132, 79] 16 Tryz.call84 (V1 g1 q s (some ⟨a3, 0, none⟩) (List.length ([a, b] : List (List UInt8))) f.1 f.2 ([a, b] : List (List UInt8)) w' (Za a8 [1, 2] rfl rfl) (fun w hm => (Q9 (SP.still a8 (l := [1, 2]) (i := 3) rfl rfl rfl hm))) a2 c9) ?_
   rintro e e3 ⟨a9, b0, rfl, b9⟩
   refine ⟨_, rfl, ?_⟩
   have e4 : SP S w0 e3 [Qk c 52 #[(.int .i64 u), (.int .i64 o), (.int .u32 y), (.string ⟨List.toArray j⟩), (.int .i64 z), (.string ⟨List.toArray a0⟩), (.string ⟨List.toArray a1⟩), (.string ⟨List.toArray g⟩)], Vu 9 Qn (some ⟨a3, 0, none⟩) (List.length ([a, b] : List (List UInt8))) ([a, b] : List (List UInt8)), Qk g1 133 #[(.slice a9 (List.length a2.1) b0), (.bool a2.2)], Vu 9 Qn a9 b0 a2.1] := Qr a8 [1, 2] [0, 3] rfl rfl b9 rfl
   clear b9
   refine ⟨_, Qg m, rfl, ?_⟩
   exact (Exists.intro a3 (Exists.intro a9 (Exists.intro b0 (And.intro (And.intro e1 (And.intro e2 (And.intro b8 (And.intro rfl (trivial))))) (e4)))))
 ·rintro ρ' w' hs hf ⟨a7, a5, a6, ⟨f3, f4, f5, f6, -⟩, c0⟩
  refine V3 [] trivial ?_
  obtain ⟨f7, e5⟩ : ∃ x, w' = x := ⟨_, rfl⟩
  rw [e5] at c0 ⊢
  refine ⟨(.tuple #[]), K, ?_⟩
  obtain rfl := Qb H
  exact ⟨a5, a6, rfl, SP.sel c0 [2,3] rfl rfl⟩
def N2 (q2 : (List (List UInt8))) (q5 : Bool) (q7 : Int) (q8 : Int) (q9 : Int) (g : (List UInt8)) (d : Int) (e : (List UInt8)) (f : (List UInt8)) (h : (List UInt8)) : Option ((List (List UInt8)) × Bool × Int × Int × Int × (List UInt8) × Int × (List UInt8) × (List UInt8) × (List UInt8)) :=
  ((Vd q2 q5).bind fun a => ((Zj a.2.1 a.2.2).bind fun b => ((Zj b.2.1 b.2.2).bind fun c => (some (c.2.1, c.2.2, q7, a.1, q9, b.1, d, e, f, c.1)))))
set_option maxHeartbeats 40000000 in
theorem Cy {S : List Nat} (g1 : Nat) (A3 : Option Addr) (c4 : Nat) (g6 : Nat) (q2 : (List (List UInt8))) (q5 : Bool) (q7 : Int) (q8 : Int) (q9 : Int) (m : (List UInt8)) (c : Int) (f : (List UInt8)) (h : (List UInt8)) (j : (List UInt8)) (w0 : World) (hL : ∀ w, Mod S w0 w → Gu w) (hO : SP S w0 w0 [Qk g1 112 #[(.slice A3 (List.length q2) c4), (.bool q5)], rdE Qn A3 c4 q2, Qk g6 52 #[(.int .i64 q7), (.int .i64 q8), (.int .u32 q9), (.string ⟨List.toArray m⟩), (.int .i64 c), (.string ⟨List.toArray f⟩), (.string ⟨List.toArray h⟩), (.string ⟨List.toArray j⟩)]])  (r : ((List (List UInt8)) × Bool × Int × Int × Int × (List UInt8) × Int × (List UInt8) × (List UInt8) × (List UInt8))) (H : N2 q2 q5 q7 q8 q9 m c f h j = some r) :
  Calls Tryz.prog 117 #[(pt g1 0), (pt g6 0)] w0 (fun e w' => ∃ (a2 : Option Addr) (a3 : Nat), e = .returned (.tuple #[]) ∧ SP S w0 w' [Qk g1 112 #[(.slice a2 (List.length r.1) a3), (.bool r.2.1)], rdE Qn a2 a3 r.1, Qk g6 52 #[(.int .i64 r.2.2.1), (.int .i64 r.2.2.2.1), (.int .u32 r.2.2.2.2.1), (.string ⟨List.toArray r.2.2.2.2.2.1⟩), (.int .i64 r.2.2.2.2.2.2.1), (.string ⟨List.toArray r.2.2.2.2.2.2.2.1⟩), (.string ⟨List.toArray r.2.2.2.2.2.2.2.2.1⟩), (.string ⟨List.toArray r.2.2.2.2.2.2.2.2.2⟩)]]) := by
 unfold N2 at H
 refine Ql (n := 19) Tryz.func117 K K K ?_
 have p := hO
 refine aR ?_
 refine iR 4 4 [(4, (pt g6 0)), (5, (pt g6 0)), (6, (pt g6 0)), (7, (pt g1 0))] ?_
 obtain ⟨a, b1, H⟩ := Qa H
 refine iS 5 ?_
 refine cF 76 #[(.tmp 7)] #[109] 8 Tryz.call76 (Vh g1 A3 c4 q2 q5 w0 (fun w hm => hL w (SP.through p (l := [0, 1]) rfl hm)) (Za p [0, 1] rfl rfl) a b1) ?_
 rintro e a4 ⟨q, s, rfl, a5⟩
 refine ⟨_, rfl, ?_⟩
 have a6 : SP S w0 a4 [Qk g6 52 #[(.int .i64 q7), (.int .i64 q8), (.int .u32 q9), (.string ⟨List.toArray m⟩), (.int .i64 c), (.string ⟨List.toArray f⟩), (.string ⟨List.toArray h⟩), (.string ⟨List.toArray j⟩)], Qk g1 112 #[(.slice q (List.length a.2.1) s), (.bool a.2.2)], rdE Qn q s a.2.1] := Qr p [0, 1] [2] rfl rfl a5 rfl
 clear a5
 refine iR 1 6 [(9, (pt g1 0))] ?_
 obtain ⟨b, b2, H⟩ := Qa H
 refine iS 7 ?_
 refine cF 115 #[(.tmp 9)] #[109] 10 Tryz.call115 (Yq g1 q s a.2.1 a.2.2 a4 (Za a6 [1, 2] rfl rfl) b b2) ?_
 rintro e a7 ⟨u, z, rfl, a8⟩
 refine ⟨_, rfl, ?_⟩
 have a9 : SP S w0 a7 [Qk g6 52 #[(.int .i64 q7), (.int .i64 q8), (.int .u32 q9), (.string ⟨List.toArray m⟩), (.int .i64 c), (.string ⟨List.toArray f⟩), (.string ⟨List.toArray h⟩), (.string ⟨List.toArray j⟩)], Qk g1 112 #[(.slice u (List.length b.2.1) z), (.bool b.2.2)], rdE Qn u z b.2.1] := Qr a6 [1, 2] [0] rfl rfl a8 rfl
 clear a8
 refine iR 1 8 [(11, (pt g1 0))] ?_
 obtain ⟨o, b3, H⟩ := Qa H
 refine iS 9 ?_
 refine cF 115 #[(.tmp 11)] #[109] 12 Tryz.call115 (Yq g1 u z b.2.1 b.2.2 a7 (Za a9 [1, 2] rfl rfl) o b3) ?_
 rintro e b4 ⟨a0, a1, rfl, b0⟩
 refine ⟨_, rfl, ?_⟩
 have b5 : SP S w0 b4 [Qk g6 52 #[(.int .i64 q7), (.int .i64 q8), (.int .u32 q9), (.string ⟨List.toArray m⟩), (.int .i64 c), (.string ⟨List.toArray f⟩), (.string ⟨List.toArray h⟩), (.string ⟨List.toArray j⟩)], Qk g1 112 #[(.slice a0 (List.length o.2.1) a1), (.bool o.2.2)], rdE Qn a0 a1 o.2.1] := Qr a9 [1, 2] [0] rfl rfl b0 rfl
 clear b0
 refine iR 2 11 [(13, (pt g6 0)), (14, (pt g6 1))] ?_
 refine iS 12 ?_
 refine Qh.store (t := 3) (x := (.tmp 14)) (y := (.tmp 8)) (g := g6) (off := 1) (i := 0) (v := (.int .i64 a.1)) (cs' := #[(.int .i64 q7), (.int .i64 a.1), (.int .u32 q9), (.string ⟨List.toArray m⟩), (.int .i64 c), (.string ⟨List.toArray f⟩), (.string ⟨List.toArray h⟩), (.string ⟨List.toArray j⟩)]) (d := none) (k := 11) K rfl K K b5 rfl K ?_
 intro b9 b6
 refine iR 2 14 [(15, (pt g6 0)), (16, (pt g6 3))] ?_
 refine iS 15 ?_
 refine Qh.store (t := 9) (x := (.tmp 16)) (y := (.tmp 10)) (g := g6) (off := 3) (i := 0) (v := (.string ⟨List.toArray b.1⟩)) (cs' := #[(.int .i64 q7), (.int .i64 a.1), (.int .u32 q9), (.string ⟨List.toArray b.1⟩), (.int .i64 c), (.string ⟨List.toArray f⟩), (.string ⟨List.toArray h⟩), (.string ⟨List.toArray j⟩)]) (d := none) (k := 14) K rfl K K b6 rfl K ?_
 intro c0 b7
 refine iR 2 17 [(17, (pt g6 0)), (18, (pt g6 7))] ?_
 refine iS 18 ?_
 refine Qh.store (t := 9) (x := (.tmp 18)) (y := (.tmp 12)) (g := g6) (off := 7) (i := 0) (v := (.string ⟨List.toArray o.1⟩)) (cs' := #[(.int .i64 q7), (.int .i64 a.1), (.int .u32 q9), (.string ⟨List.toArray b.1⟩), (.int .i64 c), (.string ⟨List.toArray f⟩), (.string ⟨List.toArray h⟩), (.string ⟨List.toArray o.1⟩)]) (d := none) (k := 17) K rfl K K b7 rfl K ?_
 intro c1 b8
 refine iF ?_
 refine ⟨(.tuple #[]), K, ?_⟩
 obtain rfl := Qb H
 exact ⟨a0, a1, rfl, SP.sel b8 [1,2,0] rfl rfl⟩
def N3 (q2 : (List (List UInt8))) (q5 : Bool) (e : Int) (c : Int) (f : Int) (g : (List UInt8)) (d : Int) (h : (List UInt8)) (i : (List UInt8)) (j : (List UInt8)) : Option ((List (List UInt8)) × Bool) :=
  ((Vc q2 q5 c).bind fun a => ((Vc a.1 a.2 d).bind fun b => (some (b.1, b.2))))
set_option maxHeartbeats 40000000 in
theorem Cz {S : List Nat} (g1 : Nat) (A3 : Option Addr) (c4 : Nat) (q2 : (List (List UInt8))) (q5 : Bool) (g : Int) (a : Int) (h : Int) (i : (List UInt8)) (b : Int) (j : (List UInt8)) (m : (List UInt8)) (o : (List UInt8)) (w0 : World) (hL : ∀ w, Mod S w0 w → Gu w) (hO : SP S w0 w0 [Qk g1 133 #[(.slice A3 (List.length q2) c4), (.bool q5)], Vu 9 Qn A3 c4 q2])  (r : ((List (List UInt8)) × Bool)) (H : N3 q2 q5 g a h i b j m o = some r) :
  Calls Tryz.prog 118 #[(pt g1 0), (.agg #[(.int .i64 g), (.int .i64 a), (.int .u32 h), (.string ⟨List.toArray i⟩), (.int .i64 b), (.string ⟨List.toArray j⟩), (.string ⟨List.toArray m⟩), (.string ⟨List.toArray o⟩)])] w0 (fun e w' => ∃ (a1 : Option Addr) (a2 : Nat), e = .returned (.tuple #[]) ∧ SP S w0 w' [Qk g1 133 #[(.slice a1 (List.length r.1) a2), (.bool r.2)], Vu 9 Qn a1 a2 r.1]) := by
 unfold N3 at H
 refine Ql (n := 12) Tryz.func118 K K K ?_
 have a6 := hO
 refine aQ ?_
 refine aR ?_
 refine iS 1 ?_
 refine Yi (t := 52) (x := (.tmp 1)) (v := (.agg #[(.int .i64 g), (.int .i64 a), (.int .u32 h), (.string ⟨List.toArray i⟩), (.int .i64 b), (.string ⟨List.toArray j⟩), (.string ⟨List.toArray m⟩), (.string ⟨List.toArray o⟩)])) (d := (some 3)) (k := 0) K rfl K a6 ?_
 intro c a7 p
 refine iF ?_
 refine aQ ?_
 refine aR ?_
 refine iR 2 2 [(4, (pt g1 0)), (5, (pt c 1))] ?_
 refine iS 3 ?_
 refine sL 3 5 c 1 2 (.int .i64 a) 6 p rfl ?_
 obtain ⟨f, a8, H⟩ := Qa H
 refine iS 4 ?_
 refine cF 85 #[(.tmp 4), (.tmp 6)] #[132, 2] 7 Tryz.call85 (Vg g1 A3 c4 q2 q5 a a7 (fun w hm => hL w (SP.through p (l := [0, 1]) rfl hm)) (Za p [0, 1] rfl rfl) f a8) ?_
 rintro e a3 ⟨u, y, rfl, a4⟩
 refine ⟨_, rfl, ?_⟩
 have q : SP S w0 a3 [Qk c 52 #[(.int .i64 g), (.int .i64 a), (.int .u32 h), (.string ⟨List.toArray i⟩), (.int .i64 b), (.string ⟨List.toArray j⟩), (.string ⟨List.toArray m⟩), (.string ⟨List.toArray o⟩)], Qk g1 133 #[(.slice u (List.length f.1) y), (.bool f.2)], Vu 9 Qn u y f.1] := Qr p [0, 1] [2] rfl rfl a4 rfl
 clear a4
 refine iF ?_
 refine aR ?_
 refine iR 2 2 [(8, (pt g1 0)), (9, (pt c 4))] ?_
 refine iS 3 ?_
 refine sL 2 9 c 4 0 (.int .i64 b) 10 q rfl ?_
 obtain ⟨s, a9, H⟩ := Qa H
 refine iS 4 ?_
 refine cF 85 #[(.tmp 8), (.tmp 10)] #[132, 2] 11 Tryz.call85 (Vg g1 u y f.1 f.2 b a3 (fun w hm => hL w (SP.through q (l := [1, 2]) rfl hm)) (Za q [1, 2] rfl rfl) s a9) ?_
 rintro e b0 ⟨z, a0, rfl, a5⟩
 refine ⟨_, rfl, ?_⟩
 have b1 : SP S w0 b0 [Qk c 52 #[(.int .i64 g), (.int .i64 a), (.int .u32 h), (.string ⟨List.toArray i⟩), (.int .i64 b), (.string ⟨List.toArray j⟩), (.string ⟨List.toArray m⟩), (.string ⟨List.toArray o⟩)], Qk g1 133 #[(.slice z (List.length s.1) a0), (.bool s.2)], Vu 9 Qn z a0 s.1] := Qr q [1, 2] [0] rfl rfl a5 rfl
 clear a5
 refine iF ?_
 refine ⟨(.tuple #[]), K, ?_⟩
 obtain rfl := Qb H
 exact ⟨z, a0, rfl, SP.sel b1 [1,2] rfl rfl⟩
def N4 (q2 : (List (List UInt8))) (q5 : Bool) (q7 : Int) (q8 : Int) (q9 : Int) (c : (List UInt8)) (g : Int) (d : (List UInt8)) (e : (List UInt8)) (f : (List UInt8)) : Option ((List (List UInt8)) × Bool × Int × Int × Int × (List UInt8) × Int × (List UInt8) × (List UInt8) × (List UInt8)) :=
  ((Vd q2 q5).bind fun a => ((Vd a.2.1 a.2.2).bind fun b => (some (b.2.1, b.2.2, q7, a.1, q9, c, b.1, d, e, f))))
set_option maxHeartbeats 40000000 in
theorem C0 {S : List Nat} (g1 : Nat) (A3 : Option Addr) (c4 : Nat) (g6 : Nat) (q2 : (List (List UInt8))) (q5 : Bool) (q7 : Int) (q8 : Int) (q9 : Int) (b : (List UInt8)) (m : Int) (c : (List UInt8)) (f : (List UInt8)) (h : (List UInt8)) (w0 : World) (hL : ∀ w, Mod S w0 w → Gu w) (hO : SP S w0 w0 [Qk g1 112 #[(.slice A3 (List.length q2) c4), (.bool q5)], rdE Qn A3 c4 q2, Qk g6 52 #[(.int .i64 q7), (.int .i64 q8), (.int .u32 q9), (.string ⟨List.toArray b⟩), (.int .i64 m), (.string ⟨List.toArray c⟩), (.string ⟨List.toArray f⟩), (.string ⟨List.toArray h⟩)]])  (r : ((List (List UInt8)) × Bool × Int × Int × Int × (List UInt8) × Int × (List UInt8) × (List UInt8) × (List UInt8))) (H : N4 q2 q5 q7 q8 q9 b m c f h = some r) :
  Calls Tryz.prog 119 #[(pt g1 0), (pt g6 0)] w0 (fun e w' => ∃ (a0 : Option Addr) (a1 : Nat), e = .returned (.tuple #[]) ∧ SP S w0 w' [Qk g1 112 #[(.slice a0 (List.length r.1) a1), (.bool r.2.1)], rdE Qn a0 a1 r.1, Qk g6 52 #[(.int .i64 r.2.2.1), (.int .i64 r.2.2.2.1), (.int .u32 r.2.2.2.2.1), (.string ⟨List.toArray r.2.2.2.2.2.1⟩), (.int .i64 r.2.2.2.2.2.2.1), (.string ⟨List.toArray r.2.2.2.2.2.2.2.1⟩), (.string ⟨List.toArray r.2.2.2.2.2.2.2.2.1⟩), (.string ⟨List.toArray r.2.2.2.2.2.2.2.2.2⟩)]]) := by
 unfold N4 at H
 refine Ql (n := 14) Tryz.func119 K K K ?_
 have o := hO
 refine aR ?_
 refine iR 3 3 [(4, (pt g6 0)), (5, (pt g6 0)), (6, (pt g1 0))] ?_
 obtain ⟨a, a5, H⟩ := Qa H
 refine iS 4 ?_
 refine cF 76 #[(.tmp 6)] #[109] 7 Tryz.call76 (Vh g1 A3 c4 q2 q5 w0 (fun w hm => hL w (SP.through o (l := [0, 1]) rfl hm)) (Za o [0, 1] rfl rfl) a a5) ?_
 rintro e a2 ⟨p, q, rfl, a3⟩
 refine ⟨_, rfl, ?_⟩
 have s : SP S w0 a2 [Qk g6 52 #[(.int .i64 q7), (.int .i64 q8), (.int .u32 q9), (.string ⟨List.toArray b⟩), (.int .i64 m), (.string ⟨List.toArray c⟩), (.string ⟨List.toArray f⟩), (.string ⟨List.toArray h⟩)], Qk g1 112 #[(.slice p (List.length a.2.1) q), (.bool a.2.2)], rdE Qn p q a.2.1] := Qr o [0, 1] [2] rfl rfl a3 rfl
 clear a3
 refine iR 1 5 [(8, (pt g1 0))] ?_
 obtain ⟨j, a6, H⟩ := Qa H
 refine iS 6 ?_
 refine cF 76 #[(.tmp 8)] #[109] 9 Tryz.call76 (Vh g1 p q a.2.1 a.2.2 a2 (fun w hm => hL w (SP.through s (l := [1, 2]) rfl hm)) (Za s [1, 2] rfl rfl) j a6) ?_
 rintro e a7 ⟨u, z, rfl, a4⟩
 refine ⟨_, rfl, ?_⟩
 have a8 : SP S w0 a7 [Qk g6 52 #[(.int .i64 q7), (.int .i64 q8), (.int .u32 q9), (.string ⟨List.toArray b⟩), (.int .i64 m), (.string ⟨List.toArray c⟩), (.string ⟨List.toArray f⟩), (.string ⟨List.toArray h⟩)], Qk g1 112 #[(.slice u (List.length j.2.1) z), (.bool j.2.2)], rdE Qn u z j.2.1] := Qr s [1, 2] [0] rfl rfl a4 rfl
 clear a4
 refine iR 2 8 [(10, (pt g6 0)), (11, (pt g6 1))] ?_
 refine iS 9 ?_
 refine Qh.store (t := 3) (x := (.tmp 11)) (y := (.tmp 7)) (g := g6) (off := 1) (i := 0) (v := (.int .i64 a.1)) (cs' := #[(.int .i64 q7), (.int .i64 a.1), (.int .u32 q9), (.string ⟨List.toArray b⟩), (.int .i64 m), (.string ⟨List.toArray c⟩), (.string ⟨List.toArray f⟩), (.string ⟨List.toArray h⟩)]) (d := none) (k := 8) K rfl K K a8 rfl K ?_
 intro b1 a9
 refine iR 2 11 [(12, (pt g6 0)), (13, (pt g6 4))] ?_
 refine iS 12 ?_
 refine Qh.store (t := 2) (x := (.tmp 13)) (y := (.tmp 9)) (g := g6) (off := 4) (i := 0) (v := (.int .i64 j.1)) (cs' := #[(.int .i64 q7), (.int .i64 a.1), (.int .u32 q9), (.string ⟨List.toArray b⟩), (.int .i64 j.1), (.string ⟨List.toArray c⟩), (.string ⟨List.toArray f⟩), (.string ⟨List.toArray h⟩)]) (d := none) (k := 11) K rfl K K a9 rfl K ?_
 intro b2 b0
 refine iF ?_
 refine ⟨(.tuple #[]), K, ?_⟩
 obtain rfl := Qb H
 exact ⟨u, z, rfl, SP.sel b0 [1,2,0] rfl rfl⟩
def N5 (q2 : (List (List UInt8))) (q5 : Bool) (f : Int) (c : Int) (g : Int) (h : (List UInt8)) (i : Int) (j : (List UInt8)) (k : (List UInt8)) (d : (List UInt8)) : Option ((List (List UInt8)) × Bool) :=
  ((Vc q2 q5 c).bind fun a => ((Y3 d).bind fun e => ((Q8 a.1 a.2 ([e] : List (List UInt8))).bind fun b => (some (b.1, b.2)))))
set_option maxHeartbeats 40000000 in
theorem C1 {S : List Nat} (g1 : Nat) (A3 : Option Addr) (c4 : Nat) (q2 : (List (List UInt8))) (q5 : Bool) (h : Int) (a : Int) (j : Int) (m : (List UInt8)) (o : Int) (p : (List UInt8)) (q : (List UInt8)) (b : (List UInt8)) (w0 : World) (hL : ∀ w, Mod S w0 w → Gu w) (hO : SP S w0 w0 [Qk g1 133 #[(.slice A3 (List.length q2) c4), (.bool q5)], Vu 9 Qn A3 c4 q2])  (r : ((List (List UInt8)) × Bool)) (H : N5 q2 q5 h a j m o p q b = some r) :
  Calls Tryz.prog 120 #[(pt g1 0), (.agg #[(.int .i64 h), (.int .i64 a), (.int .u32 j), (.string ⟨List.toArray m⟩), (.int .i64 o), (.string ⟨List.toArray p⟩), (.string ⟨List.toArray q⟩), (.string ⟨List.toArray b⟩)])] w0 (fun e w' => ∃ (a3 : Option Addr) (a4 : Nat), e = .returned (.tuple #[]) ∧ SP S w0 w' [Qk g1 133 #[(.slice a3 (List.length r.1) a4), (.bool r.2)], Vu 9 Qn a3 a4 r.1]) := by
 unfold N5 at H
 refine Ql (n := 14) Tryz.func120 K K K ?_
 have b1 := hO
 refine aQ ?_
 refine aR ?_
 refine iS 1 ?_
 refine Yi (t := 52) (x := (.tmp 1)) (v := (.agg #[(.int .i64 h), (.int .i64 a), (.int .u32 j), (.string ⟨List.toArray m⟩), (.int .i64 o), (.string ⟨List.toArray p⟩), (.string ⟨List.toArray q⟩), (.string ⟨List.toArray b⟩)])) (d := (some 3)) (k := 0) K rfl K b1 ?_
 intro f b2 s
 refine iF ?_
 refine aQ ?_
 refine aR ?_
 refine iR 2 2 [(4, (pt g1 0)), (5, (pt f 1))] ?_
 refine iS 3 ?_
 refine sL 3 5 f 1 2 (.int .i64 a) 6 s rfl ?_
 obtain ⟨g, b3, H⟩ := Qa H
 refine iS 4 ?_
 refine cF 85 #[(.tmp 4), (.tmp 6)] #[132, 2] 7 Tryz.call85 (Vg g1 A3 c4 q2 q5 a b2 (fun w hm => hL w (SP.through s (l := [0, 1]) rfl hm)) (Za s [0, 1] rfl rfl) g b3) ?_
 rintro e a5 ⟨y, z, rfl, a6⟩
 refine ⟨_, rfl, ?_⟩
 have a7 : SP S w0 a5 [Qk f 52 #[(.int .i64 h), (.int .i64 a), (.int .u32 j), (.string ⟨List.toArray m⟩), (.int .i64 o), (.string ⟨List.toArray p⟩), (.string ⟨List.toArray q⟩), (.string ⟨List.toArray b⟩)], Qk g1 133 #[(.slice y (List.length g.1) z), (.bool g.2)], Vu 9 Qn y z g.1] := Qr s [0, 1] [2] rfl rfl a6 rfl
 clear a6
 refine iF ?_
 refine aR ?_
 refine iR 2 2 [(8, (pt g1 0)), (9, (pt f 7))] ?_
 refine iS 3 ?_
 refine sL 9 9 f 7 0 (.string ⟨List.toArray b⟩) 10 a7 rfl ?_
 obtain ⟨c, b4, H⟩ := Qa H
 refine iS 4 ?_
 refine cF 86 #[(.tmp 10)] #[9] 11 Tryz.call86 (J7  b a5  c b4) ?_
 rintro e c0 ⟨rfl, a8⟩
 refine ⟨_, rfl, ?_⟩
 have b5 := SP.call a7 a8
 clear a8
 refine iS 5 ?_
 refine Vy (e := Qn) (T := 79) (E := 9) (len := 1) (parts := #[(0, (.tmp 11))]) (cs := #[(.string ⟨List.toArray c⟩)]) ([c] : List (List UInt8)) (d := (some 12)) (k := 4) K rfl (fun _ => K) b5 rfl rfl rfl rfl ?_
 intro a9 b6 a0
 obtain ⟨u, b7, H⟩ := Qa H
 refine iS 6 ?_
 refine cF 84 #[(.tmp 8), (.tmp 12)] #[132, 79] 13 Tryz.call84 (V1 g1 y z (some ⟨a9, 0, none⟩) (List.length ([c] : List (List UInt8))) g.1 g.2 ([c] : List (List UInt8)) b6 (Za a0 [1, 2] rfl rfl) (fun w hm => (Q9 (SP.still a0 (l := [1, 2]) (i := 3) rfl rfl rfl hm))) u b7) ?_
 rintro e b8 ⟨a1, a2, rfl, b0⟩
 refine ⟨_, rfl, ?_⟩
 have b9 : SP S w0 b8 [Qk f 52 #[(.int .i64 h), (.int .i64 a), (.int .u32 j), (.string ⟨List.toArray m⟩), (.int .i64 o), (.string ⟨List.toArray p⟩), (.string ⟨List.toArray q⟩), (.string ⟨List.toArray b⟩)], Vu 9 Qn (some ⟨a9, 0, none⟩) (List.length ([c] : List (List UInt8))) ([c] : List (List UInt8)), Qk g1 133 #[(.slice a1 (List.length u.1) a2), (.bool u.2)], Vu 9 Qn a1 a2 u.1] := Qr a0 [1, 2] [0, 3] rfl rfl b0 rfl
 clear b0
 refine iF ?_
 refine ⟨(.tuple #[]), K, ?_⟩
 obtain rfl := Qb H
 exact ⟨a1, a2, rfl, SP.sel b9 [2,3] rfl rfl⟩
def N6 (q2 : (List (List UInt8))) (q5 : Bool) (q7 : Int) (q8 : Int) (q9 : Int) (c : (List UInt8)) (d : Int) (e : (List UInt8)) (f : (List UInt8)) (g : (List UInt8)) : Option ((List (List UInt8)) × Bool × Int × Int × Int × (List UInt8) × Int × (List UInt8) × (List UInt8) × (List UInt8)) :=
  ((Vd q2 q5).bind fun a => ((Zj a.2.1 a.2.2).bind fun b => (some (b.2.1, b.2.2, q7, a.1, q9, c, d, e, f, b.1))))
set_option maxHeartbeats 40000000 in
theorem C2 {S : List Nat} (g1 : Nat) (A3 : Option Addr) (c4 : Nat) (g6 : Nat) (q2 : (List (List UInt8))) (q5 : Bool) (q7 : Int) (q8 : Int) (q9 : Int) (b : (List UInt8)) (c : Int) (f : (List UInt8)) (h : (List UInt8)) (m : (List UInt8)) (w0 : World) (hL : ∀ w, Mod S w0 w → Gu w) (hO : SP S w0 w0 [Qk g1 112 #[(.slice A3 (List.length q2) c4), (.bool q5)], rdE Qn A3 c4 q2, Qk g6 52 #[(.int .i64 q7), (.int .i64 q8), (.int .u32 q9), (.string ⟨List.toArray b⟩), (.int .i64 c), (.string ⟨List.toArray f⟩), (.string ⟨List.toArray h⟩), (.string ⟨List.toArray m⟩)]])  (r : ((List (List UInt8)) × Bool × Int × Int × Int × (List UInt8) × Int × (List UInt8) × (List UInt8) × (List UInt8))) (H : N6 q2 q5 q7 q8 q9 b c f h m = some r) :
  Calls Tryz.prog 121 #[(pt g1 0), (pt g6 0)] w0 (fun e w' => ∃ (z : Option Addr) (a0 : Nat), e = .returned (.tuple #[]) ∧ SP S w0 w' [Qk g1 112 #[(.slice z (List.length r.1) a0), (.bool r.2.1)], rdE Qn z a0 r.1, Qk g6 52 #[(.int .i64 r.2.2.1), (.int .i64 r.2.2.2.1), (.int .u32 r.2.2.2.2.1), (.string ⟨List.toArray r.2.2.2.2.2.1⟩), (.int .i64 r.2.2.2.2.2.2.1), (.string ⟨List.toArray r.2.2.2.2.2.2.2.1⟩), (.string ⟨List.toArray r.2.2.2.2.2.2.2.2.1⟩), (.string ⟨List.toArray r.2.2.2.2.2.2.2.2.2⟩)]]) := by
 unfold N6 at H
 refine Ql (n := 14) Tryz.func121 K K K ?_
 have o := hO
 refine aR ?_
 refine iR 3 3 [(4, (pt g6 0)), (5, (pt g6 0)), (6, (pt g1 0))] ?_
 obtain ⟨a, a5, H⟩ := Qa H
 refine iS 4 ?_
 refine cF 76 #[(.tmp 6)] #[109] 7 Tryz.call76 (Vh g1 A3 c4 q2 q5 w0 (fun w hm => hL w (SP.through o (l := [0, 1]) rfl hm)) (Za o [0, 1] rfl rfl) a a5) ?_
 rintro e a1 ⟨p, q, rfl, a2⟩
 refine ⟨_, rfl, ?_⟩
 have a3 : SP S w0 a1 [Qk g6 52 #[(.int .i64 q7), (.int .i64 q8), (.int .u32 q9), (.string ⟨List.toArray b⟩), (.int .i64 c), (.string ⟨List.toArray f⟩), (.string ⟨List.toArray h⟩), (.string ⟨List.toArray m⟩)], Qk g1 112 #[(.slice p (List.length a.2.1) q), (.bool a.2.2)], rdE Qn p q a.2.1] := Qr o [0, 1] [2] rfl rfl a2 rfl
 clear a2
 refine iR 1 5 [(8, (pt g1 0))] ?_
 obtain ⟨j, a6, H⟩ := Qa H
 refine iS 6 ?_
 refine cF 115 #[(.tmp 8)] #[109] 9 Tryz.call115 (Yq g1 p q a.2.1 a.2.2 a1 (Za a3 [1, 2] rfl rfl) j a6) ?_
 rintro e a7 ⟨s, u, rfl, a4⟩
 refine ⟨_, rfl, ?_⟩
 have a8 : SP S w0 a7 [Qk g6 52 #[(.int .i64 q7), (.int .i64 q8), (.int .u32 q9), (.string ⟨List.toArray b⟩), (.int .i64 c), (.string ⟨List.toArray f⟩), (.string ⟨List.toArray h⟩), (.string ⟨List.toArray m⟩)], Qk g1 112 #[(.slice s (List.length j.2.1) u), (.bool j.2.2)], rdE Qn s u j.2.1] := Qr a3 [1, 2] [0] rfl rfl a4 rfl
 clear a4
 refine iR 2 8 [(10, (pt g6 0)), (11, (pt g6 1))] ?_
 refine iS 9 ?_
 refine Qh.store (t := 3) (x := (.tmp 11)) (y := (.tmp 7)) (g := g6) (off := 1) (i := 0) (v := (.int .i64 a.1)) (cs' := #[(.int .i64 q7), (.int .i64 a.1), (.int .u32 q9), (.string ⟨List.toArray b⟩), (.int .i64 c), (.string ⟨List.toArray f⟩), (.string ⟨List.toArray h⟩), (.string ⟨List.toArray m⟩)]) (d := none) (k := 8) K rfl K K a8 rfl K ?_
 intro b1 a9
 refine iR 2 11 [(12, (pt g6 0)), (13, (pt g6 7))] ?_
 refine iS 12 ?_
 refine Qh.store (t := 9) (x := (.tmp 13)) (y := (.tmp 9)) (g := g6) (off := 7) (i := 0) (v := (.string ⟨List.toArray j.1⟩)) (cs' := #[(.int .i64 q7), (.int .i64 a.1), (.int .u32 q9), (.string ⟨List.toArray b⟩), (.int .i64 c), (.string ⟨List.toArray f⟩), (.string ⟨List.toArray h⟩), (.string ⟨List.toArray j.1⟩)]) (d := none) (k := 11) K rfl K K a9 rfl K ?_
 intro b2 b0
 refine iF ?_
 refine ⟨(.tuple #[]), K, ?_⟩
 obtain rfl := Qb H
 exact ⟨s, u, rfl, SP.sel b0 [1,2,0] rfl rfl⟩
def N7 (q2 : (List (List UInt8))) (q5 : Bool) (c : Int) (b : Int) (d : Int) (e : (List UInt8)) (f : Int) (g : (List UInt8)) (h : (List UInt8)) (i : (List UInt8)) : Option ((List (List UInt8)) × Bool) :=
  ((Vc q2 q5 b).bind fun a => (some (a.1, a.2)))
set_option maxHeartbeats 40000000 in
theorem C3 {S : List Nat} (g1 : Nat) (A3 : Option Addr) (c4 : Nat) (q2 : (List (List UInt8))) (q5 : Bool) (b : Int) (a : Int) (c : Int) (f : (List UInt8)) (g : Int) (h : (List UInt8)) (i : (List UInt8)) (j : (List UInt8)) (w0 : World) (hL : ∀ w, Mod S w0 w → Gu w) (hO : SP S w0 w0 [Qk g1 133 #[(.slice A3 (List.length q2) c4), (.bool q5)], Vu 9 Qn A3 c4 q2])  (r : ((List (List UInt8)) × Bool)) (H : N7 q2 q5 b a c f g h i j = some r) :
  Calls Tryz.prog 122 #[(pt g1 0), (.agg #[(.int .i64 b), (.int .i64 a), (.int .u32 c), (.string ⟨List.toArray f⟩), (.int .i64 g), (.string ⟨List.toArray h⟩), (.string ⟨List.toArray i⟩), (.string ⟨List.toArray j⟩)])] w0 (fun e w' => ∃ (u : Option Addr) (y : Nat), e = .returned (.tuple #[]) ∧ SP S w0 w' [Qk g1 133 #[(.slice u (List.length r.1) y), (.bool r.2)], Vu 9 Qn u y r.1]) := by
 unfold N7 at H
 refine Ql (n := 8) Tryz.func122 K K K ?_
 have a0 := hO
 refine aQ ?_
 refine aR ?_
 refine iS 1 ?_
 refine Yi (t := 52) (x := (.tmp 1)) (v := (.agg #[(.int .i64 b), (.int .i64 a), (.int .u32 c), (.string ⟨List.toArray f⟩), (.int .i64 g), (.string ⟨List.toArray h⟩), (.string ⟨List.toArray i⟩), (.string ⟨List.toArray j⟩)])) (d := (some 3)) (k := 0) K rfl K a0 ?_
 intro p a1 m
 refine iF ?_
 refine aR ?_
 refine iR 2 2 [(4, (pt g1 0)), (5, (pt p 1))] ?_
 refine iS 3 ?_
 refine sL 3 5 p 1 2 (.int .i64 a) 6 m rfl ?_
 obtain ⟨o, a2, H⟩ := Qa H
 refine iS 4 ?_
 refine cF 85 #[(.tmp 4), (.tmp 6)] #[132, 2] 7 Tryz.call85 (Vg g1 A3 c4 q2 q5 a a1 (fun w hm => hL w (SP.through m (l := [0, 1]) rfl hm)) (Za m [0, 1] rfl rfl) o a2) ?_
 rintro e a3 ⟨q, s, rfl, z⟩
 refine ⟨_, rfl, ?_⟩
 have a4 : SP S w0 a3 [Qk p 52 #[(.int .i64 b), (.int .i64 a), (.int .u32 c), (.string ⟨List.toArray f⟩), (.int .i64 g), (.string ⟨List.toArray h⟩), (.string ⟨List.toArray i⟩), (.string ⟨List.toArray j⟩)], Qk g1 133 #[(.slice q (List.length o.1) s), (.bool o.2)], Vu 9 Qn q s o.1] := Qr m [0, 1] [2] rfl rfl z rfl
 clear z
 refine iF ?_
 refine ⟨(.tuple #[]), K, ?_⟩
 obtain rfl := Qb H
 exact ⟨q, s, rfl, SP.sel a4 [1,2] rfl rfl⟩
def U8 (q2 : (List (List UInt8))) (q5 : Bool) (q7 : Int) (q8 : Int) (q9 : Int) (b : (List UInt8)) (c : Int) (d : (List UInt8)) (e : (List UInt8)) (f : (List UInt8)) : Option ((List (List UInt8)) × Bool × Int × Int × Int × (List UInt8) × Int × (List UInt8) × (List UInt8) × (List UInt8)) :=
  ((Vd q2 q5).bind fun a => (some (a.2.1, a.2.2, q7, a.1, q9, b, c, d, e, f)))
set_option maxHeartbeats 40000000 in
theorem Ca {S : List Nat} (g1 : Nat) (A3 : Option Addr) (c4 : Nat) (g6 : Nat) (q2 : (List (List UInt8))) (q5 : Bool) (q7 : Int) (q8 : Int) (q9 : Int) (b : (List UInt8)) (c : Int) (f : (List UInt8)) (h : (List UInt8)) (j : (List UInt8)) (w0 : World) (hL : ∀ w, Mod S w0 w → Gu w) (hO : SP S w0 w0 [Qk g1 112 #[(.slice A3 (List.length q2) c4), (.bool q5)], rdE Qn A3 c4 q2, Qk g6 52 #[(.int .i64 q7), (.int .i64 q8), (.int .u32 q9), (.string ⟨List.toArray b⟩), (.int .i64 c), (.string ⟨List.toArray f⟩), (.string ⟨List.toArray h⟩), (.string ⟨List.toArray j⟩)]])  (r : ((List (List UInt8)) × Bool × Int × Int × Int × (List UInt8) × Int × (List UInt8) × (List UInt8) × (List UInt8))) (H : U8 q2 q5 q7 q8 q9 b c f h j = some r) :
  Calls Tryz.prog 123 #[(pt g1 0), (pt g6 0)] w0 (fun e w' => ∃ (q : Option Addr) (s : Nat), e = .returned (.tuple #[]) ∧ SP S w0 w' [Qk g1 112 #[(.slice q (List.length r.1) s), (.bool r.2.1)], rdE Qn q s r.1, Qk g6 52 #[(.int .i64 r.2.2.1), (.int .i64 r.2.2.2.1), (.int .u32 r.2.2.2.2.1), (.string ⟨List.toArray r.2.2.2.2.2.1⟩), (.int .i64 r.2.2.2.2.2.2.1), (.string ⟨List.toArray r.2.2.2.2.2.2.2.1⟩), (.string ⟨List.toArray r.2.2.2.2.2.2.2.2.1⟩), (.string ⟨List.toArray r.2.2.2.2.2.2.2.2.2⟩)]]) := by
 unfold U8 at H
 refine Ql (n := 9) Tryz.func123 K K K ?_
 have m := hO
 refine aR ?_
 refine iR 2 2 [(4, (pt g6 0)), (5, (pt g1 0))] ?_
 obtain ⟨a, z, H⟩ := Qa H
 refine iS 3 ?_
 refine cF 76 #[(.tmp 5)] #[109] 6 Tryz.call76 (Vh g1 A3 c4 q2 q5 w0 (fun w hm => hL w (SP.through m (l := [0, 1]) rfl hm)) (Za m [0, 1] rfl rfl) a z) ?_
 rintro e a0 ⟨o, p, rfl, u⟩
 refine ⟨_, rfl, ?_⟩
 have a1 : SP S w0 a0 [Qk g6 52 #[(.int .i64 q7), (.int .i64 q8), (.int .u32 q9), (.string ⟨List.toArray b⟩), (.int .i64 c), (.string ⟨List.toArray f⟩), (.string ⟨List.toArray h⟩), (.string ⟨List.toArray j⟩)], Qk g1 112 #[(.slice o (List.length a.2.1) p), (.bool a.2.2)], rdE Qn o p a.2.1] := Qr m [0, 1] [2] rfl rfl u rfl
 clear u
 refine iR 2 5 [(7, (pt g6 0)), (8, (pt g6 1))] ?_
 refine iS 6 ?_
 refine Qh.store (t := 3) (x := (.tmp 8)) (y := (.tmp 6)) (g := g6) (off := 1) (i := 0) (v := (.int .i64 a.1)) (cs' := #[(.int .i64 q7), (.int .i64 a.1), (.int .u32 q9), (.string ⟨List.toArray b⟩), (.int .i64 c), (.string ⟨List.toArray f⟩), (.string ⟨List.toArray h⟩), (.string ⟨List.toArray j⟩)]) (d := none) (k := 5) K rfl K K a1 rfl K ?_
 intro a3 a2
 refine iF ?_
 refine ⟨(.tuple #[]), K, ?_⟩
 obtain rfl := Qb H
 exact ⟨o, p, rfl, SP.sel a2 [1,2,0] rfl rfl⟩
def U9 (q2 : (List (List UInt8))) (q5 : Bool) (c : Int) (d : Int) (e : Int) (f : (List UInt8)) (b : Int) (g : (List UInt8)) (h : (List UInt8)) (i : (List UInt8)) : Option ((List (List UInt8)) × Bool) :=
  ((Vc q2 q5 b).bind fun a => (some (a.1, a.2)))
set_option maxHeartbeats 40000000 in
theorem Cb {S : List Nat} (g1 : Nat) (A3 : Option Addr) (c4 : Nat) (q2 : (List (List UInt8))) (q5 : Bool) (b : Int) (c : Int) (f : Int) (g : (List UInt8)) (a : Int) (h : (List UInt8)) (i : (List UInt8)) (j : (List UInt8)) (w0 : World) (hL : ∀ w, Mod S w0 w → Gu w) (hO : SP S w0 w0 [Qk g1 133 #[(.slice A3 (List.length q2) c4), (.bool q5)], Vu 9 Qn A3 c4 q2])  (r : ((List (List UInt8)) × Bool)) (H : U9 q2 q5 b c f g a h i j = some r) :
  Calls Tryz.prog 124 #[(pt g1 0), (.agg #[(.int .i64 b), (.int .i64 c), (.int .u32 f), (.string ⟨List.toArray g⟩), (.int .i64 a), (.string ⟨List.toArray h⟩), (.string ⟨List.toArray i⟩), (.string ⟨List.toArray j⟩)])] w0 (fun e w' => ∃ (u : Option Addr) (y : Nat), e = .returned (.tuple #[]) ∧ SP S w0 w' [Qk g1 133 #[(.slice u (List.length r.1) y), (.bool r.2)], Vu 9 Qn u y r.1]) := by
 unfold U9 at H
 refine Ql (n := 8) Tryz.func124 K K K ?_
 have a0 := hO
 refine aQ ?_
 refine aR ?_
 refine iS 1 ?_
 refine Yi (t := 52) (x := (.tmp 1)) (v := (.agg #[(.int .i64 b), (.int .i64 c), (.int .u32 f), (.string ⟨List.toArray g⟩), (.int .i64 a), (.string ⟨List.toArray h⟩), (.string ⟨List.toArray i⟩), (.string ⟨List.toArray j⟩)])) (d := (some 3)) (k := 0) K rfl K a0 ?_
 intro p a1 m
 refine iF ?_
 refine aR ?_
 refine iR 2 2 [(4, (pt g1 0)), (5, (pt p 4))] ?_
 refine iS 3 ?_
 refine sL 2 5 p 4 2 (.int .i64 a) 6 m rfl ?_
 obtain ⟨o, a2, H⟩ := Qa H
 refine iS 4 ?_
 refine cF 85 #[(.tmp 4), (.tmp 6)] #[132, 2] 7 Tryz.call85 (Vg g1 A3 c4 q2 q5 a a1 (fun w hm => hL w (SP.through m (l := [0, 1]) rfl hm)) (Za m [0, 1] rfl rfl) o a2) ?_
 rintro e a3 ⟨q, s, rfl, z⟩
 refine ⟨_, rfl, ?_⟩
 have a4 : SP S w0 a3 [Qk p 52 #[(.int .i64 b), (.int .i64 c), (.int .u32 f), (.string ⟨List.toArray g⟩), (.int .i64 a), (.string ⟨List.toArray h⟩), (.string ⟨List.toArray i⟩), (.string ⟨List.toArray j⟩)], Qk g1 133 #[(.slice q (List.length o.1) s), (.bool o.2)], Vu 9 Qn q s o.1] := Qr m [0, 1] [2] rfl rfl z rfl
 clear z
 refine iF ?_
 refine ⟨(.tuple #[]), K, ?_⟩
 obtain rfl := Qb H
 exact ⟨q, s, rfl, SP.sel a4 [1,2] rfl rfl⟩
def Na (q2 : (List (List UInt8))) (q5 : Bool) (q7 : Int) (q8 : Int) (q9 : Int) (b : (List UInt8)) (f : Int) (c : (List UInt8)) (d : (List UInt8)) (e : (List UInt8)) : Option ((List (List UInt8)) × Bool × Int × Int × Int × (List UInt8) × Int × (List UInt8) × (List UInt8) × (List UInt8)) :=
  ((Vd q2 q5).bind fun a => (some (a.2.1, a.2.2, q7, q8, q9, b, a.1, c, d, e)))
set_option maxHeartbeats 40000000 in
theorem Cc {S : List Nat} (g1 : Nat) (A3 : Option Addr) (c4 : Nat) (g6 : Nat) (q2 : (List (List UInt8))) (q5 : Bool) (q7 : Int) (q8 : Int) (q9 : Int) (b : (List UInt8)) (j : Int) (c : (List UInt8)) (f : (List UInt8)) (h : (List UInt8)) (w0 : World) (hL : ∀ w, Mod S w0 w → Gu w) (hO : SP S w0 w0 [Qk g1 112 #[(.slice A3 (List.length q2) c4), (.bool q5)], rdE Qn A3 c4 q2, Qk g6 52 #[(.int .i64 q7), (.int .i64 q8), (.int .u32 q9), (.string ⟨List.toArray b⟩), (.int .i64 j), (.string ⟨List.toArray c⟩), (.string ⟨List.toArray f⟩), (.string ⟨List.toArray h⟩)]])  (r : ((List (List UInt8)) × Bool × Int × Int × Int × (List UInt8) × Int × (List UInt8) × (List UInt8) × (List UInt8))) (H : Na q2 q5 q7 q8 q9 b j c f h = some r) :
  Calls Tryz.prog 125 #[(pt g1 0), (pt g6 0)] w0 (fun e w' => ∃ (q : Option Addr) (s : Nat), e = .returned (.tuple #[]) ∧ SP S w0 w' [Qk g1 112 #[(.slice q (List.length r.1) s), (.bool r.2.1)], rdE Qn q s r.1, Qk g6 52 #[(.int .i64 r.2.2.1), (.int .i64 r.2.2.2.1), (.int .u32 r.2.2.2.2.1), (.string ⟨List.toArray r.2.2.2.2.2.1⟩), (.int .i64 r.2.2.2.2.2.2.1), (.string ⟨List.toArray r.2.2.2.2.2.2.2.1⟩), (.string ⟨List.toArray r.2.2.2.2.2.2.2.2.1⟩), (.string ⟨List.toArray r.2.2.2.2.2.2.2.2.2⟩)]]) := by
 unfold Na at H
 refine Ql (n := 9) Tryz.func125 K K K ?_
 have m := hO
 refine aR ?_
 refine iR 2 2 [(4, (pt g6 0)), (5, (pt g1 0))] ?_
 obtain ⟨a, z, H⟩ := Qa H
 refine iS 3 ?_
 refine cF 76 #[(.tmp 5)] #[109] 6 Tryz.call76 (Vh g1 A3 c4 q2 q5 w0 (fun w hm => hL w (SP.through m (l := [0, 1]) rfl hm)) (Za m [0, 1] rfl rfl) a z) ?_
 rintro e a0 ⟨o, p, rfl, u⟩
 refine ⟨_, rfl, ?_⟩
 have a1 : SP S w0 a0 [Qk g6 52 #[(.int .i64 q7), (.int .i64 q8), (.int .u32 q9), (.string ⟨List.toArray b⟩), (.int .i64 j), (.string ⟨List.toArray c⟩), (.string ⟨List.toArray f⟩), (.string ⟨List.toArray h⟩)], Qk g1 112 #[(.slice o (List.length a.2.1) p), (.bool a.2.2)], rdE Qn o p a.2.1] := Qr m [0, 1] [2] rfl rfl u rfl
 clear u
 refine iR 2 5 [(7, (pt g6 0)), (8, (pt g6 4))] ?_
 refine iS 6 ?_
 refine Qh.store (t := 2) (x := (.tmp 8)) (y := (.tmp 6)) (g := g6) (off := 4) (i := 0) (v := (.int .i64 a.1)) (cs' := #[(.int .i64 q7), (.int .i64 q8), (.int .u32 q9), (.string ⟨List.toArray b⟩), (.int .i64 a.1), (.string ⟨List.toArray c⟩), (.string ⟨List.toArray f⟩), (.string ⟨List.toArray h⟩)]) (d := none) (k := 5) K rfl K K a1 rfl K ?_
 intro a3 a2
 refine iF ?_
 refine ⟨(.tuple #[]), K, ?_⟩
 obtain rfl := Qb H
 exact ⟨o, p, rfl, SP.sel a2 [1,2,0] rfl rfl⟩
def Nb (q2 : (List (List UInt8))) (q5 : Bool) (e : Int) (f : Int) (g : Int) (h : (List UInt8)) (i : Int) (c : (List UInt8)) (d : (List UInt8)) (j : (List UInt8)) : Option ((List (List UInt8)) × Bool) :=
  ((Xo q2 q5 c).bind fun a => ((Xo a.1 a.2 d).bind fun b => (some (b.1, b.2))))
set_option maxHeartbeats 40000000 in
theorem Cd {S : List Nat} (g1 : Nat) (A3 : Option Addr) (c4 : Nat) (q2 : (List (List UInt8))) (q5 : Bool) (g : Int) (h : Int) (i : Int) (j : (List UInt8)) (l : Int) (a : (List UInt8)) (b : (List UInt8)) (m : (List UInt8)) (w0 : World) (hO : SP S w0 w0 [Qk g1 133 #[(.slice A3 (List.length q2) c4), (.bool q5)], Vu 9 Qn A3 c4 q2])  (r : ((List (List UInt8)) × Bool)) (H : Nb q2 q5 g h i j l a b m = some r) :
  Calls Tryz.prog 126 #[(pt g1 0), (.agg #[(.int .i64 g), (.int .i64 h), (.int .u32 i), (.string ⟨List.toArray j⟩), (.int .i64 l), (.string ⟨List.toArray a⟩), (.string ⟨List.toArray b⟩), (.string ⟨List.toArray m⟩)])] w0 (fun e w' => ∃ (z : Option Addr) (a0 : Nat), e = .returned (.tuple #[]) ∧ SP S w0 w' [Qk g1 133 #[(.slice z (List.length r.1) a0), (.bool r.2)], Vu 9 Qn z a0 r.1]) := by
 unfold Nb at H
 refine Ql (n := 12) Tryz.func126 K K K ?_
 have a4 := hO
 refine aQ ?_
 refine aR ?_
 refine iS 1 ?_
 refine Yi (t := 52) (x := (.tmp 1)) (v := (.agg #[(.int .i64 g), (.int .i64 h), (.int .u32 i), (.string ⟨List.toArray j⟩), (.int .i64 l), (.string ⟨List.toArray a⟩), (.string ⟨List.toArray b⟩), (.string ⟨List.toArray m⟩)])) (d := (some 3)) (k := 0) K rfl K a4 ?_
 intro c a5 p
 refine iF ?_
 refine aQ ?_
 refine aR ?_
 refine iR 2 2 [(4, (pt g1 0)), (5, (pt c 5))] ?_
 refine iS 3 ?_
 refine sL 9 5 c 5 2 (.string ⟨List.toArray a⟩) 6 p rfl ?_
 obtain ⟨f, a6, H⟩ := Qa H
 refine iS 4 ?_
 refine cF 127 #[(.tmp 4), (.tmp 6)] #[132, 9] 7 Tryz.call127 (U2 g1 A3 c4 q2 q5 a a5 (Za p [0, 1] rfl rfl) f a6) ?_
 rintro e a1 ⟨q, s, rfl, a2⟩
 refine ⟨_, rfl, ?_⟩
 have u : SP S w0 a1 [Qk c 52 #[(.int .i64 g), (.int .i64 h), (.int .u32 i), (.string ⟨List.toArray j⟩), (.int .i64 l), (.string ⟨List.toArray a⟩), (.string ⟨List.toArray b⟩), (.string ⟨List.toArray m⟩)], Qk g1 133 #[(.slice q (List.length f.1) s), (.bool f.2)], Vu 9 Qn q s f.1] := Qr p [0, 1] [2] rfl rfl a2 rfl
 clear a2
 refine iF ?_
 refine aR ?_
 refine iR 2 2 [(8, (pt g1 0)), (9, (pt c 6))] ?_
 refine iS 3 ?_
 refine sL 9 9 c 6 0 (.string ⟨List.toArray b⟩) 10 u rfl ?_
 obtain ⟨o, a7, H⟩ := Qa H
 refine iS 4 ?_
 refine cF 127 #[(.tmp 8), (.tmp 10)] #[132, 9] 11 Tryz.call127 (U2 g1 q s f.1 f.2 b a1 (Za u [1, 2] rfl rfl) o a7) ?_
 rintro e a8 ⟨w, y, rfl, a3⟩
 refine ⟨_, rfl, ?_⟩
 have a9 : SP S w0 a8 [Qk c 52 #[(.int .i64 g), (.int .i64 h), (.int .u32 i), (.string ⟨List.toArray j⟩), (.int .i64 l), (.string ⟨List.toArray a⟩), (.string ⟨List.toArray b⟩), (.string ⟨List.toArray m⟩)], Qk g1 133 #[(.slice w (List.length o.1) y), (.bool o.2)], Vu 9 Qn w y o.1] := Qr u [1, 2] [0] rfl rfl a3 rfl
 clear a3
 refine iF ?_
 refine ⟨(.tuple #[]), K, ?_⟩
 obtain rfl := Qb H
 exact ⟨w, y, rfl, SP.sel a9 [1,2] rfl rfl⟩
def Nc (q2 : (List (List UInt8))) (q5 : Bool) (q7 : Int) (q8 : Int) (q9 : Int) (c : (List UInt8)) (d : Int) (f : (List UInt8)) (g : (List UInt8)) (e : (List UInt8)) : Option ((List (List UInt8)) × Bool × Int × Int × Int × (List UInt8) × Int × (List UInt8) × (List UInt8) × (List UInt8)) :=
  ((Xp q2 q5).bind fun a => ((Xp a.2.1 a.2.2).bind fun b => (some (b.2.1, b.2.2, q7, q8, q9, c, d, a.1, b.1, e))))
set_option maxHeartbeats 40000000 in
theorem Ce {S : List Nat} (g1 : Nat) (A3 : Option Addr) (c4 : Nat) (g6 : Nat) (q2 : (List (List UInt8))) (q5 : Bool) (q7 : Int) (q8 : Int) (q9 : Int) (b : (List UInt8)) (c : Int) (l : (List UInt8)) (j : (List UInt8)) (f : (List UInt8)) (w0 : World) (hO : SP S w0 w0 [Qk g1 112 #[(.slice A3 (List.length q2) c4), (.bool q5)], rdE Qn A3 c4 q2, Qk g6 52 #[(.int .i64 q7), (.int .i64 q8), (.int .u32 q9), (.string ⟨List.toArray b⟩), (.int .i64 c), (.string ⟨List.toArray l⟩), (.string ⟨List.toArray j⟩), (.string ⟨List.toArray f⟩)]])  (r : ((List (List UInt8)) × Bool × Int × Int × Int × (List UInt8) × Int × (List UInt8) × (List UInt8) × (List UInt8))) (H : Nc q2 q5 q7 q8 q9 b c l j f = some r) :
  Calls Tryz.prog 128 #[(pt g1 0), (pt g6 0)] w0 (fun e w' => ∃ (s : Option Addr) (u : Nat), e = .returned (.tuple #[]) ∧ SP S w0 w' [Qk g1 112 #[(.slice s (List.length r.1) u), (.bool r.2.1)], rdE Qn s u r.1, Qk g6 52 #[(.int .i64 r.2.2.1), (.int .i64 r.2.2.2.1), (.int .u32 r.2.2.2.2.1), (.string ⟨List.toArray r.2.2.2.2.2.1⟩), (.int .i64 r.2.2.2.2.2.2.1), (.string ⟨List.toArray r.2.2.2.2.2.2.2.1⟩), (.string ⟨List.toArray r.2.2.2.2.2.2.2.2.1⟩), (.string ⟨List.toArray r.2.2.2.2.2.2.2.2.2⟩)]]) := by
 unfold Nc at H
 refine Ql (n := 14) Tryz.func128 K K K ?_
 have w := hO
 refine aR ?_
 refine iR 3 3 [(4, (pt g6 0)), (5, (pt g6 0)), (6, (pt g1 0))] ?_
 obtain ⟨a, a3, H⟩ := Qa H
 refine iS 4 ?_
 refine cF 129 #[(.tmp 6)] #[109] 7 Tryz.call129 (U4 g1 A3 c4 q2 q5 w0 (Za w [0, 1] rfl rfl) a a3) ?_
 rintro e z ⟨m, o, rfl, a0⟩
 refine ⟨_, rfl, ?_⟩
 have a1 : SP S w0 z [Qk g6 52 #[(.int .i64 q7), (.int .i64 q8), (.int .u32 q9), (.string ⟨List.toArray b⟩), (.int .i64 c), (.string ⟨List.toArray l⟩), (.string ⟨List.toArray j⟩), (.string ⟨List.toArray f⟩)], Qk g1 112 #[(.slice m (List.length a.2.1) o), (.bool a.2.2)], rdE Qn m o a.2.1] := Qr w [0, 1] [2] rfl rfl a0 rfl
 clear a0
 refine iR 1 5 [(8, (pt g1 0))] ?_
 obtain ⟨h, a4, H⟩ := Qa H
 refine iS 6 ?_
 refine cF 129 #[(.tmp 8)] #[109] 9 Tryz.call129 (U4 g1 m o a.2.1 a.2.2 z (Za a1 [1, 2] rfl rfl) h a4) ?_
 rintro e a5 ⟨p, q, rfl, a2⟩
 refine ⟨_, rfl, ?_⟩
 have a6 : SP S w0 a5 [Qk g6 52 #[(.int .i64 q7), (.int .i64 q8), (.int .u32 q9), (.string ⟨List.toArray b⟩), (.int .i64 c), (.string ⟨List.toArray l⟩), (.string ⟨List.toArray j⟩), (.string ⟨List.toArray f⟩)], Qk g1 112 #[(.slice p (List.length h.2.1) q), (.bool h.2.2)], rdE Qn p q h.2.1] := Qr a1 [1, 2] [0] rfl rfl a2 rfl
 clear a2
 refine iR 2 8 [(10, (pt g6 0)), (11, (pt g6 5))] ?_
 refine iS 9 ?_
 refine Qh.store (t := 9) (x := (.tmp 11)) (y := (.tmp 7)) (g := g6) (off := 5) (i := 0) (v := (.string ⟨List.toArray a.1⟩)) (cs' := #[(.int .i64 q7), (.int .i64 q8), (.int .u32 q9), (.string ⟨List.toArray b⟩), (.int .i64 c), (.string ⟨List.toArray a.1⟩), (.string ⟨List.toArray j⟩), (.string ⟨List.toArray f⟩)]) (d := none) (k := 8) K rfl K K a6 rfl K ?_
 intro a9 a7
 refine iR 2 11 [(12, (pt g6 0)), (13, (pt g6 6))] ?_
 refine iS 12 ?_
 refine Qh.store (t := 9) (x := (.tmp 13)) (y := (.tmp 9)) (g := g6) (off := 6) (i := 0) (v := (.string ⟨List.toArray h.1⟩)) (cs' := #[(.int .i64 q7), (.int .i64 q8), (.int .u32 q9), (.string ⟨List.toArray b⟩), (.int .i64 c), (.string ⟨List.toArray a.1⟩), (.string ⟨List.toArray h.1⟩), (.string ⟨List.toArray f⟩)]) (d := none) (k := 11) K rfl K K a7 rfl K ?_
 intro b0 a8
 refine iF ?_
 refine ⟨(.tuple #[]), K, ?_⟩
 obtain rfl := Qb H
 exact ⟨p, q, rfl, SP.sel a8 [1,2,0] rfl rfl⟩
def Nd (q2 : (List (List UInt8))) (q5 : Bool) (c : Int) (d : Int) (e : Int) (f : (List UInt8)) (g : Int) (b : (List UInt8)) (h : (List UInt8)) (i : (List UInt8)) : Option ((List (List UInt8)) × Bool) :=
  ((Xo q2 q5 b).bind fun a => (some (a.1, a.2)))
set_option maxHeartbeats 40000000 in
theorem Cf {S : List Nat} (g1 : Nat) (A3 : Option Addr) (c4 : Nat) (q2 : (List (List UInt8))) (q5 : Bool) (b : Int) (c : Int) (f : Int) (g : (List UInt8)) (h : Int) (a : (List UInt8)) (i : (List UInt8)) (j : (List UInt8)) (w0 : World) (hO : SP S w0 w0 [Qk g1 133 #[(.slice A3 (List.length q2) c4), (.bool q5)], Vu 9 Qn A3 c4 q2])  (r : ((List (List UInt8)) × Bool)) (H : Nd q2 q5 b c f g h a i j = some r) :
  Calls Tryz.prog 130 #[(pt g1 0), (.agg #[(.int .i64 b), (.int .i64 c), (.int .u32 f), (.string ⟨List.toArray g⟩), (.int .i64 h), (.string ⟨List.toArray a⟩), (.string ⟨List.toArray i⟩), (.string ⟨List.toArray j⟩)])] w0 (fun e w' => ∃ (s : Option Addr) (u : Nat), e = .returned (.tuple #[]) ∧ SP S w0 w' [Qk g1 133 #[(.slice s (List.length r.1) u), (.bool r.2)], Vu 9 Qn s u r.1]) := by
 unfold Nd at H
 refine Ql (n := 8) Tryz.func130 K K K ?_
 have y := hO
 refine aQ ?_
 refine aR ?_
 refine iS 1 ?_
 refine Yi (t := 52) (x := (.tmp 1)) (v := (.agg #[(.int .i64 b), (.int .i64 c), (.int .u32 f), (.string ⟨List.toArray g⟩), (.int .i64 h), (.string ⟨List.toArray a⟩), (.string ⟨List.toArray i⟩), (.string ⟨List.toArray j⟩)])) (d := (some 3)) (k := 0) K rfl K y ?_
 intro m z o
 refine iF ?_
 refine aR ?_
 refine iR 2 2 [(4, (pt g1 0)), (5, (pt m 5))] ?_
 refine iS 3 ?_
 refine sL 9 5 m 5 2 (.string ⟨List.toArray a⟩) 6 o rfl ?_
 obtain ⟨l, a0, H⟩ := Qa H
 refine iS 4 ?_
 refine cF 127 #[(.tmp 4), (.tmp 6)] #[132, 9] 7 Tryz.call127 (U2 g1 A3 c4 q2 q5 a z (Za o [0, 1] rfl rfl) l a0) ?_
 rintro e a1 ⟨p, q, rfl, w⟩
 refine ⟨_, rfl, ?_⟩
 have a2 : SP S w0 a1 [Qk m 52 #[(.int .i64 b), (.int .i64 c), (.int .u32 f), (.string ⟨List.toArray g⟩), (.int .i64 h), (.string ⟨List.toArray a⟩), (.string ⟨List.toArray i⟩), (.string ⟨List.toArray j⟩)], Qk g1 133 #[(.slice p (List.length l.1) q), (.bool l.2)], Vu 9 Qn p q l.1] := Qr o [0, 1] [2] rfl rfl w rfl
 clear w
 refine iF ?_
 refine ⟨(.tuple #[]), K, ?_⟩
 obtain rfl := Qb H
 exact ⟨p, q, rfl, SP.sel a2 [1,2] rfl rfl⟩
def Nf (q2 : (List (List UInt8))) (q5 : Bool) (q7 : Int) (q8 : Int) (q9 : Int) (b : (List UInt8)) (c : Int) (f : (List UInt8)) (d : (List UInt8)) (e : (List UInt8)) : Option ((List (List UInt8)) × Bool × Int × Int × Int × (List UInt8) × Int × (List UInt8) × (List UInt8) × (List UInt8)) :=
  ((Xp q2 q5).bind fun a => (some (a.2.1, a.2.2, q7, q8, q9, b, c, a.1, d, e)))
set_option maxHeartbeats 40000000 in
theorem Cg {S : List Nat} (g1 : Nat) (A3 : Option Addr) (c4 : Nat) (g6 : Nat) (q2 : (List (List UInt8))) (q5 : Bool) (q7 : Int) (q8 : Int) (q9 : Int) (b : (List UInt8)) (c : Int) (j : (List UInt8)) (f : (List UInt8)) (h : (List UInt8)) (w0 : World) (hO : SP S w0 w0 [Qk g1 112 #[(.slice A3 (List.length q2) c4), (.bool q5)], rdE Qn A3 c4 q2, Qk g6 52 #[(.int .i64 q7), (.int .i64 q8), (.int .u32 q9), (.string ⟨List.toArray b⟩), (.int .i64 c), (.string ⟨List.toArray j⟩), (.string ⟨List.toArray f⟩), (.string ⟨List.toArray h⟩)]])  (r : ((List (List UInt8)) × Bool × Int × Int × Int × (List UInt8) × Int × (List UInt8) × (List UInt8) × (List UInt8))) (H : Nf q2 q5 q7 q8 q9 b c j f h = some r) :
  Calls Tryz.prog 131 #[(pt g1 0), (pt g6 0)] w0 (fun e w' => ∃ (o : Option Addr) (p : Nat), e = .returned (.tuple #[]) ∧ SP S w0 w' [Qk g1 112 #[(.slice o (List.length r.1) p), (.bool r.2.1)], rdE Qn o p r.1, Qk g6 52 #[(.int .i64 r.2.2.1), (.int .i64 r.2.2.2.1), (.int .u32 r.2.2.2.2.1), (.string ⟨List.toArray r.2.2.2.2.2.1⟩), (.int .i64 r.2.2.2.2.2.2.1), (.string ⟨List.toArray r.2.2.2.2.2.2.2.1⟩), (.string ⟨List.toArray r.2.2.2.2.2.2.2.2.1⟩), (.string ⟨List.toArray r.2.2.2.2.2.2.2.2.2⟩)]]) := by
 unfold Nf at H
 refine Ql (n := 9) Tryz.func131 K K K ?_
 have q := hO
 refine aR ?_
 refine iR 2 2 [(4, (pt g6 0)), (5, (pt g1 0))] ?_
 obtain ⟨a, u, H⟩ := Qa H
 refine iS 3 ?_
 refine cF 129 #[(.tmp 5)] #[109] 6 Tryz.call129 (U4 g1 A3 c4 q2 q5 w0 (Za q [0, 1] rfl rfl) a u) ?_
 rintro e w ⟨l, m, rfl, s⟩
 refine ⟨_, rfl, ?_⟩
 have z : SP S w0 w [Qk g6 52 #[(.int .i64 q7), (.int .i64 q8), (.int .u32 q9), (.string ⟨List.toArray b⟩), (.int .i64 c), (.string ⟨List.toArray j⟩), (.string ⟨List.toArray f⟩), (.string ⟨List.toArray h⟩)], Qk g1 112 #[(.slice l (List.length a.2.1) m), (.bool a.2.2)], rdE Qn l m a.2.1] := Qr q [0, 1] [2] rfl rfl s rfl
 clear s
 refine iR 2 5 [(7, (pt g6 0)), (8, (pt g6 5))] ?_
 refine iS 6 ?_
 refine Qh.store (t := 9) (x := (.tmp 8)) (y := (.tmp 6)) (g := g6) (off := 5) (i := 0) (v := (.string ⟨List.toArray a.1⟩)) (cs' := #[(.int .i64 q7), (.int .i64 q8), (.int .u32 q9), (.string ⟨List.toArray b⟩), (.int .i64 c), (.string ⟨List.toArray a.1⟩), (.string ⟨List.toArray f⟩), (.string ⟨List.toArray h⟩)]) (d := none) (k := 5) K rfl K K z rfl K ?_
 intro a1 a0
 refine iF ?_
 refine ⟨(.tuple #[]), K, ?_⟩
 obtain rfl := Qb H
 exact ⟨l, m, rfl, SP.sel a0 [1,2,0] rfl rfl⟩
def Be (q2 : (List (List UInt8))) (q5 : Bool) (a : Int) (b : Int) (c : Int) (d : (List UInt8)) (e : Int) (f : (List UInt8)) (g : (List UInt8)) (h : (List UInt8)) : Option Unit :=
  (some ())
set_option maxHeartbeats 40000000 in
theorem Ch {S : List Nat} (g1 : Nat) (A3 : Option Addr) (c4 : Nat) (q2 : (List (List UInt8))) (q5 : Bool) (a : Int) (b : Int) (c : Int) (f : (List UInt8)) (g : Int) (h : (List UInt8)) (i : (List UInt8)) (j : (List UInt8)) (w0 : World) (hO : SP S w0 w0 [Qk g1 133 #[(.slice A3 (List.length q2) c4), (.bool q5)], Vu 9 Qn A3 c4 q2])  (r : Unit) (H : Be q2 q5 a b c f g h i j = some r) :
  Calls Tryz.prog 132 #[(pt g1 0), (.agg #[(.int .i64 a), (.int .i64 b), (.int .u32 c), (.string ⟨List.toArray f⟩), (.int .i64 g), (.string ⟨List.toArray h⟩), (.string ⟨List.toArray i⟩), (.string ⟨List.toArray j⟩)])] w0 (fun e w' => ∃ (l : Option Addr) (m : Nat), e = .returned (.tuple #[]) ∧ SP S w0 w' [Qk g1 133 #[(.slice l (List.length q2) m), (.bool q5)], Vu 9 Qn l m q2]) := by
 unfold Be at H
 refine Ql (n := 4) Tryz.func132 K K K ?_
 have o := hO
 refine aR ?_
 refine iS 1 ?_
 refine Yi (t := 52) (x := (.tmp 1)) (v := (.agg #[(.int .i64 a), (.int .i64 b), (.int .u32 c), (.string ⟨List.toArray f⟩), (.int .i64 g), (.string ⟨List.toArray h⟩), (.string ⟨List.toArray i⟩), (.string ⟨List.toArray j⟩)])) (d := (some 3)) (k := 0) K rfl K o ?_
 intro q s p
 refine iF ?_
 refine ⟨(.tuple #[]), K, ?_⟩
 obtain rfl := Qb H
 exact ⟨A3, c4, rfl, SP.sel p [0,1] rfl rfl⟩
def Bf (q2 : (List (List UInt8))) (q5 : Bool) (q7 : Int) (q8 : Int) (q9 : Int) (a : (List UInt8)) (b : Int) (c : (List UInt8)) (d : (List UInt8)) (e : (List UInt8)) : Option Unit :=
  (some ())
set_option maxHeartbeats 40000000 in
theorem Ci {S : List Nat} (g1 : Nat) (A3 : Option Addr) (c4 : Nat) (g6 : Nat) (q2 : (List (List UInt8))) (q5 : Bool) (q7 : Int) (q8 : Int) (q9 : Int) (a : (List UInt8)) (b : Int) (c : (List UInt8)) (d : (List UInt8)) (f : (List UInt8)) (w0 : World) (hO : SP S w0 w0 [Qk g1 112 #[(.slice A3 (List.length q2) c4), (.bool q5)], rdE Qn A3 c4 q2, Qk g6 52 #[(.int .i64 q7), (.int .i64 q8), (.int .u32 q9), (.string ⟨List.toArray a⟩), (.int .i64 b), (.string ⟨List.toArray c⟩), (.string ⟨List.toArray d⟩), (.string ⟨List.toArray f⟩)]])  (r : Unit) (H : Bf q2 q5 q7 q8 q9 a b c d f = some r) :
  Calls Tryz.prog 133 #[(pt g1 0), (pt g6 0)] w0 (fun e w' => ∃ (g : Option Addr) (h : Nat), e = .returned (.tuple #[]) ∧ SP S w0 w' [Qk g1 112 #[(.slice g (List.length q2) h), (.bool q5)], rdE Qn g h q2, Qk g6 52 #[(.int .i64 q7), (.int .i64 q8), (.int .u32 q9), (.string ⟨List.toArray a⟩), (.int .i64 b), (.string ⟨List.toArray c⟩), (.string ⟨List.toArray d⟩), (.string ⟨List.toArray f⟩)]]) := by
 unfold Bf at H
 refine Ql (n := 4) Tryz.func133 K K K ?_
 have i := hO
 refine At.skip K ?_
 refine ⟨(.tuple #[]), K, ?_⟩
 obtain rfl := Qb H
 exact ⟨A3, c4, rfl, SP.sel i [0,1,2] rfl rfl⟩
end Go.Proofs.YtoflbpmbkmephaaGreatDoor
namespace Go.Proofs.YtoflbpmbkmephaaGreatDoor
open Go.RowKit
open Go.MapKept (findNow_spec run_findKey run_checkKey IsKey Stamped stamped_push stamped_empty)
open Go.ChangeMaps (setBlock)
abbrev KV := List (Value × Value)
structure TabOk (m : Nat) (L : KV) (es : Array MapEntry) (clock : Nat) (w : World) : Prop where
  heap : w.heap[m]? = some (.map es clock)
  ents : es.toList.map (fun e => (e.key, e.val)) = L
  st : Stamped es clock
def Ky (m : Nat) (L : KV) : Ent := ⟨[m], fun w => ∃ es clock, TabOk m L es clock w, fun w w' hk ⟨es, clock, h⟩ => ⟨es, clock, (hk m (by simp)).trans h.heap, h.ents, h.st⟩⟩
def Bt (d : TypeDesc) (k : Value) : KV → Nat → Option (Option (Nat × Value))
  | [], _ => some none
  | x :: l, i => match Instr.sameNow d k x.1 with
    | some true => some (some (i, x.2))
    | some false => Bt d k l (i + 1)
    | none => none
theorem Bu {d : TypeDesc} {k : Value} : ∀ (es : List MapEntry) (L : KV) (i : Nat), es.map (fun e => (e.key, e.val)) = L → Instr.findNow d k es i = Bt d k L i
  | [], L, i, h => by simp at h; subst h; rfl
  | e :: es, L, i, h => by
    cases L with
    | nil => simp at h
    | cons x L =>
      simp only [List.map_cons, List.cons.injEq] at h
      obtain ⟨rfl, h⟩ := h
      simp only [Instr.findNow, Bt]
      cases Instr.sameNow d k e.key with
      | none => rfl
      | some b => cases b with
        | true => rfl
        | false => exact Bu es L (i + 1) h
def keyB : TypeDesc → Value → Bool
  | .int k, .int k' _ => decide (k' = k)
  | .string, .string _ => true
  | _, _ => false
theorem Hv {d : TypeDesc} {v : Value} (h : keyB d v = true) : IsKey d v := by
  cases d <;> cases v <;> simp_all [keyB, IsKey]
section
variable {P : Program} {n : Nat} {B : Code} {p : List Bool} {o : Nat} {K : Fr → World → Prop} {ρ : Fr} {w w0 : World} {ens : List Ent} {S : List Nat} {m b : Nat} {L : KV} {dst : Option Nat} {k v : Value} {i : Nat} {kt et : TypeId} {d : TypeDesc}
theorem M3 {T : TypeId} (ho : B5 (Qd B p) o ρ = some (.makeMap T none, dst)) (hd : Uh n dst = true) (hs : SP S w0 w ens)
    (next : ∀ (m : Nat) (w' : World), SP S w0 w' (ens ++ [Ky m []]) → K (Rr ρ dst (.map (some m))) w') : Qh P n B p o K ρ w := by
  refine Qh.val ho hd (w' := w.alloc (.map #[] 0)) (v := .map (some w.heap.size)) (fun o hop => ?_) (next w.heap.size _ (hs.push ((Below.refl _ _).alloc (Nat.le_refl _) _) ⟨#[], 0, heap_alloc_new w _, rfl, stamped_empty 0⟩ fun k hk => ?_))
  · unfold execOp; rw [hop]
    simp only [Instr.makeMap, Sem.run_bind, Sem.run_pure, run_newObj, Result.andThen_ok]
    rfl
  · have : k = w.heap.size := by simpa [Ky] using hk
    subst this
    simp
theorem Rm {T : TypeId} {x ix y : Operand} (ho : B5 (Qd B p) o ρ = some (.insert T x ix y, dst)) (hd : Uh n dst = true) (hx : opv ρ x = .map (some m)) (hix : opv ρ ix = k) (hy : opv ρ y = v)
    (hT : P.underlying T = some (.map kt et)) (hkt : P.underlying kt = some d) (hk : keyB d k = true) (hL : L.all (fun x => keyB d x.1) = true) (hf : Bt d k L 0 = some none)
    (hs : SP S w0 w ens) (hi : ens[i]? = some (Ky m L)) (next : ∀ (w' : World), SP S w0 w' (ens.set i (Ky m (L ++ [(k, v)]))) → K (Rr ρ dst undef) w') : Qh P n B p o K ρ w := by
  obtain ⟨es, clock, h⟩ := hs.get hi
  have hck := run_checkKey (P := P) (w := w) hkt (Hv hk) false 9999
  have hfn : Instr.findNow d k es.toList 0 = some none := (Bu es.toList L 0 h.ents).trans hf
  have hfk := run_findKey (P := P) (w := w) hkt hfn
  have hne : ∀ e ∈ es.toList, e.key ≠ k := by
    have hall : ∀ e ∈ es.toList, IsKey d e.key := fun e he => by
      rw [List.all_eq_true] at hL
      exact Hv (hL (e.key, e.val) (by rw [← h.ents]; exact List.mem_map.2 ⟨e, he, rfl⟩))
    rcases findNow_spec (Hv hk) es.toList 0 hall with ⟨_, h2⟩ | ⟨j, e, h1, _⟩
    · exact h2
    · rw [hfn] at h1; cases h1
  have hset := (Go.MapKept.heap_set (o' := .map (es.push { key := k, val := v, born := clock }) (clock + 1)) h.heap)
  refine I0 ho hd (w' := { w with heap := w.heap.setIfInBounds m (.map (es.push { key := k, val := v, born := clock }) (clock + 1)) }) (fun o hop => ?_) (next _ ?_)
  · unfold execOp; rw [hop]
    simp only [hx, hix, hy, Instr.mapUpdate, Sem.run_bind, run_underlying hT, Go.MapKept.run_getObj_map h.heap, hck, hfk, Go.MapKept.run_setObj_map _ h.heap, Result.andThen_ok]
    rfl
  · refine hs.set hi (T := [m]) ⟨rfl, rfl, rfl, by simp, fun q _ hq => hset.2 q (by simpa using hq)⟩ (fun k hk => hk) ⟨_, _, hset.1, by rw [Array.toList_push, List.map_append, h.ents]; rfl, stamped_push h.st hne⟩ fun q hq => ⟨.inl hq, ?_⟩
    have := ((hs.own.get hi).2 q hq).2
    simpa using this
theorem Hw {T : TypeId} {x ix : Operand} (ho : B5 (Qd B p) o ρ = some (.lookup T x ix true, dst)) (hd : Uh n dst = true) (hx : opv ρ x = .map (some m)) (hix : opv ρ ix = k)
    (hT : P.underlying T = some (.map kt et)) (hkt : P.underlying kt = some d) (hk : keyB d k = true) (hf : ∃ j, Bt d k L 0 = some (some (j, v))) (h : (Ky m L).ok w)
    (next : K (Rr ρ dst (.tuple #[v, .bool true])) w) : Qh P n B p o K ρ w := by
  obtain ⟨es, clock, h⟩ := h
  obtain ⟨j, hf⟩ := hf
  have hck := run_checkKey (P := P) (w := w) hkt (Hv hk) es.isEmpty 9999
  have hfk := run_findKey (P := P) (w := w) hkt ((Bu es.toList L 0 h.ents).trans hf)
  refine Qh.val ho hd (fun o hop => ?_) next
  unfold execOp; rw [hop]
  simp only [hx, hix, Instr.lookup, Sem.run_bind, run_underlying hT, Go.MapKept.run_getObj_map h.heap, hck, hfk, Result.andThen_ok, Sem.run_pure]
  rfl
theorem Hx {T : TypeId} {x ix : Operand} (ho : B5 (Qd B p) o ρ = some (.lookup T x ix true, dst)) (hd : Uh n dst = true) (hx : opv ρ x = .map (some m)) (hix : opv ρ ix = k)
    (hT : P.underlying T = some (.map kt et)) (hkt : P.underlying kt = some d) (hz : ∀ w, (zeroValue et).run P w = .ok v w) (hk : keyB d k = true) (hf : Bt d k L 0 = some none) (h : (Ky m L).ok w)
    (next : K (Rr ρ dst (.tuple #[v, .bool false])) w) : Qh P n B p o K ρ w := by
  obtain ⟨es, clock, h⟩ := h
  have hck := run_checkKey (P := P) (w := w) hkt (Hv hk) es.isEmpty 9999
  have hfk := run_findKey (P := P) (w := w) hkt ((Bu es.toList L 0 h.ents).trans hf)
  refine Qh.val ho hd (fun o hop => ?_) next
  unfold execOp; rw [hop]
  simp only [hx, hix, Instr.lookup, Sem.run_bind, run_underlying hT, Go.MapKept.run_getObj_map h.heap, hck, hfk, hz, Result.andThen_ok, Sem.run_pure]
  rfl
end
structure IterOk (m b : Nat) (L : KV) (φ : Value × Value → Prop) (q : Nat) (es : Array MapEntry) (clock since : Nat) (seen : Array Nat) (c0 : Nat) (w : World) : Prop where
  tab : TabOk m L es clock w
  it : w.heap[b]? = some (.mapIter (some m) since seen c0)
  old : ∀ x ∈ es.toList, x.born < since
  sc : since ≤ c0
  cl : since ≤ clock
  left : (leftOf es seen).size = q
  came : ∀ e ∈ es.toList, seen.contains e.born = true → φ (e.key, e.val)
def M4 (m b : Nat) (L : KV) (φ : Value × Value → Prop) (q : Nat) : Ent :=
  ⟨[m, b], fun w => ∃ es clock since seen c0, IterOk m b L φ q es clock since seen c0 w, fun w w' hk ⟨es, clock, since, seen, c0, h⟩ => ⟨es, clock, since, seen, c0, ⟨(hk m (by simp)).trans h.tab.heap, h.tab.ents, h.tab.st⟩, (hk b (by simp)).trans h.it, h.old, h.sc, h.cl, h.left, h.came⟩⟩
def iterC (m b : Nat) (L : KV) (φ : Value × Value → Prop) (q : Nat) (x : Value × Value) : Ent :=
  ⟨[m, b], fun w => ∃ (es : Array MapEntry) (clock since : Nat) (seen : Array Nat) (e : MapEntry), IterOk m b L (fun y => y = x ∨ φ y) q es clock since (seen.push e.born) clock w ∧ e ∈ es.toList ∧ (e.key, e.val) = x, fun w w' hk ⟨es, clock, since, seen, e, h, h2⟩ => ⟨es, clock, since, seen, e, ⟨⟨(hk m (by simp)).trans h.tab.heap, h.tab.ents, h.tab.st⟩, (hk b (by simp)).trans h.it, h.old, h.sc, h.cl, h.left, h.came⟩, h2⟩⟩
section
variable {P : Program} {n : Nat} {B : Code} {p : List Bool} {o : Nat} {K : Fr → World → Prop} {ρ : Fr} {w w0 : World} {ens : List Ent} {S : List Nat} {m b q : Nat} {L : KV} {dst : Option Nat} {i : Nat} {kt et : TypeId} {φ : Value × Value → Prop}
theorem Lu (φ : Value × Value → Prop) {T : TypeId} {x : Operand} (ho : B5 (Qd B p) o ρ = some (.range T x, dst)) (hd : Uh n dst = true) (hx : opv ρ x = .map (some m)) (hT : P.underlying T = some (.map kt et))
    (hs : SP S w0 w ens) (hi : ens[i]? = some (Ky m L)) (next : ∀ (b : Nat) (w' : World), SP S w0 w' (ens.set i (M4 m b L φ L.length)) → K (Rr ρ dst (pt b 0)) w') : Qh P n B p o K ρ w := by
  obtain ⟨es, clock, h⟩ := hs.get hi
  have hlt : m < w.heap.size := (Array.getElem?_eq_some_iff.1 h.heap).1
  have hlen : es.size = L.length := by rw [← h.ents]; simp
  refine Qh.val ho hd (w' := w.alloc (.mapIter (some m) clock #[] clock)) (v := pt w.heap.size 0) (fun o hop => ?_) (next w.heap.size _ ?_)
  · unfold execOp; rw [hop]
    simp only [hx, Sem.run_bind, run_range_map w T kt et m es clock hT h.heap, Result.andThen_ok]
    rfl
  · refine hs.set hi (T := []) (Yn ((Below.refl _ _).alloc (Nat.le_refl _) _) []) (by simp) ⟨es, clock, clock, #[], clock, ⟨(Below.heap_alloc _ _ _ hlt).trans h.heap, h.ents, h.st⟩, heap_alloc_new w _, h.st.1, Nat.le_refl _, Nat.le_refl _, ?_, fun e _ he => by simp at he⟩ fun k hk => ?_
    · unfold leftOf
      rw [← hlen]
      congr 1
      exact Array.filter_eq_self.2 (fun x _ => by simp)
    · have hk : k = m ∨ k = w.heap.size := by simpa [M4] using hk
      rcases hk with rfl | rfl
      · exact ⟨.inl (by simp [Ky]), by simp; omega⟩
      · exact ⟨.inr (Nat.le_refl _), by simp⟩
theorem M5 {x : Operand} (ho : B5 (Qd B p) o ρ = some (.next x false, dst)) (hd : Uh n dst = true) (hx : opv ρ x = pt b 0) (hs : SP S w0 w ens) (hi : ens[i]? = some (M4 m b L φ q))
    (next0 : (∀ x ∈ L, φ x) → K (Rr ρ dst (.tuple #[.bool false])) w)
    (next1 : ∀ (x : Value × Value) (q' : Nat) (w' : World), x ∈ L → q' < q → SP S w0 w' (ens.set i (iterC m b L φ q' x)) → K (Rr ρ dst (.tuple #[.bool true, x.1, x.2])) w') : Qh P n B p o K ρ w := by
  obtain ⟨es, clock, since, seen, c0, h⟩ := hs.get hi
  rcases run_next_at (P := P) w 0 b m since c0 seen es clock h.it h.tab.heap h.old h.sc with ⟨h0, hr⟩ | ⟨e, he, w1, hw1, hr⟩
  · refine Qh.val ho hd (fun o hop => ?_) (next0 fun x hxL => ?_)
    · unfold execOp; rw [hop]
      have hr' : ∀ ty, (Instr.next (pt b 0) false ty).run P w = _ := fun ty => hr
      simp only [hx, Sem.run_bind, hr', Result.andThen_ok]
      rfl
    · rw [← h.tab.ents] at hxL
      obtain ⟨e, he, rfl⟩ := List.mem_map.1 hxL
      refine h.came e he ?_
      cases hc : seen.contains e.born with
      | true => rfl
      | false =>
        have : e ∈ leftOf es seen := by
          unfold leftOf
          rw [Array.mem_filter]
          exact ⟨by simpa using he, by rw [hc]; rfl⟩
        have hpos := Array.size_pos_of_mem this
        omega
  · have hml := mem_left he
    have hb1 : Below w.heap.size w w1 := by
      rcases hw1 with rfl | rfl
      · exact Below.refl _ _
      · exact (Below.refl _ _).drew
    have hsz1 : w1.heap.size = w.heap.size := by rcases hw1 with rfl | rfl <;> rfl
    have hh1 : w1.heap = w.heap := by rcases hw1 with rfl | rfl <;> rfl
    have hne : m ≠ b := fun hmb => by
      have h1 := h.tab.heap
      rw [hmb, h.it] at h1
      cases h1
    have hit1 : w1.heap[b]? = some (.mapIter (some m) since seen c0) := by rw [hh1]; exact h.it
    have hset := Go.MapKept.heap_set (o' := .mapIter (some m) since (seen.push e.born) clock) hit1
    have hcl : since ≤ clock := h.cl
    refine Qh.val ho hd (w' := setBlock w1 b (.mapIter (some m) since (seen.push e.born) clock)) (fun o hop => ?_) (next1 (e.key, e.val) (leftOf es (seen.push e.born)).size _ (by rw [← h.tab.ents]; exact List.mem_map.2 ⟨e, hml.1, rfl⟩) (by rw [← h.left]; exact left_shrinks es seen e he) ?_)
    · unfold execOp; rw [hop]
      have hr' : ∀ ty, (Instr.next (pt b 0) false ty).run P w = _ := fun ty => hr
      simp only [hx, Sem.run_bind, hr', Result.andThen_ok]
      rfl
    · refine hs.set hi (T := [b]) ?_ (by simp [M4]) ⟨es, clock, since, seen, e, ⟨⟨(hset.2 m hne).trans (by rw [hh1]; exact h.tab.heap), h.tab.ents, h.tab.st⟩, hset.1, h.old, hcl, hcl, rfl, fun e' he' hc => ?_⟩, hml.1, rfl⟩ fun k (hk : k ∈ [m, b]) => ⟨.inl hk, ?_⟩
      · exact (Yn hb1 [b]).trans ⟨rfl, rfl, rfl, by simp [setBlock], fun k _ hk => hset.2 k (by simpa using hk)⟩
      · rw [contains_push] at hc
        cases hs1 : seen.contains e'.born with
        | true => exact .inr (h.came e' he' hs1)
        | false =>
          rw [hs1, Bool.false_or] at hc
          have hbe : e'.born = e.born := eq_of_beq hc
          left
          have h1 := find_born e es.toList h.tab.st.2.1 hml.1
          have h2 := find_born e' es.toList h.tab.st.2.1 he'
          rw [hbe, h1] at h2
          injection h2 with h2
          rw [h2]
      · have := ((hs.own.get hi).2 k hk).2
        show k < (w1.heap.setIfInBounds b _).size
        rw [Array.size_setIfInBounds]
        omega
theorem Lv {x : Operand} {y : Value × Value} (ho : B5 (Qd B p) o ρ = some (.entry x, dst)) (hd : Uh n dst = true) (hx : opv ρ x = pt b 0) (h : (iterC m b L φ q y).ok w)
    (next : K (Rr ρ dst (.tuple #[y.1, y.2])) w) : Qh P n B p o K ρ w := by
  obtain ⟨es, clock, since, seen, e, h, he, rfl⟩ := h
  have hr := run_entry_at (P := P) w b m since seen es clock e h.it h.tab.heap he h.tab.st.2.1
  refine Qh.val ho hd (fun o hop => ?_) next
  unfold execOp; rw [hop]
  simp only [hx, Sem.run_bind, hr, Result.andThen_ok]
  rfl
theorem SP.tback {y : Value × Value} (h : SP S w0 w ens) (hi : ens[i]? = some (iterC m b L φ q y)) (hy : φ y) : SP S w0 w (ens.set i (M4 m b L φ q)) := by
  obtain ⟨es, clock, since, seen, e, h1, he, hey⟩ := h.get hi
  exact h.turnE hi ⟨es, clock, since, _, clock, ⟨h1.tab, h1.it, h1.old, h1.sc, h1.cl, h1.left, fun e' he' hc => (h1.came e' he' hc).elim (fun hh => by rw [hh]; exact hy) id⟩⟩ fun k hk => hk
end
end Go.Proofs.YtoflbpmbkmephaaGreatDoor
namespace Go.Proofs.YtoflbpmbkmephaaGreatDoor
open Go.RowKit
def Z1 (n : Int) : List UInt8 := cond (n == 1) [99, 111, 110, 110, 101, 99, 116] (cond (n == 2) [98, 121, 116, 101, 115] (cond (n == 3) [98, 117, 100, 103, 101, 116] (cond (n == 4) [104, 97, 108, 102] (cond (n == 5) [114, 101, 115, 101, 116] (cond (n == 6) [116, 105, 99, 107] (cond (n == 7) [114, 101, 118, 111, 107, 101] (cond (n == 8) [101, 118, 105, 99, 116] [100, 114, 97, 105, 110])))))))
def Dm (n : Int) : FuncId := cond (n == 1) 112 (cond (n == 2) 116 (cond (n == 3) 118 (cond (n == 4) 120 (cond (n == 5) 122 (cond (n == 6) 124 (cond (n == 7) 126 (cond (n == 8) 130 132)))))))
def Dn (n : Int) : FuncId := cond (n == 1) 113 (cond (n == 2) 117 (cond (n == 3) 119 (cond (n == 4) 121 (cond (n == 5) 123 (cond (n == 6) 125 (cond (n == 7) 128 (cond (n == 8) 131 133)))))))
def kin (n : Int) : Bool := decide (1 ≤ n) && decide (n ≤ 9)
def Kz (n : Int) : Value := .agg #[.string ⟨List.toArray (Z1 n)⟩, .func (.func (Dm n)) #[] #[], .func (.func (Dn n)) #[] #[]]
def F7 : KV := [(.int .i64 1, Kz 1), (.int .i64 2, Kz 2), (.int .i64 3, Kz 3), (.int .i64 4, Kz 4), (.int .i64 5, Kz 5), (.int .i64 6, Kz 6), (.int .i64 7, Kz 7), (.int .i64 8, Kz 8), (.int .i64 9, Kz 9)]
def Hy (w : List UInt8) : Option Int := ([1, 2, 3, 4, 5, 6, 7, 8, 9] : List Int).find? (fun n => Z1 n == w)
def kne (w : List UInt8) (x : Value × Value) : Prop := ∀ n : Int, kin n = true → x = (.int .i64 n, Kz n) → (Z1 n == w) = false
theorem Do {n : Int} (h : kin n = true) : n = 1 ∨ n = 2 ∨ n = 3 ∨ n = 4 ∨ n = 5 ∨ n = 6 ∨ n = 7 ∨ n = 8 ∨ n = 9 := by
  unfold kin at h
  rw [Bool.and_eq_true, decide_eq_true_eq, decide_eq_true_eq] at h
  omega
theorem ktab_in {n : Int} (h : kin n = true) : ∃ j, Bt (.int .i64) (.int .i64 n) F7 0 = some (some (j, Kz n)) := by
  rcases Do h with rfl | rfl | rfl | rfl | rfl | rfl | rfl | rfl | rfl
  · exact ⟨0, by kernel_rfl⟩
  · exact ⟨1, by kernel_rfl⟩
  · exact ⟨2, by kernel_rfl⟩
  · exact ⟨3, by kernel_rfl⟩
  · exact ⟨4, by kernel_rfl⟩
  · exact ⟨5, by kernel_rfl⟩
  · exact ⟨6, by kernel_rfl⟩
  · exact ⟨7, by kernel_rfl⟩
  · exact ⟨8, by kernel_rfl⟩
theorem Mi {n : Int} (h : kin n = false) : Bt (.int .i64) (.int .i64 n) F7 0 = some none := by
  have hn : ∀ k : Int, 1 ≤ k → k ≤ 9 → (n == k) = false := fun k h1 h2 => by
    rw [beq_eq_false_iff_ne]
    rintro rfl
    unfold kin at h
    rw [decide_eq_true h1, decide_eq_true h2] at h
    cases h
  simp only [F7, Bt, Instr.sameNow, if_true, hn 1 (by decide) (by decide), hn 2 (by decide) (by decide), hn 3 (by decide) (by decide), hn 4 (by decide) (by decide), hn 5 (by decide) (by decide), hn 6 (by decide) (by decide), hn 7 (by decide) (by decide), hn 8 (by decide) (by decide), hn 9 (by decide) (by decide)]
theorem ktab_mem {x : Value × Value} (h : x ∈ F7) : ∃ n : Int, kin n = true ∧ x = (.int .i64 n, Kz n) := by
  simp only [F7, List.mem_cons, List.not_mem_nil, or_false] at h
  rcases h with rfl | rfl | rfl | rfl | rfl | rfl | rfl | rfl | rfl
  · exact ⟨1, rfl, rfl⟩
  · exact ⟨2, rfl, rfl⟩
  · exact ⟨3, rfl, rfl⟩
  · exact ⟨4, rfl, rfl⟩
  · exact ⟨5, rfl, rfl⟩
  · exact ⟨6, rfl, rfl⟩
  · exact ⟨7, rfl, rfl⟩
  · exact ⟨8, rfl, rfl⟩
  · exact ⟨9, rfl, rfl⟩
theorem Lw {n : Int} (h : n ∈ ([1, 2, 3, 4, 5, 6, 7, 8, 9] : List Int)) : kin n = true ∧ (.int .i64 n, Kz n) ∈ F7 := by
  simp only [List.mem_cons, List.not_mem_nil, or_false] at h
  rcases h with rfl | rfl | rfl | rfl | rfl | rfl | rfl | rfl | rfl <;> exact ⟨rfl, by simp [F7]⟩
theorem ktab_none {w : List UInt8} (h : ∀ x ∈ F7, kne w x) : Hy w = none := by
  unfold Hy
  rw [List.find?_eq_none]
  intro n hn
  obtain ⟨h1, h2⟩ := Lw hn
  rw [h _ h2 n h1 rfl]
  decide
theorem Gb {n : Int} (h : kin n = true) : Hy (Z1 n) = some n := by
  rcases Do h with rfl | rfl | rfl | rfl | rfl | rfl | rfl | rfl | rfl <;> rfl
theorem ktab_hit {n : Int} {w : List UInt8} (h : kin n = true) (hb : (!(Z1 n == w)) = false) : Hy w = some n := by
  have : Z1 n = w := by
    cases hq : (Z1 n == w) with
    | true => exact eq_of_beq hq
    | false => rw [hq] at hb; cases hb
  rw [← this]
  exact Gb h
theorem kne_of {n : Int} {w : List UInt8} (h : kin n = true) (hb : (!(Z1 n == w)) = true) : kne w (.int .i64 n, Kz n) := by
  intro m hm he
  injection he with h1 _
  injection h1 with _ h1
  subst h1
  cases hq : (Z1 n == w) with
  | false => rfl
  | true => rw [hq] at hb; cases hb
theorem M6 (n : Int) (args : Array Value) (w : World) : (callFunc (Dm n) args).run Tryz.prog w = .ok (.enter (Dm n) args) w := by
  unfold Dm
  cases (n == 1)
  · cases (n == 2)
    · cases (n == 3)
      · cases (n == 4)
        · cases (n == 5)
          · cases (n == 6)
            · cases (n == 7)
              · cases (n == 8)
                · exact Tryz.call132 args w
                · exact Tryz.call130 args w
              · exact Tryz.call126 args w
            · exact Tryz.call124 args w
          · exact Tryz.call122 args w
        · exact Tryz.call120 args w
      · exact Tryz.call118 args w
    · exact Tryz.call116 args w
  · exact Tryz.call112 args w
theorem M7 (n : Int) (args : Array Value) (w : World) : (callFunc (Dn n) args).run Tryz.prog w = .ok (.enter (Dn n) args) w := by
  unfold Dn
  cases (n == 1)
  · cases (n == 2)
    · cases (n == 3)
      · cases (n == 4)
        · cases (n == 5)
          · cases (n == 6)
            · cases (n == 7)
              · cases (n == 8)
                · exact Tryz.call133 args w
                · exact Tryz.call131 args w
              · exact Tryz.call128 args w
            · exact Tryz.call125 args w
          · exact Tryz.call123 args w
        · exact Tryz.call121 args w
      · exact Tryz.call119 args w
    · exact Tryz.call117 args w
  · exact Tryz.call113 args w
abbrev Str := List UInt8
def Mj (n : Int) (q : List Str) (b : Bool) (e1 e2 e3 : Int) (e4 : Str) (e5 : Int) (e6 e7 e8 : Str) : Option (List Str × Bool) :=
  cond (n == 1) (Nz q b e1 e2 e3 e4 e5 e6 e7 e8) (cond (n == 2) (N1 q b e1 e2 e3 e4 e5 e6 e7 e8) (cond (n == 3) (N3 q b e1 e2 e3 e4 e5 e6 e7 e8) (cond (n == 4) (N5 q b e1 e2 e3 e4 e5 e6 e7 e8) (cond (n == 5) (N7 q b e1 e2 e3 e4 e5 e6 e7 e8)
    (cond (n == 6) (U9 q b e1 e2 e3 e4 e5 e6 e7 e8) (cond (n == 7) (Nb q b e1 e2 e3 e4 e5 e6 e7 e8) (cond (n == 8) (Nd q b e1 e2 e3 e4 e5 e6 e7 e8) (some (q, b)))))))))
theorem Lx (n : Int) {S : List Nat} (g1 : Nat) (A3 : Option Addr) (c4 : Nat) (q : List Str) (b : Bool) (e1 e2 e3 : Int) (e4 : Str) (e5 : Int) (e6 e7 e8 : Str) (w0 : World) (hL : ∀ w, Mod S w0 w → Gu w)
    (hO : SP S w0 w0 [Qk g1 133 #[(.slice A3 (List.length q) c4), (.bool b)], Vu 9 Qn A3 c4 q]) (r : List Str × Bool) (H : Mj n q b e1 e2 e3 e4 e5 e6 e7 e8 = some r) :
    Calls Tryz.prog (Dm n) #[(.pointer (some ⟨g1, 0, none⟩)), (.agg #[(.int .i64 e1), (.int .i64 e2), (.int .u32 e3), (.string ⟨List.toArray e4⟩), (.int .i64 e5), (.string ⟨List.toArray e6⟩), (.string ⟨List.toArray e7⟩), (.string ⟨List.toArray e8⟩)])] w0
      (fun e w' => ∃ (A : Option Addr) (c : Nat), e = .returned (.tuple #[]) ∧ SP S w0 w' [Qk g1 133 #[(.slice A (List.length r.1) c), (.bool r.2)], Vu 9 Qn A c r.1]) := by
  unfold Mj at H
  unfold Dm
  cases h1 : (n == 1) <;> rw [h1] at H
  · cases h2 : (n == 2) <;> rw [h2] at H
    · cases h3 : (n == 3) <;> rw [h3] at H
      · cases h4 : (n == 4) <;> rw [h4] at H
        · cases h5 : (n == 5) <;> rw [h5] at H
          · cases h6 : (n == 6) <;> rw [h6] at H
            · cases h7 : (n == 7) <;> rw [h7] at H
              · cases h8 : (n == 8) <;> rw [h8] at H
                · injection H with H
                  subst H
                  exact Ch g1 A3 c4 q b e1 e2 e3 e4 e5 e6 e7 e8 w0 hO () rfl
                · exact Cf g1 A3 c4 q b e1 e2 e3 e4 e5 e6 e7 e8 w0 hO r H
              · exact Cd g1 A3 c4 q b e1 e2 e3 e4 e5 e6 e7 e8 w0 hO r H
            · exact Cb g1 A3 c4 q b e1 e2 e3 e4 e5 e6 e7 e8 w0 hL hO r H
          · exact C3 g1 A3 c4 q b e1 e2 e3 e4 e5 e6 e7 e8 w0 hL hO r H
        · exact C1 g1 A3 c4 q b e1 e2 e3 e4 e5 e6 e7 e8 w0 hL hO r H
      · exact Cz g1 A3 c4 q b e1 e2 e3 e4 e5 e6 e7 e8 w0 hL hO r H
    · exact Cx g1 A3 c4 q b e1 e2 e3 e4 e5 e6 e7 e8 w0 hL hO r H
  · exact Cv g1 A3 c4 q b e1 e2 e3 e4 e5 e6 e7 e8 w0 hL hO r H
abbrev EvL := Int × Int × Int × Str × Int × Str × Str × Str
def K0 (n : Int) (q : List Str) (b : Bool) (e1 e2 e3 : Int) (e4 : Str) (e5 : Int) (e6 e7 e8 : Str) : Option (List Str × Bool × EvL) :=
  cond (n == 1) (N0 q b e1 e2 e3 e4 e5 e6 e7 e8) (cond (n == 2) (N2 q b e1 e2 e3 e4 e5 e6 e7 e8) (cond (n == 3) (N4 q b e1 e2 e3 e4 e5 e6 e7 e8) (cond (n == 4) (N6 q b e1 e2 e3 e4 e5 e6 e7 e8) (cond (n == 5) (U8 q b e1 e2 e3 e4 e5 e6 e7 e8)
    (cond (n == 6) (Na q b e1 e2 e3 e4 e5 e6 e7 e8) (cond (n == 7) (Nc q b e1 e2 e3 e4 e5 e6 e7 e8) (cond (n == 8) (Nf q b e1 e2 e3 e4 e5 e6 e7 e8) (some (q, b, e1, e2, e3, e4, e5, e6, e7, e8)))))))))
theorem Ly (n : Int) {S : List Nat} (g1 : Nat) (A3 : Option Addr) (c4 : Nat) (g6 : Nat) (q : List Str) (b : Bool) (e1 e2 e3 : Int) (e4 : Str) (e5 : Int) (e6 e7 e8 : Str) (w0 : World) (hL : ∀ w, Mod S w0 w → Gu w)
    (hO : SP S w0 w0 [Qk g1 112 #[(.slice A3 (List.length q) c4), (.bool b)], rdE Qn A3 c4 q, Qk g6 52 #[(.int .i64 e1), (.int .i64 e2), (.int .u32 e3), (.string ⟨List.toArray e4⟩), (.int .i64 e5), (.string ⟨List.toArray e6⟩), (.string ⟨List.toArray e7⟩), (.string ⟨List.toArray e8⟩)]]) (r : List Str × Bool × EvL) (H : K0 n q b e1 e2 e3 e4 e5 e6 e7 e8 = some r) :
    Calls Tryz.prog (Dn n) #[(.pointer (some ⟨g1, 0, none⟩)), (.pointer (some ⟨g6, 0, none⟩))] w0
      (fun e w' => ∃ (A : Option Addr) (c : Nat), e = .returned (.tuple #[]) ∧ SP S w0 w' [Qk g1 112 #[(.slice A (List.length r.1) c), (.bool r.2.1)], rdE Qn A c r.1, Qk g6 52 #[(.int .i64 r.2.2.1), (.int .i64 r.2.2.2.1), (.int .u32 r.2.2.2.2.1), (.string ⟨List.toArray r.2.2.2.2.2.1⟩), (.int .i64 r.2.2.2.2.2.2.1), (.string ⟨List.toArray r.2.2.2.2.2.2.2.1⟩), (.string ⟨List.toArray r.2.2.2.2.2.2.2.2.1⟩), (.string ⟨List.toArray r.2.2.2.2.2.2.2.2.2⟩)]]) := by
  unfold K0 at H
  unfold Dn
  cases h1 : (n == 1) <;> rw [h1] at H
  · cases h2 : (n == 2) <;> rw [h2] at H
    · cases h3 : (n == 3) <;> rw [h3] at H
      · cases h4 : (n == 4) <;> rw [h4] at H
        · cases h5 : (n == 5) <;> rw [h5] at H
          · cases h6 : (n == 6) <;> rw [h6] at H
            · cases h7 : (n == 7) <;> rw [h7] at H
              · cases h8 : (n == 8) <;> rw [h8] at H
                · injection H with H
                  subst H
                  exact Ci g1 A3 c4 g6 q b e1 e2 e3 e4 e5 e6 e7 e8 w0 hO () rfl
                · exact Cg g1 A3 c4 g6 q b e1 e2 e3 e4 e5 e6 e7 e8 w0 hO r H
              · exact Ce g1 A3 c4 g6 q b e1 e2 e3 e4 e5 e6 e7 e8 w0 hO r H
            · exact Cc g1 A3 c4 g6 q b e1 e2 e3 e4 e5 e6 e7 e8 w0 hL hO r H
          · exact Ca g1 A3 c4 g6 q b e1 e2 e3 e4 e5 e6 e7 e8 w0 hL hO r H
        · exact C2 g1 A3 c4 g6 q b e1 e2 e3 e4 e5 e6 e7 e8 w0 hL hO r H
      · exact C0 g1 A3 c4 g6 q b e1 e2 e3 e4 e5 e6 e7 e8 w0 hL hO r H
    · exact Cy g1 A3 c4 g6 q b e1 e2 e3 e4 e5 e6 e7 e8 w0 hL hO r H
  · exact Cw g1 A3 c4 g6 q b e1 e2 e3 e4 e5 e6 e7 e8 w0 hL hO r H
end Go.Proofs.YtoflbpmbkmephaaGreatDoor
