/- Walks of wire: Put. -/
import Derived.Test.YtjpchjbbfbmjgaaWireA
import Derived.Test.YtjpchjbbfbmjgaaRefA
import Derived.Test.YtjpchjbbfbmjgaaFacts
namespace Go.Proofs.Ytjpchjbbfbmjgaa
set_option linter.unusedSimpArgs false
set_option linter.unusedVariables false
open Go.RowKit
/-- all that was there is there -/
def Keeps (w w' : World) : Prop := Below w.heap.size w w'
theorem Keeps.refl (w : World) : Keeps w w := Below.refl _ _
theorem Keeps.trans {a b c : World} (h : Keeps a b) (k : Keeps b c) : Keeps a c := Below.trans h (Below.mono k h.size)
theorem Keeps.szd {w w' : World} (h : Keeps w.drew w') : w.heap.size ≤ w'.heap.size := h.size
/-- a slice of bytes that reads so, its block from B on -/
def IsBytes (B : Nat) (w : World) (v : Value) (l : List UInt8) : Prop := ∃ A n c, v = .slice A n c ∧ Rd w A n c l ∧ ∀ b off, A = some ⟨b, off, none⟩ → B ≤ b
theorem IsBytes.keeps {B : Nat} {w w' : World} {v : Value} {l : List UInt8} (h : IsBytes B w v l) (k : Keeps w w') : IsBytes B w' v l := by
  obtain ⟨A, n, c, hv, hr, hb⟩ := h
  exact ⟨A, n, c, hv, hr.below k, hb⟩
/-- a row of four slices of bytes -/
def IsParts (B : Nat) (w : World) (v : Value) (l0 l1 l2 l3 : List UInt8) : Prop :=
  ∃ g v0 v1 v2 v3, v = .slice (some ⟨g, 0, none⟩) 4 4 ∧ B ≤ g ∧ w.heap[g]? = some (.cells #[v0, v1, v2, v3] 24 (0, 0)) ∧ IsBytes B w v0 l0 ∧ IsBytes B w v1 l1 ∧ IsBytes B w v2 l2 ∧ IsBytes B w v3 l3
theorem lt_of_heap {w : World} {g : Nat} {o : Obj} (h : w.heap[g]? = some o) : g < w.heap.size := (Array.getElem?_eq_some_iff.1 h).1
theorem IsParts.keeps {B : Nat} {w w' : World} {v : Value} {l0 l1 l2 l3 : List UInt8} (h : IsParts B w v l0 l1 l2 l3) (k : Keeps w w') : IsParts B w' v l0 l1 l2 l3 := by
  obtain ⟨g, v0, v1, v2, v3, hv, hB, hg, h0, h1, h2, h3⟩ := h
  exact ⟨g, v0, v1, v2, v3, hv, hB, (k.block g (lt_of_heap hg)).trans hg, h0.keeps k, h1.keeps k, h2.keeps k, h3.keeps k⟩
def putRegion (B g : Nat) (a b : ByteArray) (n m : Int) : Nat → Value → World → Prop
  | 0 => fun v _ => v = .pointer (some ⟨g, 1, none⟩)
  | 1 => fun v _ => v = .string a
  | 2 => fun v w => IsBytes B w v (textL a.data.toList)
  | 3 => fun v _ => v = .pointer (some ⟨g, 2, none⟩)
  | 4 => fun v _ => v = .string b
  | 5 => fun v w => IsBytes B w v (textL b.data.toList)
  | 6 => fun v _ => v = .pointer (some ⟨g, 3, none⟩)
  | 7 => fun v _ => v = .int .i64 n
  | 8 => fun v w => IsBytes B w v (putL n)
  | 9 => fun v _ => v = .pointer (some ⟨g, 4, none⟩)
  | 10 => fun v _ => v = .int .i64 m
  | 11 => fun v w => IsBytes B w v (putL m)
  | _ => fun v w => IsParts B w v (textL a.data.toList) (textL b.data.toList) (putL n) (putL m)
theorem putRegion_keeps (B g : Nat) (a b : ByteArray) (n m : Int) (j : Nat) (v : Value) (w w' : World) (h : putRegion B g a b n m j v w) (k : Keeps w w') : putRegion B g a b n m j v w' := by
  unfold putRegion at h ⊢
  split at h <;> first | exact h | exact h.keeps k
theorem Ow.isBytes {w : World} {B C : Nat} {v : Value} {l : List UInt8} (h : Ow w B v l) (hC : C ≤ B) : IsBytes C w v l := by
  obtain ⟨A, c, hv⟩ := h.shape
  subst hv
  refine ⟨A, _, c, rfl, h.rd.1, fun b off hA => ?_⟩
  subst hA
  exact Nat.le_trans hC (h.lt b rfl).1
theorem RetOw.bytes {w : World} {l : List UInt8} {e : Ending} {w' : World} {C : Nat} (h : RetOw w l e w') (hC : C ≤ w.heap.size) : ∃ v, e = .returned v ∧ Keeps w w' ∧ IsBytes C w' v l := by
  obtain ⟨v, he, ho, hb⟩ := h
  exact ⟨v, he, hb, ho.isBytes hC⟩
theorem mod_grown {ws wr w6 : World} {S : List Nat} {v : Value} (h : Mod S ws wr) (hg : wr.grownBy w6 v.ownBlock) (hv : ∀ q, v.ownBlock = some q → q ∈ S ∨ ws.heap.size ≤ q) : Mod S ws w6 :=
  ⟨hg.os.trans h.os, hg.tape.trans h.tape, hg.output.trans h.output, Nat.le_trans h.size hg.size, fun i hi hn => (hg.block i (Nat.lt_of_lt_of_le hi h.size) (fun e => by
    rcases hv i e.symm with h' | h'
    · exact hn h'
    · omega)).trans (h.block i hi hn)⟩
/-- the kind, and the first j parts that are there -/
def partsL (k : Int) (a b : ByteArray) (n m : Int) (j : Nat) : List UInt8 :=
  UInt8.ofNat k.toNat :: ([putT (hasA k) a, putT (hasB k) b, putI (hasN k) n, putI (hasM k) m].take j).flatten
theorem bit0 (k : Int) (hk : isKind k = true) : (bits BinOp.and IntKind.i64 (kbits k) 1 == 1) = hasA k := by
  unfold hasA
  rcases kbits_cases k with ⟨h, e⟩ | ⟨h, e⟩
  · simp [isKind] at hk; omega
  · simp only [List.mem_cons, List.not_mem_nil, or_false] at e
    rcases e with e | e | e | e | e | e | e <;> rw [e] <;> rfl
theorem bit1 (k : Int) (hk : isKind k = true) : (bits BinOp.and IntKind.i64 (kbits k / 2) 1 == 1) = hasB k := by
  unfold hasB
  rcases kbits_cases k with ⟨h, e⟩ | ⟨h, e⟩
  · simp [isKind] at hk; omega
  · simp only [List.mem_cons, List.not_mem_nil, or_false] at e
    rcases e with e | e | e | e | e | e | e <;> rw [e] <;> rfl
theorem bit2 (k : Int) (hk : isKind k = true) : (bits BinOp.and IntKind.i64 (kbits k / 4) 1 == 1) = hasN k := by
  unfold hasN
  rcases kbits_cases k with ⟨h, e⟩ | ⟨h, e⟩
  · simp [isKind] at hk; omega
  · simp only [List.mem_cons, List.not_mem_nil, or_false] at e
    rcases e with e | e | e | e | e | e | e <;> rw [e] <;> rfl
theorem bit3 (k : Int) (hk : isKind k = true) : (bits BinOp.and IntKind.i64 (kbits k / 8) 1 == 1) = hasM k := by
  unfold hasM
  rcases kbits_cases k with ⟨h, e⟩ | ⟨h, e⟩
  · simp [isKind] at hk; omega
  · simp only [List.mem_cons, List.not_mem_nil, or_false] at e
    rcases e with e | e | e | e | e | e | e <;> rw [e] <;> rfl
theorem partsL_yes {k : Int} {a b : ByteArray} {n m : Int} {j : Nat} {x : List UInt8} (h : [putT (hasA k) a, putT (hasB k) b, putI (hasN k) n, putI (hasM k) m][j]? = some x) : partsL k a b n m (j + 1) = partsL k a b n m j ++ x := by
  unfold partsL
  rw [List.take_add_one, h]
  simp
theorem right_parts {k : Int} {a b : ByteArray} {n m : Int} (h : rightB k a b n m = true) : isKind k = true ∧ 1 ≤ k ∧ k ≤ 14 ∧ a.size ≤ 64 ∧ b.size ≤ 64 := by
  simp only [rightB, Bool.and_eq_true] at h
  obtain ⟨h1, h2, h3, _⟩ := h
  simp [wordB] at h2 h3
  simp [isKind] at h1
  exact ⟨by simp [isKind]; omega, by omega, by omega, h2.1, h3.1⟩
theorem partsL_end {k : Int} {a b : ByteArray} {n m : Int} (h : rightB k a b n m = true) : partsL k a b n m 4 = wputL k a b n m := by
  unfold partsL wputL
  rw [h]
  simp
theorem textL_length_le (s : ByteArray) (h : s.size ≤ 64) : (textL s.data.toList).length ≤ 65 := by
  have : s.data.toList.length = s.size := by rw [Array.length_toList]; rfl
  unfold textL
  rw [if_neg (by omega)]
  simp only [List.length_cons]
  omega
theorem putL_length_le (n : Int) : (putL n).length ≤ 7 := by
  unfold putL
  split
  · exact putN_length_le _
  · simp
theorem partsL_length {k : Int} {a b : ByteArray} {n m : Int} (ha : a.size ≤ 64) (hb : b.size ≤ 64) (j : Nat) : (partsL k a b n m j).length ≤ 145 := by
  have h1 := textL_length_le a ha
  have h2 := textL_length_le b hb
  have h3 := putL_length_le n
  have h4 := putL_length_le m
  have g1 : (putT (hasA k) a).length ≤ 65 := by unfold putT; split <;> simp_all
  have g2 : (putT (hasB k) b).length ≤ 65 := by unfold putT; split <;> simp_all
  have g3 : (putI (hasN k) n).length ≤ 7 := by unfold putI; split <;> simp_all
  have g4 : (putI (hasM k) m).length ≤ 7 := by unfold putI; split <;> simp_all
  unfold partsL
  match j with
  | 0 => simp
  | 1 => simp; omega
  | 2 => simp; omega
  | 3 => simp; omega
  | j + 4 => simp; omega
set_option maxRecDepth 100000 in
set_option maxHeartbeats 1000000 in
theorem wput_any (k n m : Int) (a b : ByteArray) (w : World) (ha : a.size ≤ maxLen) (hb : b.size ≤ maxLen) :
    Calls Try.prog 15 #[msgV k a b n m] w (RetOw w (wputL k a b n m)) := by
  unfold msgV
  cases hr : rightB k a b n m with
  | false =>
    have hp : wputL k a b n m = [] := by unfold wputL; rw [hr]; rfl
    rw [hp]
    have HR := Lib.hid hr
    clear hp hr
    go_enter Try.func15, Try.ntmps15
    go_wp2_with (go_at_call 13; refine (right_any _ _ _ _ _ _ ha hb).mono ?_; rintro e w1 ⟨rfl, hb1⟩; rw [HR.out]; obtain ⟨hc, hf⟩ := bcell hb1; have hz := hb1.size)
    go_ret
    exact RetOw.mk (Ow.nil _ _) (((Below.refl _ _).alloc (Nat.le_refl _) _).trans (Below.mono (by assumption) (by simp)))
  | true =>
    have HR := Lib.hid hr
    clear hr
    go_enter Try.func15, Try.ntmps15
    go_wp2_with (go_at_call 13; refine (right_any _ _ _ _ _ _ ha hb).mono ?_; rintro e w1 ⟨rfl, hb1⟩; rw [HR.out]; obtain ⟨hc, hf⟩ := bcell hb1; have hz := hb1.size)
    have hblk1 : w1.heap[w.heap.size]? = some (.cells #[.int .i64 k, .string a, .string b, .int .i64 n, .int .i64 m] 23 (0, 0)) := (Below.block ‹_› _ (by simp)).trans (heap_alloc_new w _)
    have hblk : (w1.alloc (Obj.cells #[Value.int IntKind.u8 (k % 256)] 5)).heap[w.heap.size]? = some (.cells #[.int .i64 k, .string a, .string b, .int .i64 n, .int .i64 m] 23 (0, 0)) :=
      (Below.heap_alloc _ _ _ (lt_of_heap hblk1)).trans hblk1
    have hparts := right_parts HR.out
    have hown0 : Ow (w1.alloc (Obj.cells #[Value.int IntKind.u8 (k % 256)] 5)) w.heap.size (.slice (some ⟨w1.heap.size, 0, none⟩) 1 1) [UInt8.ofNat k.toNat] := by
      refine Ow.lit w1 _ [UInt8.ofNat k.toNat] (Nat.le_of_lt (lt_of_heap hblk1)) (by simp [maxLen]) ?_
      have : k % 256 = ((UInt8.ofNat k.toNat).toNat : Int) := by simp; omega
      simp [bV, this]
    have hkeep : Below w.heap.size w (w1.alloc (Obj.cells #[Value.int IntKind.u8 (k % 256)] 5)) :=
      (((Below.refl _ _).alloc (Nat.le_refl _) _).trans (Below.mono ‹_› (by simp))).alloc (Nat.le_of_lt (lt_of_heap hblk1)) _
    have hsz1 : w.heap.size < w1.heap.size := lt_of_heap hblk1
    have hsz2 : w1.heap.size < (w1.alloc (Obj.cells #[Value.int IntKind.u8 (k % 256)] 5)).heap.size := by simp
    generalize w1.alloc (Obj.cells #[Value.int IntKind.u8 (k % 256)] 5) = w2 at *
    generalize w1.heap.size = o1 at *
    have hlt := lt_of_heap hblk
    have hcell : ∀ wr : World, Keeps w2.drew wr → ∀ (j : Nat) (v : Value), (#[.int .i64 k, .string a, .string b, .int .i64 n, .int .i64 m] : Array Value)[j]? = some v → wr.cell? ⟨w.heap.size, j, none⟩ = some v := fun wr hk j v hv => by
      rw [cell_of_row wr w.heap.size j _ _ _ ((Below.block hk _ hlt).trans hblk)]
      exact hv
    clear hc hf hz hblk1
    refine wp_region_facts3 (by kernel_rfl) (by kernel_rfl) (by kernel_rfl) Keeps (putRegion w2.heap.size w.heap.size a b n m) (Keeps.refl _) (fun _ _ _ => Keeps.trans) (putRegion_keeps _ _ _ _ _ _) ?_ ?_
    · refine ⟨?_, ?_, ?_, ?_, ?_, ?_, ?_, ?_, ?_, ?_, ?_, ?_, ?_, ?_, trivial⟩
      · intro f wr hk hs hah hi
        have e1 : f.eval (.tmp 1) = .pointer (some ⟨w.heap.size, 0, none⟩) := hs 1 (by simp [Still])
        refine puts_run hi (.inl rfl) (v := .pointer (some ⟨w.heap.size, 1, none⟩)) (w' := wr) ?_ (Keeps.refl _) rfl
        clear hs hah hi
        generalize f.eval = ρ at *
        go_simp
      · intro f wr hk hs hah hi
        have r0 := ahead_get hah 0 .data (by simp) rfl rfl rfl
        have e14 : f.eval (.tmp 14) = .pointer (some ⟨w.heap.size, 1, none⟩) := r0
        have c1 := hcell wr hk 1 _ rfl
        refine puts_run hi (.inl rfl) (v := .string a) (w' := wr) ?_ (Keeps.refl _) rfl
        clear hs hah hi
        generalize f.eval = ρ at *
        go_simp
      · intro f wr hk hs hah hi
        have r1 := ahead_get hah 1 .data (by simp) rfl rfl rfl
        have e15 : f.eval (.tmp 15) = .string a := r1
        have qf : ∀ k, f.eval (.func k) = .func (.func k) #[] #[] := fun _ => rfl
        refine puts_call hi (.inl rfl) (f := 32) (args := #[.string a]) ?_ ((text_any a _ ha).mono fun e w' h => h.bytes hk.szd)
        clear hs hah hi
        generalize f.eval = ρ at *
        go_simp
      · intro f wr hk hs hah hi
        have e1 : f.eval (.tmp 1) = .pointer (some ⟨w.heap.size, 0, none⟩) := hs 1 (by simp [Still])
        refine puts_run hi (.inl rfl) (v := .pointer (some ⟨w.heap.size, 2, none⟩)) (w' := wr) ?_ (Keeps.refl _) rfl
        clear hs hah hi
        generalize f.eval = ρ at *
        go_simp
      · intro f wr hk hs hah hi
        have r3 := ahead_get hah 3 .data (by simp) rfl rfl rfl
        have e17 : f.eval (.tmp 17) = .pointer (some ⟨w.heap.size, 2, none⟩) := r3
        have c1 := hcell wr hk 2 _ rfl
        refine puts_run hi (.inl rfl) (v := .string b) (w' := wr) ?_ (Keeps.refl _) rfl
        clear hs hah hi
        generalize f.eval = ρ at *
        go_simp
      · intro f wr hk hs hah hi
        have r4 := ahead_get hah 4 .data (by simp) rfl rfl rfl
        have e18 : f.eval (.tmp 18) = .string b := r4
        have qf : ∀ k, f.eval (.func k) = .func (.func k) #[] #[] := fun _ => rfl
        refine puts_call hi (.inl rfl) (f := 32) (args := #[.string b]) ?_ ((text_any b _ hb).mono fun e w' h => h.bytes hk.szd)
        clear hs hah hi
        generalize f.eval = ρ at *
        go_simp
      · intro f wr hk hs hah hi
        have e1 : f.eval (.tmp 1) = .pointer (some ⟨w.heap.size, 0, none⟩) := hs 1 (by simp [Still])
        refine puts_run hi (.inl rfl) (v := .pointer (some ⟨w.heap.size, 3, none⟩)) (w' := wr) ?_ (Keeps.refl _) rfl
        clear hs hah hi
        generalize f.eval = ρ at *
        go_simp
      · intro f wr hk hs hah hi
        have r6 := ahead_get hah 6 .data (by simp) rfl rfl rfl
        have e20 : f.eval (.tmp 20) = .pointer (some ⟨w.heap.size, 3, none⟩) := r6
        have c1 := hcell wr hk 3 _ rfl
        refine puts_run hi (.inl rfl) (v := .int .i64 n) (w' := wr) ?_ (Keeps.refl _) rfl
        clear hs hah hi
        generalize f.eval = ρ at *
        go_simp
      · intro f wr hk hs hah hi
        have r7 := ahead_get hah 7 .data (by simp) rfl rfl rfl
        have e21 : f.eval (.tmp 21) = .int .i64 n := r7
        have qf : ∀ k, f.eval (.func k) = .func (.func k) #[] #[] := fun _ => rfl
        refine puts_call hi (.inl rfl) (f := 33) (args := #[.int .i64 n]) ?_ ((put_any n _).mono fun e w' h => h.bytes hk.szd)
        clear hs hah hi
        generalize f.eval = ρ at *
        go_simp
      · intro f wr hk hs hah hi
        have e1 : f.eval (.tmp 1) = .pointer (some ⟨w.heap.size, 0, none⟩) := hs 1 (by simp [Still])
        refine puts_run hi (.inl rfl) (v := .pointer (some ⟨w.heap.size, 4, none⟩)) (w' := wr) ?_ (Keeps.refl _) rfl
        clear hs hah hi
        generalize f.eval = ρ at *
        go_simp
      · intro f wr hk hs hah hi
        have r9 := ahead_get hah 9 .data (by simp) rfl rfl rfl
        have e23 : f.eval (.tmp 23) = .pointer (some ⟨w.heap.size, 4, none⟩) := r9
        have c1 := hcell wr hk 4 _ rfl
        refine puts_run hi (.inl rfl) (v := .int .i64 m) (w' := wr) ?_ (Keeps.refl _) rfl
        clear hs hah hi
        generalize f.eval = ρ at *
        go_simp
      · intro f wr hk hs hah hi
        have r10 := ahead_get hah 10 .data (by simp) rfl rfl rfl
        have e24 : f.eval (.tmp 24) = .int .i64 m := r10
        have qf : ∀ k, f.eval (.func k) = .func (.func k) #[] #[] := fun _ => rfl
        refine puts_call hi (.inl rfl) (f := 33) (args := #[.int .i64 m]) ?_ ((put_any m _).mono fun e w' h => h.bytes hk.szd)
        clear hs hah hi
        generalize f.eval = ρ at *
        go_simp
      · intro f wr hk hs hah hi
        have r2 := ahead_get hah 2 .data (by simp) rfl rfl rfl
        obtain ⟨A2, n2, c2, e16, hr2, hq2⟩ := r2
        have r5 := ahead_get hah 5 .data (by simp) rfl rfl rfl
        obtain ⟨A5, n5, c5, e19, hr5, hq5⟩ := r5
        have r8 := ahead_get hah 8 .data (by simp) rfl rfl rfl
        obtain ⟨A8, n8, c8, e22, hr8, hq8⟩ := r8
        have r11 := ahead_get hah 11 .data (by simp) rfl rfl rfl
        obtain ⟨A11, n11, c11, e25, hr11, hq11⟩ := r11
        refine puts_run hi (.inl rfl) (v := .slice (some ⟨wr.heap.size, 0, none⟩) 4 4) (w' := wr.alloc (.cells #[.slice A2 n2 c2, .slice A5 n5 c5, .slice A8 n8 c8, .slice A11 n11 c11] 24)) ?_ ((Below.refl _ _).alloc (Nat.le_refl _) _) ⟨wr.heap.size, _, _, _, _, rfl, hk.szd, heap_alloc_new wr _, ⟨_, _, _, rfl, hr2.alloc _, hq2⟩, ⟨_, _, _, rfl, hr5.alloc _, hq5⟩, ⟨_, _, _, rfl, hr8.alloc _, hq8⟩, ⟨_, _, _, rfl, hr11.alloc _, hq11⟩⟩
        clear hs hah hi
        generalize f.eval = ρ at *
        go_simp
      · intro f wr hk hs hah hi
        have r12 := ahead_get hah 12 .data (by simp) rfl rfl rfl
        have e26 := r12
        exact puts_run hi (.inl rfl) (v := f.eval (.tmp 26)) (w' := wr) rfl (Keeps.refl _) e26
    · intro f ws hk hR
      obtain ⟨g, v0, v1, v2, v3, e4, hBg, hg, ⟨A0, n0, c0, rfl, hr0, hq0⟩, ⟨A1, n1, c1, rfl, hr1, hq1⟩, ⟨A2, n2, c2, rfl, hr2, hq2⟩, ⟨A3, n3, c3, rfl, hr3, hq3⟩⟩ := hR 13 _ _ rfl rfl
      clear hR
      simp [putAll, Act.put, e4]
      have hbase : Below w.heap.size w ws := hkeep.drew.trans (Below.mono (B := w2.heap.size) hk (Nat.le_of_lt hlt))
      have hown : Ow ws w.heap.size (.slice (some ⟨o1, 0, none⟩) 1 1) [UInt8.ofNat k.toNat] := Ow.below hown0.drew hk
      have hgs := lt_of_heap hg
      have hcell1 := hcell ws hk 0 _ rfl
      have hsz3 : w2.heap.size ≤ ws.heap.size := hk.szd
      clear hown0 hkeep hblk hcell hk
      go_wp2
      go_loopw [3, 29] (fun v i wq => ∃ j : Nat, j ≤ 4 ∧ i = .int .i64 j ∧ Ow wq w.heap.size v (partsL k a b n m j) ∧ Mod [o1] ws wq ∧ (∀ q, v.ownBlock = some q → q = o1 ∨ ws.heap.size ≤ q)) (fun _ i _ => 4 - (intOf i).toNat)
      case atStart => exact ⟨0, by omega, rfl, hown, Mod.refl _ _, fun q hq => by injection hq with hq; exact .inl hq.symm⟩
      case round =>
        obtain ⟨j, hj, rfl, hown1, hmod, hown2⟩ := hrel
        have hsz4 := hmod.size
        have hck : wr.cell? ⟨w.heap.size, 0, none⟩ = some (.int .i64 k) := (hmod.cell (by omega) (by simp; omega)).trans hcell1
        have hcg : ∀ (i : Nat) (v : Value), (#[.slice A0 n0 c0, .slice A1 n1 c1, .slice A2 n2 c2, .slice A3 n3 c3] : Array Value)[i]? = some v → wr.cell? ⟨g, i, none⟩ = some v := fun i v hv => by
          rw [cell_of_row wr g i _ _ _ ((hmod.block g hgs (by simp; omega)).trans hg)]
          exact hv
        have HO := Lib.hid hown1
        have HM := Lib.hid hmod
        have HC := Lib.hid hcg
        have HW := Lib.hid hown2
        clear hown1 hmod hcg hown2
        by_cases hlt4 : j < 4
        · have hjs : j = 0 ∨ j = 1 ∨ j = 2 ∨ j = 3 := by omega
          have hkd := hparts.1
          have hLen := partsL_length (k := k) (n := n) (m := m) hparts.2.2.2.1 hparts.2.2.2.2
          rcases hjs with rfl | rfl | rfl | rfl
          · have hcj := HC.out 0 _ rfl
            have ht := bit0 k hkd
            have hy := partsL_yes (k := k) (a := a) (b := b) (n := n) (m := m) (j := 0) rfl
            have hL := hLen 0
            have HrJ := Lib.hid (hr0.mod HM.out (fun b off hA => by have := hq0 b off hA; simp; omega))
            have HY := Lib.hid hy
            have HKd := Lib.hid hkd
            have hlA := hr0.len
            clear hy hkd hLen
            cases hX : hasA k with
            | false =>
              rw [hX] at ht
              have HX := Lib.hid hX
              clear hX hlA
              go_wp2_with (go_at_call 25; refine (kind_any _ _).mono ?_; rintro e w5 ⟨rfl, hb5⟩; have HB5 := Lib.hid hb5; clear hb5)
              go_roundw
              case rel => exact ⟨1, by omega, by go_num, by rw [HY.out, HX.out]; simpa [putT] using HO.out.below HB5.out, HM.out.trans (Mod.of_below HB5.out _), HW.out⟩
              case measure => simp [intOf]
            | true =>
              rw [hX] at ht
              have HX := Lib.hid hX
              clear hX
              obtain ⟨Ao, co, rfl⟩ := HO.out.shape
              have hle : (partsL k a b n m 0).length + (textL a.data.toList).length ≤ 300 := by
                have h1 := textL_length_le a hparts.2.2.2.1
                omega
              clear hlA
              go_wp2_with (first | (go_at_call 25; refine (kind_any _ _).mono ?_; rintro e w5 ⟨rfl, hb5⟩; have HB5 := Lib.hid hb5; clear hb5) | (at_builtin; refine wpList_append_ow rfl (.tmp 41) (.tmp 42) rfl (B := w.heap.size) (l := partsL k a b n m 0) (m := textL a.data.toList) (HO.out.below HB5.out) (src_rd (HrJ.out.below HB5.out)) (by omega) (by have := HB5.out.size; omega) ?_; intro v' w6 hown6 hgrow6 hblk6))
              have HB5 := HB5
              have hsz5 := HB5.out.size
              have HG := Lib.hid hgrow6
              have HB6 := Lib.hid hblk6
              have HO6 := Lib.hid hown6
              clear hgrow6 hblk6 hown6
              go_wp2
              go_roundw
              case rel =>
                refine ⟨1, by omega, by go_num, by rw [HY.out, HX.out]; simpa [putT] using HO6.out, ?_, ?_⟩
                · exact mod_grown (HM.out.trans (Mod.of_below HB5.out _)) HG.out (fun q hq => by rcases HW.out q hq with h | h; exact .inl (by simp [h]); exact .inr h)
                · intro q hq
                  rcases HB6.out with h | h
                  · rw [h] at hq; exact HW.out q hq
                  · rw [h] at hq; injection hq with hq; subst hq; right; omega
              case measure => simp [intOf]
          · have hcj := HC.out 1 _ rfl
            have ht := bit1 k hkd
            have hy := partsL_yes (k := k) (a := a) (b := b) (n := n) (m := m) (j := 1) rfl
            have hL := hLen 1
            have HrJ := Lib.hid (hr1.mod HM.out (fun b off hA => by have := hq1 b off hA; simp; omega))
            have HY := Lib.hid hy
            have HKd := Lib.hid hkd
            have hlA := hr1.len
            clear hy hkd hLen
            cases hX : hasB k with
            | false =>
              rw [hX] at ht
              have HX := Lib.hid hX
              clear hX hlA
              go_wp2_with (go_at_call 25; refine (kind_any _ _).mono ?_; rintro e w5 ⟨rfl, hb5⟩; have HB5 := Lib.hid hb5; clear hb5)
              go_roundw
              case rel => exact ⟨2, by omega, by go_num, by rw [HY.out, HX.out]; simpa [putT] using HO.out.below HB5.out, HM.out.trans (Mod.of_below HB5.out _), HW.out⟩
              case measure => simp [intOf]
            | true =>
              rw [hX] at ht
              have HX := Lib.hid hX
              clear hX
              obtain ⟨Ao, co, rfl⟩ := HO.out.shape
              have hle : (partsL k a b n m 1).length + (textL b.data.toList).length ≤ 300 := by
                have h1 := textL_length_le b hparts.2.2.2.2
                omega
              clear hlA
              go_wp2_with (first | (go_at_call 25; refine (kind_any _ _).mono ?_; rintro e w5 ⟨rfl, hb5⟩; have HB5 := Lib.hid hb5; clear hb5) | (at_builtin; refine wpList_append_ow rfl (.tmp 41) (.tmp 42) rfl (B := w.heap.size) (l := partsL k a b n m 1) (m := textL b.data.toList) (HO.out.below HB5.out) (src_rd (HrJ.out.below HB5.out)) (by omega) (by have := HB5.out.size; omega) ?_; intro v' w6 hown6 hgrow6 hblk6))
              have HB5 := HB5
              have hsz5 := HB5.out.size
              have HG := Lib.hid hgrow6
              have HB6 := Lib.hid hblk6
              have HO6 := Lib.hid hown6
              clear hgrow6 hblk6 hown6
              go_wp2
              go_roundw
              case rel =>
                refine ⟨2, by omega, by go_num, by rw [HY.out, HX.out]; simpa [putT] using HO6.out, ?_, ?_⟩
                · exact mod_grown (HM.out.trans (Mod.of_below HB5.out _)) HG.out (fun q hq => by rcases HW.out q hq with h | h; exact .inl (by simp [h]); exact .inr h)
                · intro q hq
                  rcases HB6.out with h | h
                  · rw [h] at hq; exact HW.out q hq
                  · rw [h] at hq; injection hq with hq; subst hq; right; omega
              case measure => simp [intOf]
          · have hcj := HC.out 2 _ rfl
            have ht := bit2 k hkd
            have hy := partsL_yes (k := k) (a := a) (b := b) (n := n) (m := m) (j := 2) rfl
            have hL := hLen 2
            have HrJ := Lib.hid (hr2.mod HM.out (fun b off hA => by have := hq2 b off hA; simp; omega))
            have HY := Lib.hid hy
            have HKd := Lib.hid hkd
            have hlA := hr2.len
            clear hy hkd hLen
            cases hX : hasN k with
            | false =>
              rw [hX] at ht
              have HX := Lib.hid hX
              clear hX hlA
              go_wp2_with (go_at_call 25; refine (kind_any _ _).mono ?_; rintro e w5 ⟨rfl, hb5⟩; have HB5 := Lib.hid hb5; clear hb5)
              go_roundw
              case rel => exact ⟨3, by omega, by go_num, by rw [HY.out, HX.out]; simpa [putI] using HO.out.below HB5.out, HM.out.trans (Mod.of_below HB5.out _), HW.out⟩
              case measure => simp [intOf]
            | true =>
              rw [hX] at ht
              have HX := Lib.hid hX
              clear hX
              obtain ⟨Ao, co, rfl⟩ := HO.out.shape
              have hle : (partsL k a b n m 2).length + (putL n).length ≤ 300 := by
                have h1 := putL_length_le n
                omega
              clear hlA
              go_wp2_with (first | (go_at_call 25; refine (kind_any _ _).mono ?_; rintro e w5 ⟨rfl, hb5⟩; have HB5 := Lib.hid hb5; clear hb5) | (at_builtin; refine wpList_append_ow rfl (.tmp 41) (.tmp 42) rfl (B := w.heap.size) (l := partsL k a b n m 2) (m := putL n) (HO.out.below HB5.out) (src_rd (HrJ.out.below HB5.out)) (by omega) (by have := HB5.out.size; omega) ?_; intro v' w6 hown6 hgrow6 hblk6))
              have HB5 := HB5
              have hsz5 := HB5.out.size
              have HG := Lib.hid hgrow6
              have HB6 := Lib.hid hblk6
              have HO6 := Lib.hid hown6
              clear hgrow6 hblk6 hown6
              go_wp2
              go_roundw
              case rel =>
                refine ⟨3, by omega, by go_num, by rw [HY.out, HX.out]; simpa [putI] using HO6.out, ?_, ?_⟩
                · exact mod_grown (HM.out.trans (Mod.of_below HB5.out _)) HG.out (fun q hq => by rcases HW.out q hq with h | h; exact .inl (by simp [h]); exact .inr h)
                · intro q hq
                  rcases HB6.out with h | h
                  · rw [h] at hq; exact HW.out q hq
                  · rw [h] at hq; injection hq with hq; subst hq; right; omega
              case measure => simp [intOf]
          · have hcj := HC.out 3 _ rfl
            have ht := bit3 k hkd
            have hy := partsL_yes (k := k) (a := a) (b := b) (n := n) (m := m) (j := 3) rfl
            have hL := hLen 3
            have HrJ := Lib.hid (hr3.mod HM.out (fun b off hA => by have := hq3 b off hA; simp; omega))
            have HY := Lib.hid hy
            have HKd := Lib.hid hkd
            have hlA := hr3.len
            clear hy hkd hLen
            cases hX : hasM k with
            | false =>
              rw [hX] at ht
              have HX := Lib.hid hX
              clear hX hlA
              go_wp2_with (go_at_call 25; refine (kind_any _ _).mono ?_; rintro e w5 ⟨rfl, hb5⟩; have HB5 := Lib.hid hb5; clear hb5)
              go_roundw
              case rel => exact ⟨4, by omega, by go_num, by rw [HY.out, HX.out]; simpa [putI] using HO.out.below HB5.out, HM.out.trans (Mod.of_below HB5.out _), HW.out⟩
              case measure => simp [intOf]
            | true =>
              rw [hX] at ht
              have HX := Lib.hid hX
              clear hX
              obtain ⟨Ao, co, rfl⟩ := HO.out.shape
              have hle : (partsL k a b n m 3).length + (putL m).length ≤ 300 := by
                have h1 := putL_length_le m
                omega
              clear hlA
              go_wp2_with (first | (go_at_call 25; refine (kind_any _ _).mono ?_; rintro e w5 ⟨rfl, hb5⟩; have HB5 := Lib.hid hb5; clear hb5) | (at_builtin; refine wpList_append_ow rfl (.tmp 41) (.tmp 42) rfl (B := w.heap.size) (l := partsL k a b n m 3) (m := putL m) (HO.out.below HB5.out) (src_rd (HrJ.out.below HB5.out)) (by omega) (by have := HB5.out.size; omega) ?_; intro v' w6 hown6 hgrow6 hblk6))
              have HB5 := HB5
              have hsz5 := HB5.out.size
              have HG := Lib.hid hgrow6
              have HB6 := Lib.hid hblk6
              have HO6 := Lib.hid hown6
              clear hgrow6 hblk6 hown6
              go_wp2
              go_roundw
              case rel =>
                refine ⟨4, by omega, by go_num, by rw [HY.out, HX.out]; simpa [putI] using HO6.out, ?_, ?_⟩
                · exact mod_grown (HM.out.trans (Mod.of_below HB5.out _)) HG.out (fun q hq => by rcases HW.out q hq with h | h; exact .inl (by simp [h]); exact .inr h)
                · intro q hq
                  rcases HB6.out with h | h
                  · rw [h] at hq; exact HW.out q hq
                  · rw [h] at hq; injection hq with hq; subst hq; right; omega
              case measure => simp [intOf]
        · obtain rfl : j = 4 := by omega
          go_wp2
          go_ret
          refine RetOw.mk (by rw [← partsL_end HR.out]; exact HO.out) (hbase.trans (HM.out.below (by omega) (by simp; omega)))
end Go.Proofs.Ytjpchjbbfbmjgaa
