/- What num.Text, num.Read, num.Put and num.Get compute, as the lifted walks want it (from the walks of NumA, NumC, NumD). -/
import Derived.Test.YtjpchjbbfbmjgaaDoorStage
import Derived.Test.YtjpchjbbfbmjgaaDoorNumD
namespace Go.Proofs.YtjpchjbbfbmjgaaDoor
set_option linter.unusedSimpArgs false
set_option linter.unusedVariables false
open Go.RowKit
theorem bV_cellsN (l : List UInt8) : bV l = cellsOf eU8 l := by
  induction l with
  | nil => rfl
  | cons c r ih => rw [cellsOf_cons, ← ih]; rfl
theorem sp_belowN {w w' : World} (h : Below w.heap.size w w') : SP [] w w' [] := ⟨Mod.of_below h [], trivial⟩
theorem sp_owN {w w' : World} {A : Option Addr} {c n : Nat} {l : List UInt8} (h : Below w.heap.size w w') (ho : Ow w' w.heap.size (.slice A n c) l) : SP [] w w' [rowT 5 eU8 A c l] := by
  have hn : n = l.length := ho.rd.2.symm
  subst hn
  refine ⟨Mod.of_below h [], ?_, fun k hk => ?_, trivial⟩
  · have h1 := ho.mono (Nat.zero_le _)
    unfold Ow at h1
    rw [bV_cellsN] at h1
    exact h1
  · have hk' : (Value.slice A l.length c).ownBlock = some k := by simpa [rowT, row] using hk
    have := ho.lt k hk'
    exact ⟨.inl this.1, this.2, by simp⟩
def L_num_Put (n : Int) : Option (List UInt8) := some (putL n)
theorem L_num_Put_walk (n : Int) (w0 : World) (r : List UInt8) (H : L_num_Put n = some r) :
    Calls Tryd.prog 16 #[(.int .i64 n)] w0 (fun e w' => ∃ (A : Option Addr) (c : Nat), e = .returned (.slice A (List.length r) c) ∧ SP [] w0 w' [rowT 5 eU8 A c r]) := by
  injection H with H
  subst H
  refine (put_any n w0).mono ?_
  rintro e w' ⟨v, rfl, ho, hb⟩
  obtain ⟨A, c, rfl⟩ := ho.shape
  exact ⟨A, c, rfl, sp_owN hb ho⟩
def L_num_Text (s : List UInt8) : Option (List UInt8) := cond (Nat.ble s.length maxLen) (some (textL s)) none
theorem L_num_Text_walk (s : List UInt8) (w0 : World) (r : List UInt8) (H : L_num_Text s = some r) :
    Calls Tryd.prog 18 #[(.string ⟨List.toArray s⟩)] w0 (fun e w' => ∃ (A : Option Addr) (c : Nat), e = .returned (.slice A (List.length r) c) ∧ SP [] w0 w' [rowT 5 eU8 A c r]) := by
  unfold L_num_Text at H
  cases hs : Nat.ble s.length maxLen <;> rw [hs] at H
  · cases H
  injection H with H
  subst H
  refine (text_any ⟨s.toArray⟩ w0 (by rw [str_size]; exact Nat.le_of_ble_eq_true hs)).mono ?_
  rintro e w' ⟨v, rfl, ho, hb⟩
  obtain ⟨A, c, rfl⟩ := ho.shape
  exact ⟨A, c, rfl, sp_owN hb ho⟩
/-- a text that is read, a number that is got: as data -/
def readD (x : Option (List UInt8 × Nat)) : List UInt8 × Int × Bool := match x with | none => ([], 0, false) | some (s, k) => (s, (k : Int), true)
def getD3 (x : Option (Nat × Nat)) : Int × Int × Bool := match x with | none => (0, 0, false) | some (n, k) => ((n : Int), (k : Int), true)
def L_num_Read (l : List UInt8) : Option (List UInt8 × Int × Bool) := some (readD (readL l))
theorem L_num_Read_walk (A : Option Addr) (c : Nat) (l : List UInt8) (w0 : World) (hr : RdT eU8 w0 A c l) (r : List UInt8 × Int × Bool) (H : L_num_Read l = some r) :
    Calls Tryd.prog 12 #[(.slice A (List.length l) c)] w0 (fun e w' => e = .returned (.tuple #[(.string ⟨List.toArray r.1⟩), (.int .i64 r.2.1), (.bool r.2.2)]) ∧ SP [] w0 w' []) := by
  injection H with H
  subst H
  refine (read_any w0 (rd_bytes hr)).mono ?_
  rintro e w' ⟨rfl, rfl⟩
  refine ⟨?_, SP.start [] w0⟩
  cases readL l with
  | none => rfl
  | some x => rfl
def L_num_Get (l : List UInt8) : Option (Int × Int × Bool) := some (getD3 (getL l))
theorem L_num_Get_walk (A : Option Addr) (c : Nat) (l : List UInt8) (w0 : World) (hr : RdT eU8 w0 A c l) (r : Int × Int × Bool) (H : L_num_Get l = some r) :
    Calls Tryd.prog 10 #[(.slice A (List.length l) c)] w0 (fun e w' => e = .returned (.tuple #[(.int .i64 r.1), (.int .i64 r.2.1), (.bool r.2.2)]) ∧ SP [] w0 w' []) := by
  injection H with H
  subst H
  refine (get_any w0 (rd_bytes hr)).mono ?_
  rintro e w' ⟨rfl, rfl⟩
  refine ⟨?_, SP.start [] w0⟩
  cases getL l with
  | none => rfl
  | some x => rfl
end Go.Proofs.YtjpchjbbfbmjgaaDoor
