/- What wire.Right, wire.Put and wire.Get compute, as the lifted walks want it (from the walks of WireA, WireB, WireE). -/
import Derived.Test.YtjpchjbbfbmjgaaDraw
import Derived.Test.YtjpchjbbfbmjgaaWireE
namespace Go.Proofs.Ytjpchjbbfbmjgaa
set_option linter.unusedSimpArgs false
set_option linter.unusedVariables false
open Go.RowKit
def bs (l : List UInt8) : ByteArray := ⟨l.toArray⟩
def smallB (a b : List UInt8) : Bool := Nat.ble a.length maxLen && Nat.ble b.length maxLen
theorem bs_max {a : List UInt8} (h : Nat.ble a.length maxLen = true) : (bs a).size ≤ maxLen := by
  have := Nat.le_of_ble_eq_true h
  unfold bs
  rw [str_size]
  exact this
theorem sp_below {w w' : World} (h : Below w.heap.size w w') : SP [] w w' [] := ⟨Mod.of_below h [], trivial⟩
theorem bV_cells (l : List UInt8) : bV l = cellsOf eU8 l := (cells_u8 l).symm
theorem sp_ow {w w' : World} {A : Option Addr} {c n : Nat} {l : List UInt8} (h : Below w.heap.size w w') (ho : Ow w' w.heap.size (.slice A n c) l) : SP [] w w' [rowT 5 eU8 A c l] := by
  have hn : n = l.length := ho.rd.2.symm
  subst hn
  refine ⟨Mod.of_below h [], ?_, fun k hk => ?_, trivial⟩
  · have h1 := ho.mono (Nat.zero_le _)
    unfold Ow at h1
    rw [bV_cells] at h1
    exact h1
  · have hk' : (Value.slice A l.length c).ownBlock = some k := by simpa [rowT, row] using hk
    have := ho.lt k hk'
    exact ⟨.inl this.1, this.2, by simp⟩
def L_wire_Right (k : Int) (a b : List UInt8) (n m : Int) : Option Bool := cond (smallB a b) (some (rightB k (bs a) (bs b) n m)) none
theorem L_wire_Right_walk (k : Int) (a b : List UInt8) (n m : Int) (w0 : World) (r : Bool) (H : L_wire_Right k a b n m = some r) :
    Calls Try.prog 13 #[(.agg #[(.int .i64 k), (.string ⟨List.toArray a⟩), (.string ⟨List.toArray b⟩), (.int .i64 n), (.int .i64 m)])] w0 (fun e w' => e = .returned (.bool r) ∧ SP [] w0 w' []) := by
  unfold L_wire_Right smallB at H
  cases ha : Nat.ble a.length maxLen <;> cases hb : Nat.ble b.length maxLen <;> rw [ha, hb] at H <;> first | (cases H; done) | skip
  injection H with H
  subst H
  refine (right_any k n m (bs a) (bs b) w0 (bs_max ha) (bs_max hb)).mono ?_
  rintro e w' ⟨rfl, hb⟩
  exact ⟨rfl, sp_below hb⟩
def L_wire_Put (k : Int) (a b : List UInt8) (n m : Int) : Option (List UInt8) := cond (smallB a b) (some (wputL k (bs a) (bs b) n m)) none
theorem L_wire_Put_walk (k : Int) (a b : List UInt8) (n m : Int) (w0 : World) (r : List UInt8) (H : L_wire_Put k a b n m = some r) :
    Calls Try.prog 15 #[(.agg #[(.int .i64 k), (.string ⟨List.toArray a⟩), (.string ⟨List.toArray b⟩), (.int .i64 n), (.int .i64 m)])] w0 (fun e w' => ∃ (A : Option Addr) (c : Nat), e = .returned (.slice A (List.length r) c) ∧ SP [] w0 w' [rowT 5 eU8 A c r]) := by
  unfold L_wire_Put smallB at H
  cases ha : Nat.ble a.length maxLen <;> cases hb : Nat.ble b.length maxLen <;> rw [ha, hb] at H <;> first | (cases H; done) | skip
  injection H with H
  subst H
  refine (wput_any k n m (bs a) (bs b) w0 (bs_max ha) (bs_max hb)).mono ?_
  rintro e w' ⟨v, rfl, ho, hb⟩
  obtain ⟨A, c, rfl⟩ := ho.shape
  exact ⟨A, c, rfl, sp_ow hb ho⟩
/-- a message that is read, as data -/
def msgD (x : Option WMsg) : Int × List UInt8 × List UInt8 × Int × Int × Bool :=
  match x with
  | none => (0, [], [], 0, 0, false)
  | some M => (M.k, M.a.data.toList, M.b.data.toList, M.n, M.m, true)
def L_wire_Get (l : List UInt8) : Option (Int × List UInt8 × List UInt8 × Int × Int × Bool) := some (msgD (wgetL l))
theorem L_wire_Get_walk (A : Option Addr) (c : Nat) (l : List UInt8) (w0 : World) (hr : RdT eU8 w0 A c l) (r : Int × List UInt8 × List UInt8 × Int × Int × Bool) (H : L_wire_Get l = some r) :
    Calls Try.prog 11 #[(.slice A (List.length l) c)] w0 (fun e w' => e = .returned (.tuple #[(.agg #[(.int .i64 r.1), (.string ⟨List.toArray r.2.1⟩), (.string ⟨List.toArray r.2.2.1⟩), (.int .i64 r.2.2.2.1), (.int .i64 r.2.2.2.2.1)]), (.bool r.2.2.2.2.2)]) ∧ SP [] w0 w' []) := by
  unfold L_wire_Get at H
  injection H with H
  subst H
  refine (wget_any w0 (rd_bytes hr)).mono ?_
  rintro e w' ⟨rfl, hb⟩
  refine ⟨?_, sp_below hb⟩
  cases wgetL l with
  | none => rfl
  | some M => rfl
end Go.Proofs.Ytjpchjbbfbmjgaa
