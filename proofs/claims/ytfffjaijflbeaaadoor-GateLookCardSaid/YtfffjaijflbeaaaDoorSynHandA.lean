/- strings.Join, strings.Trim: as the lifted walks want them. -/
import Derived.Test.YtfffjaijflbeaaaDoorObj
import Derived.Test.YtfffjaijflbeaaaDoorShelf
import Derived.Shelf.Strings.SlTrimAscii
import Derived.Shelf.Strings.OnBuilder
namespace Go.Proofs.YtfffjaijflbeaaaDoor
set_option linter.unusedSimpArgs false
set_option linter.unusedVariables false
open Go.RowKit
theorem sp_belowS {w w' : World} (h : Below w.heap.size w w') : SP [] w w' [] := ⟨Mod.of_below h [], trivial⟩
def ba (l : List UInt8) : ByteArray := ⟨l.toArray⟩
def L_strings_Join (l : List (List UInt8)) (sep : List UInt8) : Option (List UInt8) :=
  cond (Nat.ble l.length 140737488355328 && Nat.ble (Lib.join l sep).length 140737488355328) (some (Lib.join l sep)) none
theorem map_ba (l : List (List UInt8)) : (l.map ba).map (·.data.toList) = l := by
  rw [List.map_map]
  conv => rhs; rw [← List.map_id l]
  rfl
theorem L_strings_Join_walk (A : Option Addr) (c : Nat) (l : List (List UInt8)) (sep : List UInt8) (w0 : World) (hr : RdT eStr w0 A c l) (r : List UInt8) (H : L_strings_Join l sep = some r) :
    Calls Tryd.prog 59 #[(.slice A (List.length l) c), (.string ⟨List.toArray sep⟩)] w0 (fun e w' => e = .returned (.string ⟨List.toArray r⟩) ∧ SP [] w0 w' []) := by
  unfold L_strings_Join at H
  cases hc : (Nat.ble l.length 140737488355328 && Nat.ble (Lib.join l sep).length 140737488355328) <;> rw [hc] at H
  · cases H
  injection H with H
  subst H
  rw [Bool.and_eq_true] at hc
  have h1 := Nat.le_of_ble_eq_true hc.1
  have h2 := Nat.le_of_ble_eq_true hc.2
  obtain ⟨_, hle, _, h4⟩ := hr
  by_cases h0 : l = []
  · subst h0
    refine (Tryd.strings_Join_none A c ⟨sep.toArray⟩ w0).mono ?_
    rintro e w' ⟨rfl, rfl⟩
    exact ⟨rfl, SP.start [] w'⟩
  · obtain ⟨b, off, rfl, hb, hcell⟩ := h4 (by cases l with | nil => exact absurd rfl h0 | cons x r => simp)
    have hlen : (l.map ba).length = l.length := by simp
    have := Tryd.strings_Join b off c (l.map ba) ⟨sep.toArray⟩ w0 (fun j x hj => by
      rw [List.getElem?_map] at hj
      cases hx : l[j]? with
      | none => rw [hx] at hj; cases hj
      | some y =>
        rw [hx] at hj
        injection hj with hj
        subst hj
        have := cellsOf_get eStr (l := l) (i := j) (x := y) hx (j := 0) (u := .string ⟨y.toArray⟩) rfl
        have h9 := hcell _ _ this
        simpa [eStr, ba] using h9) hb (by rw [hlen]; exact h1) (by rw [hlen]; exact hle) (by rw [map_ba]; exact h2)
    rw [map_ba, hlen] at this
    refine this.mono ?_
    rintro e w' ⟨rfl, hbel⟩
    exact ⟨rfl, sp_belowS hbel⟩
def L_strings_Trim (s cs : List UInt8) : Option (List UInt8) :=
  cond (Nat.ble s.length 9223372036854775807 && (Nat.ble cs.length 4294967280 && cs.all (fun b => Nat.ble b.toNat 127))) (some (Lib.trimS s cs)) none
theorem L_strings_Trim_walk (s cs : List UInt8) (w0 : World) (r : List UInt8) (H : L_strings_Trim s cs = some r) :
    Calls Tryd.prog 58 #[(.string ⟨List.toArray s⟩), (.string ⟨List.toArray cs⟩)] w0 (fun e w' => e = .returned (.string ⟨List.toArray r⟩) ∧ SP [] w0 w' []) := by
  unfold L_strings_Trim at H
  cases hc : (Nat.ble s.length 9223372036854775807 && (Nat.ble cs.length 4294967280 && cs.all (fun b => Nat.ble b.toNat 127))) <;> rw [hc] at H
  · cases H
  injection H with H
  subst H
  rw [Bool.and_eq_true, Bool.and_eq_true, List.all_eq_true] at hc
  have h1 := Nat.le_of_ble_eq_true hc.1
  have h2 := Nat.le_of_ble_eq_true hc.2.1
  refine (Any.strings_Trim_laid Tryd.lays160 (by kernel_rfl) ⟨s.toArray⟩ ⟨cs.toArray⟩ w0 (by rw [str_size]; exact h1) (by rw [str_size]; omega) (fun j b hj => by
    have := Nat.le_of_ble_eq_true (hc.2.2 b (List.mem_of_getElem? hj))
    omega)).mono ?_
  rintro e w' ⟨rfl, hbel⟩
  exact ⟨rfl, sp_belowS hbel⟩
end Go.Proofs.YtfffjaijflbeaaaDoor
