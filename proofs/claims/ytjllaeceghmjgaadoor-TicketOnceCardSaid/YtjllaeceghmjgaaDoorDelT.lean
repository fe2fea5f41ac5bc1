/- slices.Delete at a row of the caller's own. -/
import Derived.Test.YtjllaeceghmjgaaDoorArr
import Derived.WalkKit
import Derived.Deep.RegionLaw
import Derived.Lib.SliceRun
namespace Go.Proofs.YtjllaeceghmjgaaDoor
set_option linter.unusedSimpArgs false
set_option linter.unusedVariables false
open Go.RowKit
theorem setCells_row {w : World} {g : Nat} {E : TypeId} {cur : Array Value} (hg : w.heap[g]? = some (.cells cur E (0, 0))) (o : Nat) (vs : List Value) (hfit : o + vs.length ≤ cur.size) (h1 : ∀ v ∈ vs, v.oneCell' = true) :
    w.setCells g o vs = w.setRow g (cur.toList.take o ++ vs ++ cur.toList.drop (o + vs.length)).toArray := by
  have hcell : ∀ q, w.cell? ⟨g, q, none⟩ = cur[q]? := fun q => cell_of_row w g q cur E (0, 0) hg
  have a := run_storeCells_at Tryd.prog g o E vs 0 cur w hg (by simpa using hfit) h1
  have b := run_storeCells_cells (P := Tryd.prog) g o vs 0 w (fun j hj => by rw [hcell]; simp; omega) (fun j hj => by simp [World.frozen?, hg]) h1
  rw [a] at b
  simp only [Nat.add_zero] at b
  injection b with b1 b2
  exact b2.symm
theorem run_clear_any {w : World} {T E : TypeId} {i : TypeInfo} {z : Value} {cur : Array Value} (hT : Tryd.prog.underlying T = some (.slice E)) (hi : Tryd.prog.info? E = some i) (hz : i.zero = some z) {g o n c : Nat} (hg : w.heap[g]? = some (.cells cur E (0, 0))) (hn : 0 < n)
    (hone : ∀ v ∈ (Builtin.zeroCells z.cells n).toList, v.oneCell' = true) (hfit : o + (Builtin.zeroCells z.cells n).size ≤ cur.size) (ty : TypeId) :
    (Builtin.clear_ #[T] ty #[.slice (some ⟨g, o, none⟩) n c]).run Tryd.prog w = .ok (.tuple #[]) (w.setCells g o (Builtin.zeroCells z.cells n).toList) := by
  have a := run_storeCells_at Tryd.prog g o E (Builtin.zeroCells z.cells n).toList 0 cur w hg (by simpa using hfit) hone
  simp only [Nat.add_zero] at a
  rw [← setCells_row hg o _ (by simpa using hfit) hone] at a
  obtain ⟨m, rfl⟩ : ∃ m, n = m + 1 := ⟨n - 1, by omega⟩
  simp [Builtin.clear_, run_underlying hT, zeroValue, typeInfo, hi, hz, a]
theorem infoE : (Tryd.prog.info? 59).map (fun i => (i.zero, i.size)) = some (some (.agg #[.int .i64 0, .string ⟨#[]⟩, .string ⟨#[]⟩, .int .i64 0, .string ⟨#[]⟩]), 5) := by kernel_rfl
theorem undT : Tryd.prog.underlying 54 = some (.slice 59) := by kernel_rfl
set_option maxHeartbeats 4000000 in
set_option maxRecDepth 1000000 in
theorem del_same (A : Option Addr) (n c i : Nat) (w : World) (hi : i ≤ n) (hnc : n ≤ c) (hm : c ≤ 9223372036854775807) :
    Calls Tryd.prog 24 #[.slice A n c, .int .i64 i, .int .i64 i] w fun e w' => e = .returned (.slice A n c) ∧ w' = w := by
  have hic : i ≤ c := by omega
  go_enter Tryd.func24, Tryd.ntmps24
  go_wp2
  all_goals (go_ret; exact ⟨rfl, rfl⟩)
set_option maxHeartbeats 4000000 in
set_option maxRecDepth 1000000 in
theorem del_walk (g n c i j : Nat) (cur : Array Value) (w : World) (hg : w.heap[g]? = some (.cells cur 59 (0, 0))) (hcs : cur.size = c * 5) (hone : ∀ v ∈ (cur.toList.take (n * 5)).drop (j * 5), v.oneCell' = true) (hlt : i < j) (hj : j ≤ n) (hnc : n ≤ c) (hm : c ≤ 9223372036854775807) (zs : List Value)
    (hzs : zs = (Builtin.zeroCells #[.int .i64 0, .string ⟨#[]⟩, .string ⟨#[]⟩, .int .i64 0, .string ⟨#[]⟩] (j - i)).toList) :
    Calls Tryd.prog 24 #[.slice (some ⟨g, 0, none⟩) n c, .int .i64 i, .int .i64 j] w fun e w' => e = .returned (.slice (some ⟨g, 0, none⟩) (i + (n - j)) c) ∧
      w' = (w.drew.setCells g (0 + i * 5) ((cur.toList.take (n * 5)).drop (j * 5))).setCells g ((i + (n - j)) * 5) zs := by
  obtain ⟨i0, hi0, hz0, hz1⟩ : ∃ i0, Tryd.prog.info? 59 = some i0 ∧ i0.zero = some (.agg #[.int .i64 0, .string ⟨#[]⟩, .string ⟨#[]⟩, .int .i64 0, .string ⟨#[]⟩]) ∧ i0.size = 5 := by
    have h := infoE
    cases hi : Tryd.prog.info? 59 with
    | none => rw [hi] at h; cases h
    | some i0 =>
      rw [hi] at h
      simp only [Option.map_some, Option.some.injEq, Prod.mk.injEq] at h
      exact ⟨i0, rfl, h.1, h.2⟩
  have hcell : ∀ q, w.cell? ⟨g, q, none⟩ = cur[q]? := fun q => cell_of_row w g q cur 59 (0, 0) hg
  obtain ⟨news, hnews⟩ : ∃ news, news = (cur.toList.take (n * 5)).drop (j * 5) := ⟨_, rfl⟩
  have hn5 : n * 5 ≤ c * 5 := Nat.mul_le_mul_right _ hnc
  have hlen : news.length = (n - j) * 5 := by rw [hnews, List.length_drop, List.length_take, Array.length_toList, hcs, Nat.sub_mul]; omega
  have hget : ∀ t u, news[t]? = some u → cur[j * 5 + t]? = some u := by
    intro t u hu
    rw [hnews, List.getElem?_drop, List.getElem?_take] at hu
    split at hu
    · simpa using hu
    · cases hu
  obtain ⟨A, hA, hsrc⟩ : ∃ A : Addr, (if c = j then some (⟨g, 0, none⟩ : Addr) else some ⟨g, j * 5, none⟩) = some A ∧ Hid (∀ t u, news[t]? = some u → w.drew.cell? (A.add t) = some u) := by
    by_cases h : c = j
    · refine ⟨⟨g, 0, none⟩, by simp [h], fun t u hu => ?_⟩
      have h0 : news.length = 0 := by rw [hlen]; omega
      rw [List.length_eq_zero_iff.1 h0] at hu
      simp at hu
    · refine ⟨⟨g, j * 5, none⟩, by simp [h], fun t u hu => ?_⟩
      rw [Addr.add_lit]
      exact (hcell _).trans (hget t u hu)
  have s1 : Hid (news.length = (n - j) * 5) := hlen
  have s2 : Hid (∀ u ∈ news, u.oneCell' = true) := by
    intro u hu
    rw [hnews] at hu
    exact hone u hu
  have hfit : 0 + i * 5 + news.length ≤ cur.size := by rw [hlen, hcs]; omega
  have s3 : Hid (∀ t, t < news.length → (w.drew.cell? ⟨g, 0 + i * 5 + t, none⟩).isSome = true ∧ w.drew.frozen? ⟨g, 0 + i * 5 + t, none⟩ = false) := by
    intro t ht
    refine ⟨?_, ?_⟩
    · show (w.cell? _).isSome = true
      rw [hcell]
      simp
      omega
    · show w.frozen? _ = false
      simp [World.frozen?, hg]
  -- the world behind the append
  obtain ⟨W1, hW1⟩ : ∃ W1, W1 = w.drew.setCells g (0 + i * 5) news := ⟨_, rfl⟩
  have hg1 : ∃ cur1, W1.heap[g]? = some (.cells cur1 59 (0, 0)) ∧ cur1.size = c * 5 := by
    have hgd : w.drew.heap[g]? = some (.cells cur 59 (0, 0)) := hg
    rw [hW1, setCells_row hgd _ _ hfit s2]
    exact ⟨_, setRow_heap w.drew g cur _ _ (0, 0) hgd, by simp; omega⟩
  obtain ⟨cur1, hg1, hcs1⟩ := hg1
  have hcl : ∀ ty, (Builtin.clear_ #[54] ty #[.slice (some ⟨g, (i + (n - j)) * 5, none⟩) (n - (i + (n - j))) (c - (i + (n - j)))]).run Tryd.prog W1 = .ok (.tuple #[]) (W1.setCells g ((i + (n - j)) * 5) zs) := by
    intro ty
    have hq : n - (i + (n - j)) = j - i := by omega
    rw [hq, hzs]
    refine run_clear_any undT hi0 hz0 hg1 (by omega) ?_ ?_ ty
    · intro v hv
      simp only [Builtin.zeroCells, Value.cells, Array.toList_map, List.mem_map] at hv
      obtain ⟨q, _, rfl⟩ := hv
      have : q % 5 < 5 := Nat.mod_lt _ (by omega)
      have h5 : q % 5 = 0 ∨ q % 5 = 1 ∨ q % 5 = 2 ∨ q % 5 = 3 ∨ q % 5 = 4 := by omega
      rcases h5 with h | h | h | h | h <;> simp [h, Value.oneCell']
    · rw [size_zeroCells]
      simp only [Value.cells]
      rw [hcs1]
      show (i + (n - j)) * 5 + (j - i) * 5 ≤ c * 5
      omega
  have X : Aside (W1 = w.drew.setCells g (0 + i * 5) news) := hW1
  have hW : Hid (W1 = w.drew.setCells g (0 + i * 5) news) := hW1
  have hic : i ≤ c := by omega
  have hjc : j ≤ c := by omega
  have hne : ¬ c = i + (n - j) := by omega
  rw [← hnews]
  clear hW1 hg1 hget hnews hlen hcell hg hcs hcs1 hone hfit hn5
  have undT' := undT
  go_enter Tryd.func24, Tryd.ntmps24
  go_wp2_with fail
  go_region_law (refine step_append_room rfl (.tmp 22) (.tmp 25) 54 rfl 59 i0 5 undT hi0 hz1 g 0 i c (by simp [Act.eval, Act.put]) A (n - j) (c - j) news (by simp [Act.eval, Act.put, hA]) s1.out hsrc.out s2.out (by omega) s3.out ?_; rw [← hW.out])
  go_wp2
  go_ret
  refine ⟨rfl, ?_⟩
  rw [← X.out, hzs]
/-- slices.Delete at a row of the caller's own: the row comes back, without what was deleted -/
theorem delete_own {α : Type} {e : Enc α} (hz : e.sz = 5) {A : Option Addr} {c : Nat} {l : List α} (i j : Int) (h0 : 0 ≤ i) (h1 : i ≤ j) (h2 : j ≤ (l.length : Int)) (w : World) (h : (rowT 59 e A c l).ok w) :
    Calls Tryd.prog 24 #[.slice A l.length c, .int .i64 i, .int .i64 j] w fun x w' => x = .returned (.slice A (l.take i.toNat ++ l.drop j.toNat).length c) ∧
      Mod ((Value.slice A l.length c).ownBlock.toList) w w' ∧ (rowT 59 e A c (l.take i.toNat ++ l.drop j.toNat)).ok w' := by
  obtain ⟨i, rfl⟩ : ∃ k : Nat, i = (k : Int) := ⟨i.toNat, by omega⟩
  obtain ⟨j, rfl⟩ : ∃ k : Nat, j = (k : Int) := ⟨j.toNat, by omega⟩
  simp only [Int.toNat_natCast] at *
  have hrd := row_rdx h
  have hmax := hrd.cap
  unfold maxLen at hmax
  by_cases heq : i = j
  · subst heq
    refine (del_same A l.length c i w (by omega) hrd.le (by omega)).mono ?_
    rintro x w' ⟨rfl, rfl⟩
    rw [List.take_append_drop]
    exact ⟨rfl, Mod.refl _ _, h⟩
  · have hlt : i < j := by omega
    rcases h.2 with ⟨hv, hn⟩ | ⟨g, cap, cur, hv, hb, hg, hnc, hcm, hcs, htake⟩
    · omega
    · injection hv with hA hn' hc
      subst hA hc
      have hlen : (l.take i ++ l.drop j).length = i + (l.length - j) := by simp; omega
      have hnews : (cur.toList.take (l.length * 5)).drop (j * 5) = cellsOf e (l.drop j) := by
        rw [← hz, htake, cellsOf_drop]
      have h5 : l.length * e.sz = l.length * 5 := by rw [hz]
      rw [hz] at hcs
      rw [h5] at htake
      have hcl5 : l.length * 5 ≤ c * 5 := Nat.mul_le_mul_right _ hnc
      have hone1 : ∀ v ∈ (cur.toList.take (l.length * 5)).drop (j * 5), v.oneCell' = true := by rw [hnews]; exact cellsOf_one e _
      refine (del_walk g l.length c i j cur w hg hcs hone1 hlt (by omega) hnc (by omega) _ rfl).mono ?_
      rintro x w' ⟨rfl, rfl⟩
      have hn1 : (cellsOf e (l.drop j)).length = (l.length - j) * 5 := by rw [cellsOf_length, hz]; simp
      have hgd : w.drew.heap[g]? = some (.cells cur 59 (0, 0)) := hg
      rw [hnews, setCells_row hgd _ _ (by rw [hn1, hcs]; omega) (cellsOf_one e _)]
      have hcur1 : (cur.toList.take (0 + i * 5) ++ cellsOf e (l.drop j) ++ cur.toList.drop (0 + i * 5 + (cellsOf e (l.drop j)).length)).toArray.size = c * 5 := by
        rw [List.size_toArray, List.length_append, List.length_append, List.length_take, List.length_drop, Array.length_toList, hcs, hn1]
        omega
      have hg1 := setRow_heap w.drew g cur (cur.toList.take (0 + i * 5) ++ cellsOf e (l.drop j) ++ cur.toList.drop (0 + i * 5 + (cellsOf e (l.drop j)).length)).toArray 59 (0, 0) hgd
      have hhead : (cur.toList.take (0 + i * 5) ++ cellsOf e (l.drop j) ++ cur.toList.drop (0 + i * 5 + (cellsOf e (l.drop j)).length)).take ((i + (l.length - j)) * 5) = cellsOf e (l.take i ++ l.drop j) := by
        have hi5 : cur.toList.take (0 + i * 5) = cellsOf e (l.take i) := by
          rw [Nat.zero_add]
          have := cellsOf_take e l i
          rw [hz] at this
          rw [← this, ← htake, List.take_take, Nat.min_eq_left (by omega)]
        rw [hi5, ← cellsOf_append]
        have hl2 : (cellsOf e (l.take i ++ l.drop j)).length = (i + (l.length - j)) * 5 := by rw [cellsOf_length, hz, hlen]
        rw [← hl2]
        exact List.take_left
      generalize hq : (cur.toList.take (0 + i * 5) ++ cellsOf e (l.drop j) ++ cur.toList.drop (0 + i * 5 + (cellsOf e (l.drop j)).length)) = q at *
      have hzl : (Builtin.zeroCells #[Value.int .i64 0, .string ⟨#[]⟩, .string ⟨#[]⟩, .int .i64 0, .string ⟨#[]⟩] (j - i)).toList.length = (j - i) * 5 := by
        rw [Array.length_toList, size_zeroCells]
        rfl
      have hzone : ∀ v ∈ (Builtin.zeroCells #[Value.int .i64 0, .string ⟨#[]⟩, .string ⟨#[]⟩, .int .i64 0, .string ⟨#[]⟩] (j - i)).toList, v.oneCell' = true := by
        intro v hv
        simp only [Builtin.zeroCells, Array.toList_map, List.mem_map] at hv
        obtain ⟨q, _, rfl⟩ := hv
        have : q % 5 < 5 := Nat.mod_lt _ (by omega)
        have h5 : q % 5 = 0 ∨ q % 5 = 1 ∨ q % 5 = 2 ∨ q % 5 = 3 ∨ q % 5 = 4 := by omega
        rcases h5 with h | h | h | h | h <;> simp [h, Value.oneCell']
      generalize (Builtin.zeroCells #[Value.int .i64 0, .string ⟨#[]⟩, .string ⟨#[]⟩, .int .i64 0, .string ⟨#[]⟩] (j - i)).toList = zs at *
      have hij5 : (i + (l.length - j)) * 5 + (j - i) * 5 = l.length * 5 := by omega
      have hq5 : q.length = c * 5 := by simpa using hcur1
      rw [setCells_row hg1 _ _ (by rw [hzl, hcur1]; omega) hzone]
      have hg2 := setRow_heap _ g q.toArray (q.toArray.toList.take ((i + (l.length - j)) * 5) ++ zs ++ q.toArray.toList.drop ((i + (l.length - j)) * 5 + zs.length)).toArray 59 (0, 0) hg1
      refine ⟨by rw [hlen], ?_, ?_⟩
      · have hd : Mod [g] w w.drew := Mod.of_below (Below.refl w.heap.size w).drew [g]
        exact hd.trans ((Mod.setRow w.drew g _).trans (Mod.setRow _ g _))
      · refine ⟨cellsOf_length e _, .inr ⟨g, c, _, rfl, Nat.zero_le _, hg2, by rw [hlen]; omega, hcm, ?_, ?_⟩⟩
        · rw [List.size_toArray, List.length_append, List.length_append, List.length_take, List.length_drop, hzl, hz]
          show min _ q.length + _ + (q.length - _) = _
          omega
        · rw [hlen, hz]
          have h3 : (q.toArray.toList.take ((i + (l.length - j)) * 5)).length = (i + (l.length - j)) * 5 := by
            rw [List.length_take]
            show min _ q.length = _
            omega
          show (q.toArray.toList.take ((i + (l.length - j)) * 5) ++ zs ++ q.toArray.toList.drop ((i + (l.length - j)) * 5 + zs.length)).take ((i + (l.length - j)) * 5) = _
          rw [List.append_assoc, List.take_append_of_le_length (by omega), List.take_take, Nat.min_self]
          exact hhead
theorem SP.del {α : Type} {e : Enc α} {A : Option Addr} {c : Nat} {l l' : List α} {E : TypeId} {S : List Nat} {w0 w w' : World} {es : List Ent} {i : Nat} (h : SP S w0 w es) (hi : es[i]? = some (rowT E e A c l)) (hm : Mod ((Value.slice A l.length c).ownBlock.toList) w w')
    (hok : (rowT E e A c l').ok w') : SP S w0 w' (es.set i (rowT E e A c l')) := by
  have hb : (Value.slice A l'.length c).ownBlock = (Value.slice A l.length c).ownBlock := by cases A <;> rfl
  refine h.set hi hm (fun k hk => hk) hok fun k hk => ?_
  have hk1 : (Value.slice A l'.length c).ownBlock = some k := by simpa [rowT, row] using hk
  refine ⟨.inl ?_, (World.ownsRow.lt (show World.ownsRow w' 0 E e.sz (.slice A l'.length c) l'.length (cellsOf e l') from hok) k hk1).2⟩
  show k ∈ (Value.slice A l.length c).ownBlock.toList
  rw [← hb, hk1]
  simp
end Go.Proofs.YtjllaeceghmjgaaDoor
