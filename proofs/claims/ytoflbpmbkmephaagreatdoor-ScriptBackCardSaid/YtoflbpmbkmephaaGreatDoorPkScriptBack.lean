import Derived.Test.YtoflbpmbkmephaaGreatDoorPkScriptBack3
set_option linter.unusedSimpArgs false
set_option linter.unusedVariables false
set_option linter.unusedSectionVars false
set_option maxRecDepth 100000
set_option maxHeartbeats 4000000
namespace Go.Proofs.YtoflbpmbkmephaaGreatDoor
theorem Rj (s : Str) (hs : s.length ≤ 9000) : Q1 s true = some true := by
  unfold Q1
  rw [Fh s (by omega)]
  simp only [Option.bind_some]
  cases he : evL (Qv 32 s) with
  | none => rfl
  | some y =>
    have hl := lLine y ((ev_small he).mono (by omega))
    rw [(evL_inv he).1] at hl
    simp only [evD, cond_true, hl, Option.bind_some, beq_self_eq_true]
    rfl
theorem R9 (e1 e2 e3 : Int) (e4 : Str) (e5 : Int) (e6 e7 e8 s : Str) (h3 : 0 ≤ e3 ∧ e3 < 4294967296) (h4 : e4.length ≤ 140737488355328) (h6 : e6.length ≤ 140737488355328) (h7 : e7.length ≤ 140737488355328) (h8 : e8.length ≤ 140737488355328) :
    Zb e1 e2 e3 e4 e5 e6 e7 e8 s = some true := by
  unfold Zb
  obtain ⟨b, hb, hq⟩ := great_ok e1 e2 e3 e4 e5 e6 e7 e8 h4 h6 h7 h8
  rw [scrHead, hb]
  simp only [Option.bind_some]
  cases b with
  | true => rfl
  | false =>
    have hq := hq rfl
    simp only [cond_false]
    by_cases hs : ((List.length s : Nat) : Int) > 9000
    · rw [decide_eq_true hs]; rfl
    · rw [decide_eq_false hs]
      have hs : s.length ≤ 9000 := by omega
      have hok : EvOk (e1, e2, e3, e4, e5, e6, e7, e8) 100000 := ⟨h3, by show e4.length ≤ _; omega, by show e6.length ≤ _; omega, by show e7.length ≤ _; omega, by show e8.length ≤ _; omega⟩
      have hl := lLine (e1, e2, e3, e4, e5, e6, e7, e8) hok
      unfold Q7
      simp only at hl
      rw [hl]
      simp only [cond_false, Option.bind_some]
      by_cases hne : Rv (e1, e2, e3, e4, e5, e6, e7, e8) = []
      · rw [hne]
        exact Rj s hs
      · rw [beq_eq_false_iff_ne.2 hne]
        simp only [Bool.not_false, cond_true]
        rw [Fh _ (Nat.le_trans (lineL_len _ hok) (by omega)), line_ev (e := (e1, e2, e3, e4, e5, e6, e7, e8)) h3 hne]
        simp only [evD, Option.bind_some, Bool.not_true, cond_false]
        rw [show ((e1 == e1) && ((e2 == e2) && ((e3 == e3) && ((e4 == e4) && ((e5 == e5) && ((e6 == e6) && ((e7 == e7) && (e8 == e8)))))))) = true by simp]
        exact Rj s hs
end Go.Proofs.YtoflbpmbkmephaaGreatDoor
namespace Go.Proofs.YtoflbpmbkmephaaGreatDoor
open Go.RowKit Go.ChangeShapes Go.WideShapes Go.Deep
theorem own : ownKnob Tryz.prog.godebug = none := by kernel_rfl
theorem laidOut : laidOutB Tryz.prog = true := by kernel_rfl
section
variable {H : Type} {enc : TypeId × Value → H} {W : World} {spare : Nat → Bool} {held : Bool} {base b0 : Nat} {r : Reach}
end
end Go.Proofs.YtoflbpmbkmephaaGreatDoor
namespace Go.Proofs.YtoflbpmbkmephaaGreatDoor
open Go.RowKit Go.ChangeShapes Go.WideShapes Go.Deep
section
variable {H : Type} {enc : TypeId × Value → H} {P : Program} {W : World}
def Rds (enc : TypeId × Value → H) (P : Program) (W : World) (t : TypeId) {α : Type} (e : Enc α) (Q : Nat → α → Prop) : Prop :=
  ∀ (Js : Nat) (cs : List Value) (x : DataW H × List MemPlace), DataW.trod enc P W 0 (fun _ => true) true Js t cs = some x → ∃ a, cs = e.enc a ∧ ∀ r, (x.1.weights P t).all (· ≤ r) = true → Q r a
def RdsFs (enc : TypeId × Value → H) (P : Program) (W : World) (o : Nat) (fs : List (TypeId × Nat)) {α : Type} (e : Enc α) (Q : Nat → α → Prop) : Prop :=
  ∀ (Js : Nat) (cs : List Value) (xs : List (DataW H × List MemPlace)), xs.length = fs.length → (∀ (i : Nat) f, fs[i]? = some f → DataW.trod enc P W 0 (fun _ => true) true Js f.1 ((cs.drop f.2).take (P.cellsOf f.1)) = xs[i]?) →
    ∃ a, (cs.drop o).take e.sz = e.enc a ∧ ∀ r, (DataW.weightsEach P (fs.map (·.1)) (xs.map (·.1))).all (· ≤ r) = true → Q r a
theorem B9 {t : TypeId} {k : IntKind} (ht : P.underlying t = some (.int k)) : Rds enc P W t (Nz k) (fun _ n => (Lit.int k n).wf = true) := by
  intro Js cs x h
  obtain ⟨n, rfl, rfl, hw⟩ := DataW.trod_int ht h
  exact ⟨n, rfl, fun _ _ => hw⟩
theorem Ca {t : TypeId} (ht : P.underlying t = some .string) : Rds enc P W t Qi (fun r s => s.length ≤ r) := by
  intro Js cs x h
  obtain ⟨s, rfl, rfl, hs⟩ := DataW.trod_string ht h
  refine ⟨s.data.toList, rfl, fun r hr => ?_⟩
  simpa [DataW.weights] using hr
theorem fs_one {t : TypeId} {o : Nat} {α : Type} {e : Enc α} {Q : Nat → α → Prop} (h : Rds enc P W t e Q) (hc : P.cellsOf t = e.sz) : RdsFs enc P W o [(t, o)] e Q := by
  intro Js cs xs hl hf
  match xs, hl with
  | [x], _ =>
    have := hf 0 (t, o) rfl
    obtain ⟨a, ha, hq⟩ := h Js _ _ this
    rw [hc] at ha
    refine ⟨a, ha, fun r hr => hq r ?_⟩
    simpa [DataW.weightsEach] using hr
theorem G2 {t : TypeId} {o : Nat} {fs : List (TypeId × Nat)} {α β : Type} {e : Enc α} {e' : Enc β} {Q : Nat → α → Prop} {Q' : Nat → β → Prop} (h : Rds enc P W t e Q) (hc : P.cellsOf t = e.sz) (hr : RdsFs enc P W (o + e.sz) fs e' Q') :
    RdsFs enc P W o ((t, o) :: fs) (Qw e e') (fun r a => Q r a.1 ∧ Q' r a.2) := by
  intro Js cs xs hl hf
  match xs, hl with
  | x :: xs, hl =>
    have := hf 0 (t, o) rfl
    obtain ⟨a, ha, hq⟩ := h Js _ _ this
    obtain ⟨b, hb, hq'⟩ := hr Js cs xs (by simpa using hl) (fun i f hi => by have := hf (i + 1) f (by simpa using hi); simpa using this)
    refine ⟨(a, b), ?_, fun r hw => ?_⟩
    · show (cs.drop o).take (e.sz + e'.sz) = e.enc a ++ e'.enc b
      rw [hc] at ha
      rw [← ha, ← hb, List.take_add, List.drop_drop]
    · simp only [List.map_cons, DataW.weightsEach, List.all_append, Bool.and_eq_true] at hw
      exact ⟨hq r hw.1, hq' r hw.2⟩
theorem F3 {t : TypeId} {l : List (TypeId × Nat)} {α : Type} {e : Enc α} {Q : Nat → α → Prop} (hl : (match P.underlying t with | some (.struct fs) => some (fs.toList.map (fun f => (f.type, f.offset))) | _ => none) = some l) (hc : P.cellsOf t = e.sz)
    (hr : RdsFs enc P W 0 l e Q) : Rds enc P W t e Q := by
  intro Js cs x hx
  split at hl
  · rename_i fs hs
    simp only [Option.some.injEq] at hl
    subst hl
    obtain ⟨xs, n, _, rfl, hlen, hxs, hg⟩ := DataW.trod_struct hs hx
    obtain ⟨a, ha, hq⟩ := hr n cs xs (by simpa using hxs) (fun i f hi => by
      rw [List.getElem?_map, Option.map_eq_some_iff] at hi
      obtain ⟨f', hf', rfl⟩ := hi
      exact hg i f' (by simpa using hf'))
    rw [List.drop_zero, List.take_of_length_le (by omega)] at ha
    refine ⟨a, ha, fun r hw => hq r ?_⟩
    simp only [DataW.weights, hs] at hw
    simpa [List.map_map, Function.comp_def] using hw
  · cases hl
variable {r0 : Reach} {b0 : Nat}
theorem open_agg {t : TypeId} {fs : Array Field} {α : Type} {e : Enc α} {Q : Nat → α → Prop} (hs : P.underlying t = some (.struct fs)) (h : Rds enc P W t e Q) {v : Value} {d : DataW H} {p : List MemPlace} (hv : Value.okWide P W r0 b0 t v)
    (hd : DataW.Trod enc P W 0 (fun _ => true) true t v d p) (hr : ∀ n ∈ d.weights P t, n ≤ reachBytes) : ∃ a, v = .agg ⟨e.enc a⟩ ∧ Q reachBytes a := by
  obtain ⟨cs, rfl, hsz⟩ := okWide_struct hs hv
  obtain ⟨Js, hf⟩ := hd
  obtain ⟨a, ha, hq⟩ := h Js _ _ hf
  refine ⟨a, ?_, hq _ (by rw [List.all_eq_true]; intro n hn; exact decide_eq_true (hr n hn))⟩
  simp only [Value.cells] at ha
  rw [← ha]
end
end Go.Proofs.YtoflbpmbkmephaaGreatDoor
namespace Go.Proofs.YtoflbpmbkmephaaGreatDoor
theorem Fi : reachBytes ≤ 140737488355328 := by decide
section
variable {H : Type} {enc : TypeId × Value → H} {P : Program} {W : World}
abbrev EvV := Int × Int × Int × List UInt8 × Int × List UInt8 × List UInt8 × List UInt8
def EvQ (r : Nat) (e : EvV) : Prop := (Lit.int .i64 e.1).wf = true ∧ (Lit.int .i64 e.2.1).wf = true ∧ (Lit.int .u32 e.2.2.1).wf = true ∧ e.2.2.2.1.length ≤ r ∧ (Lit.int .i64 e.2.2.2.2.1).wf = true ∧ e.2.2.2.2.2.1.length ≤ r ∧ e.2.2.2.2.2.2.1.length ≤ r ∧ e.2.2.2.2.2.2.2.length ≤ r
theorem ev_rds : Rds enc Tryz.prog W 52 (Qw (Nz .i64) (Qw (Nz .i64) (Qw (Nz .u32) (Qw Qi (Qw (Nz .i64) (Qw Qi (Qw Qi Qi))))))) EvQ :=
  F3 (l := [(3, 0), (3, 1), (50, 2), (9, 3), (2, 4), (9, 5), (9, 6), (9, 7)]) (by kernel_rfl) (by kernel_rfl)
    (G2 (B9 Tryz.underlying3) (by kernel_rfl) (G2 (B9 Tryz.underlying3) (by kernel_rfl) (G2 (B9 Tryz.underlying50) (by kernel_rfl) (G2 (Ca Tryz.underlying9) (by kernel_rfl)
      (G2 (B9 Tryz.underlying2) (by kernel_rfl) (G2 (Ca Tryz.underlying9) (by kernel_rfl) (G2 (Ca Tryz.underlying9) (by kernel_rfl) (fs_one (Ca Tryz.underlying9) (by kernel_rfl)))))))))
theorem u32_wf {a : Int} (h : (Lit.int .u32 a).wf = true) : 0 ≤ a ∧ a < 4294967296 := by
  simp [Lit.wf, IntKind.min, IntKind.max, IntKind.signed, IntKind.bits] at h
  omega
end
end Go.Proofs.YtoflbpmbkmephaaGreatDoor
namespace Go.Proofs.YtoflbpmbkmephaaGreatDoor
open Go.RowKit
abbrev Fj : List (String × DataW Unit) := [("math/bits.deBruijn32tab", Rows.laid_math_bits_deBruijn32tab), ("math/bits.deBruijn64tab", Rows.laid_math_bits_deBruijn64tab), ("internal/strconv.uint64pow10", Rows.laid_internal_strconv_uint64pow10)
  , ("unicode/utf8.acceptRanges", Rows.laid_unicode_utf8_acceptRanges), ("unicode/utf8.first", Rows.laid_unicode_utf8_first)
  ]
theorem gTab : Tryz.prog.globalNamed N3 = some 1 := by kernel_rfl
theorem gTabType : (Tryz.prog.globals[1]?).map (·.type) = some 209 := by kernel_rfl
theorem cellsTab : Tryz.prog.cellsOf 209 = 20 := by kernel_rfl
theorem cellsU64 : Tryz.prog.cellsOf 196 = 1 := by kernel_rfl
theorem laid_of {W : World} (h : laidMetH Tryz.prog Fj W) : Yp W := by
  have h1 := h.filter (fun x => x.1 == N3)
  have e : Fj.filter (fun x => x.1 == N3) = [(N3, Lib.tabData .u64 Lib.pow10Tab)] := by kernel_rfl
  rw [e] at h1
  have ht : Lib.TabIs Tryz.prog W N3 .u64 Lib.pow10Tab := Lib.tabIs_of_head (rest := []) gTab gTabType Tryz.underlying209 Tryz.underlying196 cellsU64 cellsTab h1
  refine ⟨ht, fun g hg => ?_⟩
  obtain rfl := Option.some.inj (gTab.symm.trans hg)
  have := ht.cell gTab 0 (by decide)
  exact block_lt_of_cell this
def cells1 : DataW Unit → List Value
  | .lit (.int k z) => [.int k z]
  | .lit (.bool b) => [.bool b]
  | _ => []
def cells2 : DataW Unit → List Value
  | .agg l => l.flatMap cells1
  | d => cells1 d
def cells3 : DataW Unit → List Value
  | .agg l => l.flatMap cells2
  | d => cells2 d
def Rk (d : DataW Unit) : Obj → Obj
  | .cells _ t frozen => .cells (cells3 d).toArray t frozen
  | o => o
noncomputable def D2 (os : Os) : World :=
  { World.holding Tryz.prog os ⟨#[], #[], []⟩ with heap := ((((World.holding Tryz.prog os ⟨#[], #[], []⟩).heap.modify 4 (Rk Rows.laid_math_bits_deBruijn32tab)).modify 5 (Rk Rows.laid_math_bits_deBruijn64tab)).modify 1 (Rk Rows.laid_internal_strconv_uint64pow10)
    |>.modify 3 (Rk Rows.laid_unicode_utf8_acceptRanges) |>.modify 2 (Rk Rows.laid_unicode_utf8_first)
    ) }
end Go.Proofs.YtoflbpmbkmephaaGreatDoor
namespace Go.Proofs.YtoflbpmbkmephaaGreatDoor
open Go.ChangeShapes Go.WideShapes Go.ChangeAt Go.RowKit
open Go.ChangeMaps (open_string shut_string)
theorem G3 (H : Type) (enc : TypeId × Value → H) (W : World) (base : Nat) (args : Array Value) (ds gs : List (DataW H)) (before : List MemPlace) (vt : List TypeId)
    (hval : ∀ (j : Nat) t v, Tryz.f10.params[j]? = some t → args[j]? = some v → Value.okWide Tryz.prog W .any base t v)
    (hW : DataW.Whole enc Tryz.prog Tryz.f10.params.toList Rows.scriptBackSpec.vars false W args.toList ds gs before) (hL : laidMetH Tryz.prog Rows.scriptBackRow.laid W)
    (hZ : (DataW.weightsEach Tryz.prog (Tryz.f10.params.toList ++ vt) (ds ++ gs)).all (· ≤ reachBytes) = true) :
    Calls Tryz.prog 10 args W fun e W' => ∃ v, e = .returned v ∧ Rows.scriptBackSpec.post enc Tryz.prog Tryz.f10 false true false false W args v W' := by
  have hW' := hW
  obtain ⟨p, q, hA0, hV, rfl, hfz, hnd⟩ := hW
  have hA : DataW.TrodAll enc Tryz.prog W 0 (fun _ => true) true Tryz.f10.params.toList args.toList ds p := hA0
  rw [Tryz.params10] at hA hval hZ
  obtain ⟨v0, vs0, d0, ds0, p0, q0, hargs, rfl, rfl, h0, r0⟩ := trodAll_cons hA
  obtain ⟨v1, vs1, d1, ds1, p1, q1, rfl, rfl, rfl, h1, r1⟩ := trodAll_cons r0
  obtain ⟨rfl, rfl, rfl⟩ := trodAll_nil r1
  obtain rfl : args = #[v0, v1] := by cases args; simp_all
  obtain ⟨rfl, rfl⟩ := trodVars_none hV
  have wz : ∀ (j : Nat) t d, _ → _ → ∀ n ∈ DataW.weights Tryz.prog t d, n ≤ reachBytes := fun j t d ht hd n hn => of_decide_eq_true (List.all_eq_true.1 hZ n (DataW.weights_mem_each (j := j) ht hd n hn))
  have k0 := h0
  have lt0 : ∀ x ∈ p0, x.block < W.heap.size := by obtain ⟨m, hm⟩ := k0; exact DataW.trod_lt m _ _ _ hm
  have k1 := h1
  have lt1 : ∀ x ∈ p1, x.block < W.heap.size := by obtain ⟨m, hm⟩ := k1; exact DataW.trod_lt m _ _ _ hm
  obtain ⟨⟨a0_0, a0_1, a0_2, a0_3, a0_4, a0_5, a0_6, a0_7⟩, rfl, q0_⟩ := open_agg Tryz.underlying52 ev_rds (hval 0 52 v0 rfl rfl) h0 (wz 0 52 d0 rfl rfl)
  obtain ⟨s1_, rfl, ed1_, _, hs1_⟩ := open_string Tryz.underlying9 (hval 1 9 v1 rfl rfl) h1
  have hn1_ : s1_.data.toList.length ≤ reachBytes := (wz 1 9 d1 rfl rfl) _ (by rw [ed1_]; simp [DataW.weights])
  clear hA0
  refine (Jv  a0_0 a0_1 a0_2 a0_3 a0_4 a0_5 a0_6 a0_7 s1_.data.toList W (laid_of hL)  true (R9 _ _ _ _ _ _ _ _ _ (u32_wf q0_.2.2.1) (Nat.le_trans q0_.2.2.2.1 Fi) (Nat.le_trans q0_.2.2.2.2.2.1 Fi) (Nat.le_trans q0_.2.2.2.2.2.2.1 Fi) (Nat.le_trans q0_.2.2.2.2.2.2.2 Fi))).mono fun e W' ⟨he, bel0⟩ => ?_
  have bel := SP.keeps bel0
  subst he
  exact ⟨_, rfl, _, _, _, [], _, [], hW', trodAll_mk1 (shut_bool Tryz.underlying4 _), (trodAll_cons_mk (Below.trod laidOut (by kernel_rfl) (of_decide_eq_true (by kernel_rfl)) k0 bel lt0) (trodAll_cons_mk (Below.trod laidOut (by kernel_rfl) (of_decide_eq_true (by kernel_rfl)) k1 bel lt1) trodAll_mk0)), rfl, bel.frame _, fun h => by cases h⟩
theorem G4 (os : Os) : laidMet Tryz.prog Rows.scriptBackRow.laid ((D2 os).forCall (fun _ _ => 0) ⟨#[], #[.agg #[.int .i64 0, .int .i64 0, .int .u32 0, .string ⟨#[]⟩, .int .i64 0, .string ⟨#[]⟩, .string ⟨#[]⟩, .string ⟨#[]⟩], .string ⟨#[]⟩], []⟩).memory :=
  laidMet_of_run' 8 (by kernel_rfl) (by kernel_rfl)
theorem Da (os : Os) {H : Type} (enc : TypeId × Value → H) : ∃ places, DataW.whole enc Tryz.prog ((D2 os).forCall (fun _ _ => 0) ⟨#[], #[.agg #[.int .i64 0, .int .i64 0, .int .u32 0, .string ⟨#[]⟩, .int .i64 0, .string ⟨#[]⟩, .string ⟨#[]⟩, .string ⟨#[]⟩], .string ⟨#[]⟩], []⟩).memory Tryz.f10.params.toList Rows.scriptBackSpec.vars false [.agg #[.int .i64 0, .int .i64 0, .int .u32 0, .string ⟨#[]⟩, .int .i64 0, .string ⟨#[]⟩, .string ⟨#[]⟩, .string ⟨#[]⟩], .string ⟨#[]⟩] 8 = some ([.agg [.lit (.int .i64 0), .lit (.int .i64 0), .lit (.int .u32 0), .lit (.string []), .lit (.int .i64 0), .lit (.string []), .lit (.string []), .lit (.string [])], .lit (.string [])], [], places) :=
  ⟨[], by kernel_rfl⟩
theorem Rw (os : Os) (started : os.Started) (H : Type) (enc : TypeId × Value → H) (F : Stop.Interp) :
    ReturnsInHanded {} Tryz.checked os 10 .any ((OpenSpec.ofChange Rows.scriptBackSpec).preRow enc Tryz.prog Tryz.f10 Rows.scriptBackRow.domain false Rows.scriptBackRow.laid) (((OpenSpec.ofChange Rows.scriptBackSpec).at F).post enc Tryz.prog Tryz.f10 false true false false) := by
  obtain ⟨places, hx⟩ := Da os enc
  refine returnsInHanded_of_row (C := Tryz.checked) (s := OpenSpec.ofChange Rows.scriptBackSpec) own started (by kernel_rfl) Tryz.func10
    (witness_row_at (enc := enc) (C := Tryz.checked) false (D2 os) #[.agg #[.int .i64 0, .int .i64 0, .int .u32 0, .string ⟨#[]⟩, .int .i64 0, .string ⟨#[]⟩, .string ⟨#[]⟩, .string ⟨#[]⟩], .string ⟨#[]⟩] rfl (by kernel_rfl) (by kernel_rfl) (by kernel_rfl)
      (OpenSpec.preRow_of_cond 8 hx (by kernel_rfl) (fun k hk => by cases hk) (by kernel_rfl) (G4 os))) ?_
  intro W base args ds gs before hval hW _ _ hZ hL _ _
  exact G3 H enc W base args ds gs before _ hval hW hL hZ
theorem D3 : Rows.ScriptBackSaid :=
  OpenClaim.holds_of_cond 10 Tryz.f10 rfl rfl rfl rfl rfl rfl rfl ⟨rfl, rfl, rfl, rfl, rfl⟩ rfl rfl rfl rfl rfl (by kernel_rfl) Tryz.func10 (by kernel_rfl)
    (of_decide_eq_true (by kernel_rfl)) (by unfold Func.isWrapper; first | (rw [if_pos (by decide +kernel)]; kernel_rfl) | (rw [if_neg (by decide +kernel)]; exact ⟨rfl, rfl⟩))
    (fun os started H enc _ F => by rw [OpenClaim.pre_eq_preRow]; exact Rw os started H enc F)
theorem Gr (f : FuncId) (fn : Func) (hf : Tryz.pinned.checked.prog.funcNamed Rows.scriptBackRow.func = some f) (hfn : Tryz.pinned.checked.prog.funcs[f]? = some fn) :
    false = Tryz.pinned.checked.prog.looks [] ∧ ∀ (j : Nat) t, fn.params[j]? = some t → Tryz.pinned.checked.prog.wantsStandIn t = false := by
  obtain rfl : f = 10 := Option.some.inj ((show Tryz.prog.funcNamed Rows.scriptBackRow.func = some 10 by kernel_rfl).symm.trans hf) |>.symm
  obtain rfl : fn = Tryz.f10 := (Option.some.inj (Tryz.func10.symm.trans hfn)).symm
  refine ⟨by kernel_rfl, fun j t ht => ?_⟩
  have ha : (Tryz.f10.params.toList.all fun t => !Tryz.prog.wantsStandIn t) = true := by kernel_rfl
  rw [List.all_eq_true] at ha
  have := ha t (by rw [← Array.getElem?_toList] at ht; exact List.mem_of_getElem? ht)
  have h2 : Tryz.prog.wantsStandIn t = false := by simpa using this
  exact h2
theorem scriptBack_card : Rows.ScriptBackCardSaid :=
  Claim7.holds_tied_plain_at .later [] _ _ _ _ D3 (fun _ h => by cases h) (by kernel_rfl) (fun _ h => by cases h) scriptBack_row_tie rfl ⟨rfl, rfl⟩ (by kernel_rfl) rfl Gr (by kernel_rfl)
#print axioms scriptBack_card
end Go.Proofs.YtoflbpmbkmephaaGreatDoor
