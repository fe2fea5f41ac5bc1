import Derived.Test.YtibipfdpembkgaaGreatDoorPkTopGrace3
set_option linter.unusedSimpArgs false
set_option linter.unusedVariables false
set_option linter.unusedSectionVars false
set_option maxRecDepth 100000
set_option maxHeartbeats 40000000
namespace Go.Ev
section
variable {P : Program} {Ck : CkT} {w₀ w : World} {K : Gd} {ι : Io} {h h' : H}
theorem copy_spec (s : SR Ck w₀ K ι h w) {ts : Array TypeId} {ty : TypeId} {vs : Array Value} {z : Nat} {dv xv : AV} {v0 v1 : Value} {k : Nat × List AV} {t e : TypeId} (t0 : ts[0]? = some t) (hu : P.underlying t = some (.slice e)) (hz : SZ P e z)
    (h0 : vs[0]? = some v0) (h1 : vs[1]? = some v1) (hd : VR ι dv v0) (hx : VR ι xv v1) (hk : Bg h xv z = some k) {S : Ou → Prop} (hS : RA (copyV dv k z h) S) :
    ∃ u h' v w' ι', S (u, h') ∧ (Builtin.copy_ ts ty vs).run P w = .ok v w' ∧ Ext h h' ι ι' ∧ SR Ck w₀ K ι' h' w' ∧ VR ι' u v := by
  obtain ⟨us, n1, n2, n3, n4⟩ := C3 (P := P) s hx hk
  have hklen : k.2.length = k.1 * z := by rw [← n1.len, n2]
  cases dv <;> try exact hS.elim
  · rename_i x o n c ex z'
    obtain ⟨hzz, hS⟩ := Y8 hS
    have hzz : z = z' := Nat.eq_of_beq_eq_true hzz
    obtain ⟨m, hm, hS⟩ := Q0 hS
    obtain ⟨l, hl, hS⟩ := Q0 hS
    obtain ⟨h', hst, hS⟩ := Q0 hS
    have hm : some (Vd (Nat.ble k.1 n) k.1 n) = some m := hm
    injection hm with hm
    rw [E9] at hm
    obtain ⟨hl1, hl2⟩ := N2 hl
    have hl1 : l = k.2.take (m * z) := hl1
    rw [VR] at hd
    obtain ⟨p, off, c', hp, rfl, g1, g2, g3, g4, g5⟩ := hd
    have hmk : m ≤ k.1 := by omega
    have hfirst := n4 m w rfl hmk
    have hvs : VRs ι l (us.take (m * z)) := by rw [hl1]; exact n1.take _
    have hrun : ∀ w', (storeCells ⟨p.cb, off, none⟩ (us.take (m * z)) 0).run P w = .ok () w' → (Builtin.copy_ ts ty vs).run P w = .ok (.int .i64 m) w' := by
      intro w' hw
      have e1 : Nat.min k.1 n = m := hm
      simp only [Builtin.copy_, t0, h0, h1, Sem.run_bind, run_underlying hu, Result.andThen_ok, n3, Q6 hz, e1, hfirst, hw, Sem.run_pure]
      rfl
    by_cases hm0 : m = 0
    · subst hm0
      have hl0 : l = [] := by rw [hl1]; simp
      rw [hl0] at hst
      refine ⟨_, h', _, w, ι, hS, hrun w (by simp [storeCells]), Ext.same (C2 hst), s.st0 hp hst, by rw [VR]; rfl⟩
    · have hoff : off = p.bs + o := g5.resolve_right (fun h => by omega)
      obtain ⟨w', r1, r2⟩ := s.stE P hst hp hvs
      exact ⟨_, h', _, w', ι, hS, hrun w' (by rw [hoff]; exact r1), Ext.same (C2 hst), r2, by rw [VR]; rfl⟩
  · rw [VR] at hd
    subst hd
    have hfirst := n4 0 w rfl (Nat.zero_le _)
    refine ⟨_, h, .int .i64 0, w, ι, hS, ?_, Ext.same rfl, s, by rw [VR]; rfl⟩
    have e1 : Nat.min k.1 0 = 0 := Nat.min_zero _
    simp only [Builtin.copy_, t0, h0, h1, Sem.run_bind, run_underlying hu, Result.andThen_ok, n3, Q6 hz, e1, hfirst, Sem.run_pure]
    rfl
theorem N7 {b : Nat} {o o' : Obj} (h : w.heap[b]? = some o) (hc : ∀ a t f, o ≠ .cells a t f) : (setObj b o').run P w = .ok () { w with heap := w.heap.setIfInBounds b o' } := by
  cases o <;> first | exact absurd rfl (hc _ _ _) | (simp only [setObj, Sem.run, h])
theorem SR.turnG (s : SR Ck w₀ K ι h w) {x : Pa} {a a' : AO} (ha : Q5 x h.rw = some a) (hro : h'.ro = h.ro) (hnx : h'.nx = h.nx) (hget : ∀ y, Q5 y h'.rw = (open Classical in if y = x then some a' else Q5 y h.rw)) {p : Pl} (hp : ι x = some p) {o : Obj} (hb : BR Ck ι p a' o) {w' : World}
    (h1 : w'.os = w.os) (h2 : w'.tape = w.tape) (h3 : w'.output = w.output) (h4 : w'.heap.size = w.heap.size) (h5 : w'.heap[p.cb]? = some o) (h6 : ∀ c, c ≠ p.cb → w'.heap[c]? = w.heap[c]?) :
    SR Ck w₀ K ι h' w' := by
  obtain ⟨p', o0, q1, q2, q3, q4⟩ := s.rw x a ha
  rw [hp] at q1; injection q1 with q1; subst q1
  have hsome : ∀ y, (Q5 y h'.rw).isSome → (Q5 y h.rw).isSome := fun y hy => by
    rw [hget y] at hy
    by_cases e : y = x
    · subst e; rw [ha]; rfl
    · simpa only [e, if_false] using hy
  refine ⟨h1.trans s.os, h2.trans s.tape, h3.trans s.output, fun c q hc => ?_, ?_, by rw [hro]; exact s.ro, fun y z q r hy hz => s.inj y z q r (hsome y hy) (hsome z hz), by rw [hro]; exact s.injo, by rw [hnx]; exact s.new, fun y q hq => by rw [h4]; exact s.lt y q hq, s.one⟩
  · have : c ≠ p.cb := fun e => by subst e; rw [q3] at hc; cases hc
    exact (h6 c this).trans (s.gd c q hc)
  · intro y b hy
    rw [hget y] at hy
    by_cases e : y = x
    · subst e
      simp at hy; subst hy
      exact ⟨p, o, hp, h5, q3, hb⟩
    · simp only [e, if_false] at hy
      obtain ⟨q, c, r1, r2, r3, r4⟩ := s.rw y b hy
      have ne : q.cb ≠ p.cb := fun he => e (s.inj y x q p (by rw [hy]; rfl) (by rw [ha]; rfl) r1 hp he)
      exact ⟨q, c, r1, (h6 _ ne).trans r2, r3, r4⟩
theorem Xm {x : Pa} {a' : AO} (hn : R4 x a' h = some h') : h'.ro = h.ro ∧ h'.nx = h.nx ∧ ∀ y, Q5 y h'.rw = (open Classical in if y = x then some a' else Q5 y h.rw) := by
  obtain ⟨ro, rw', nx⟩ := h
  obtain ⟨rw2, e1, hn⟩ := Qa (x := Nu (some a') x rw') hn
  injection hn with hn; subst hn
  exact ⟨rfl, rfl, fun y => V6 _ _ _ _ e1 y⟩
theorem SR.setObj (s : SR Ck w₀ K ι h w) {x : Pa} {a a' : AO} {p : Pl} {o o' : Obj} (ha : Q5 x h.rw = some a) (hp : ι x = some p) (ho : w.heap[p.cb]? = some o) (hc : ∀ a t f, o ≠ .cells a t f) (hb : BR Ck ι p a' o') (hro : h'.ro = h.ro) (hnx : h'.nx = h.nx)
    (hget : ∀ y, Q5 y h'.rw = (open Classical in if y = x then some a' else Q5 y h.rw)) : ∃ w', (Go.setObj p.cb o').run P w = .ok () w' ∧ SR Ck w₀ K ι h' w' := by
  refine ⟨_, N7 ho hc, s.turnG ha hro hnx hget hp hb rfl rfl rfl (by simp) ?_ (fun c hne => ?_)⟩
  · show (w.heap.setIfInBounds p.cb o')[p.cb]? = some o'
    have : p.cb < w.heap.size := (Array.getElem?_eq_some_iff.1 ho).1
    simp [this]
  · show (w.heap.setIfInBounds p.cb o')[c]? = w.heap[c]?
    simp [Ne.symm hne]
theorem Bm (s : SR Ck w₀ K ι h w) {x : Pa} {es : Es} {clock : Nat} (ha : Q5 x h.rw = some (.map es clock)) : ∃ p l, ι x = some p ∧ w.heap[p.cb]? = some (.map l clock) ∧ Xy ι es l.toList ∧ p.by' = p.by' := by
  obtain ⟨p, o, h1, h2, h3, l, rfl, h4⟩ := s.rw x _ ha
  exact ⟨p, l, h1, h2, h4, rfl⟩
end
end Go.Ev
namespace Go.Ev
section
variable {P : Program} {w : World} {ι : Io} {t kt e : TypeId} {g : Tg0} {a : AV} {v : Value}
theorem F9 {b : AV} {u : Value} (hk : Ud g a = true) (hv : VR ι a v) (hb : VR ι b u) (h : U3 a b = some true) : u = v ∧ Instr.sameBits 10000 v v = true := by
  cases g <;> cases a <;> try (cases hk; done)
  all_goals (cases b <;> try (cases h; done))
  all_goals (rw [VR] at hv)
  all_goals (rw [VR] at hb)
  · obtain ⟨rfl, h1⟩ := hv
    obtain ⟨rfl, h2⟩ := hb
    injection h with h
    rw [F6] at h
    have h := eq_of_beq h
    subst h
    exact ⟨rfl, by simp only [Instr.sameBits]; rw [beq_toListBytes]; simp⟩
  · subst hv; subst hb
    injection h with h
    rw [Re] at h
    have h := eq_of_beq h
    subst h
    exact ⟨rfl, by simp [Instr.sameBits]⟩
  · subst hv; subst hb
    obtain ⟨h1, h2⟩ := Qx h
    have := Jx h1
    clear h
    subst this
    injection h2 with h2
    rw [Rf] at h2
    have h := eq_of_beq h2
    subst h
    exact ⟨rfl, by simp [Instr.sameBits]⟩
theorem updE_ag {l : List AV} {f : AV × AV × Nat → AV × AV × Nat} {x : AV × AV × Nat} {es : Es} : updE (.ag l) f (x :: es) = none := by
  have : U3 (.ag l) x.1 = none := by cases x.1 <;> rfl
  have e : updE (.ag l) f (x :: es) = bd (U3 (.ag l) x.1) fun q => Vd q (some (some (f x :: es))) (bd (updE (.ag l) f es) fun y => match y with | some r => some (some (x :: r)) | none => some none) := rfl
  rw [e, this]
theorem Ha {k : TypeDesc} {f : AV × AV × Nat → AV × AV × Nat} {gg : MapEntry → MapEntry} (hk : Ud g a = true) (hv : VR ι a v) (ht : Bk P kt g) (hu : P.underlying kt = some k)
    (hfg : ∀ (x : AV × AV × Nat) (m : MapEntry), m.key = v → VR ι x.2.1 m.val → m.born = x.2.2 → VR ι (f x).1 (gg m).key ∧ VR ι (f x).2.1 (gg m).val ∧ (gg m).born = (f x).2.2) :
    ∀ {es : Es} {l : List MapEntry} {r : Option Es} (i : Nat), Xy ι es l → updE a f es = some r →
    match r with
    | none => Instr.findNow k v l i = some none
    | some es' => ∃ j m, Instr.findNow k v l i = some (some (i + j, m.val)) ∧ l[j]? = some m ∧ m.key = v ∧ Xy ι es' (l.modify j gg)
  | [], l, r, i, he, h => by
    have he : l = [] := he
    subst he
    have h : some none = some r := h
    injection h with h; subst h; rfl
  | x :: es, l, r, i, he, h => by
    obtain ⟨m, s, rfl, h1, h2, h3, h4⟩ := he
    obtain ⟨q, hq, h⟩ := Qa (x := U3 a x.1) h
    have hs := Ul hk hv ht hu h1 hq
    cases q with
    | true =>
      have h : some (some (f x :: es)) = some r := h
      injection h with h; subst h
      obtain ⟨hkey, _⟩ := F9 hk hv h1 hq
      obtain ⟨f1, f2, f3⟩ := hfg x m hkey h2 h3
      exact ⟨0, m, by simp [Instr.findNow, hs], rfl, hkey, by simp; exact ⟨_, _, rfl, f1, f2, f3, h4⟩⟩
    | false =>
      have h : bd (updE a f es) (fun y => match y with | some r => some (some (x :: r)) | none => some none) = some r := h
      obtain ⟨y, hy, h⟩ := Qa h
      have ih := Ha hk hv ht hu hfg (i + 1) h4 hy
      cases y with
      | none =>
        injection h with h; subst h
        have ih : Instr.findNow k v s (i + 1) = some none := ih
        simp only [Instr.findNow, hs]; exact ih
      | some es' =>
        injection h with h; subst h
        obtain ⟨j, m', g1, g2, g3, g4⟩ := ih
        refine ⟨j + 1, m', by simp only [Instr.findNow, hs, g1, Nat.add_assoc, Nat.add_comm 1 j], by simpa using g2, g3, ?_⟩
        simp only [List.modify_succ_cons]
        exact ⟨_, _, rfl, h1, h2, h3, g4⟩
theorem Jb : ∀ {es es' : Es} {l l' : List MapEntry}, Xy ι es l → Xy ι es' l' → Xy ι (es ++ es') (l ++ l')
  | [], es', l, l', h, h' => by have h : l = [] := h; subst h; exact h'
  | x :: es, es', l, l', h, h' => by obtain ⟨m, s, rfl, h1, h2, h3, h4⟩ := h; exact ⟨m, _, rfl, h1, h2, h3, Jb h4 h'⟩
section
variable {Ck : CkT} {w₀ : World} {K : Gd} {h h' : H}
theorem Hb (s : SR Ck w₀ K ι h w) {m b : AV} {vm vb : Value} (hm : VR ι m vm) (hv : VR ι a v) (hb : VR ι b vb) (ht : P.underlying t = some (.map kt e)) (hk : Bk P kt g) {S : Ou → Prop} (hS : RA (mupV g m a b h) S) :
    ∃ h' w' ι', S (.tu [], h') ∧ (Instr.mapUpdate t vm v vb).run P w = .ok () w' ∧ Ext h h' ι ι' ∧ SR Ck w₀ K ι' h' w' := by
  cases m <;> try exact hS.elim
  rename_i x
  obtain ⟨hok, hS⟩ := Y8 hS
  obtain ⟨ob, ho, hS⟩ := Q0 hS
  cases ob <;> try exact hS.elim
  rename_i es clock
  obtain ⟨r, hr, hS⟩ := Q0 hS
  rw [VR] at hm
  obtain ⟨p, hp, rfl⟩ := hm
  obtain ⟨p', l, q1, q2, q3, _⟩ := Bm s ho
  rw [hp] at q1; injection q1 with q1; subst q1
  obtain ⟨k, hu⟩ := Nm hk
  have hf := Ha (f := fun e => (a, b, e.2.2)) (gg := fun e => { e with key := v, val := vb }) hok hv hk hu (fun x m h1 h2 h3 => ⟨hv, hb, h3⟩) 0 q3 hr
  obtain ⟨_, _, _, _, _, _, rfl2, _⟩ := s.rw x _ ho
  cases r with
  | none =>
    have hf : Instr.findNow k v l.toList 0 = some none := hf
    obtain ⟨es', hes, hS⟩ := Q0 hS
    obtain ⟨c', hc, hS⟩ := Q0 hS
    obtain ⟨h', hput, hS3⟩ := Q0 hS
    have hc : some (clock + 1) = some c' := hc
    injection hc with hc; subst hc
    have hes := Zn hes
    subst hes
    obtain ⟨e1, e2, e3⟩ := Xm hput
    obtain ⟨w', r1, r2⟩ := s.setObj (P := P) (h' := h') (o' := .map (l.push { key := v, val := vb, born := clock }) (clock + 1)) (a' := .map (es ++ [(a, b, clock)]) (clock + 1)) ho hp q2 (by intros; simp)
      ⟨_, rfl, by simp only [Array.toList_push]; exact Jb q3 ⟨_, _, rfl, hv, hb, rfl, rfl⟩⟩ e1 e2 e3
    refine ⟨h', w', ι, hS3, ?_, Ext.same e2, r2⟩
    simp only [Instr.mapUpdate, Sem.run_bind, run_underlying ht, Result.andThen_ok, Vo q2 (by intros; simp), V2 hok hv hk, Instr.findKey, run_underlying hu, hf, Sem.run_pure, r1]
  | some es' =>
    obtain ⟨j, m', g1, g2, g3, g4⟩ := hf
    obtain ⟨h', hput, hS⟩ := Q0 hS
    obtain ⟨e1, e2, e3⟩ := Xm hput
    obtain ⟨w', r1, r2⟩ := s.setObj (P := P) (h' := h') (o' := .map (l.modify j fun e => { e with key := v, val := vb }) clock) (a' := .map es' clock) ho hp q2 (by intros; simp)
      ⟨_, rfl, by rw [Array.toList_modify]; exact g4⟩ e1 e2 e3
    refine ⟨h', w', ι, hS, ?_, Ext.same e2, r2⟩
    have g2' : l[j]? = some m' := by simpa using g2
    rw [Nat.zero_add] at g1
    have hsb : Instr.sameBits 10000 v v = true := by
      clear g1 r1
      cases g <;> cases a <;> first | (cases hok; done) | skip
      all_goals (rw [VR] at hv)
      · obtain ⟨rfl, _⟩ := hv; simp only [Instr.sameBits]; rw [beq_toListBytes]; simp
      · subst hv; simp [Instr.sameBits]
      · subst hv; simp [Instr.sameBits]
      · exfalso
        cases es with
        | nil => cases hr
        | cons x es =>
          rw [updE_ag] at hr
          cases hr
    simp only [Instr.mapUpdate, Sem.run_bind, run_underlying ht, Result.andThen_ok, Vo q2 (by intros; simp), V2 hok hv hk, Instr.findKey, run_underlying hu, g1, Sem.run_pure, g2', Option.map_some, Option.getD_some, g3, Instr.keyThatStays, hsb, if_true, r1]
end
end
end Go.Ev
namespace Go.Ev
theorem G0 {f : AV × AV × Nat → Bool} : ∀ {es r : Es}, Cr f es = some r → r = es.filter f
  | [], r, h => by injection h with h; subst h; rfl
  | e :: es, r, h => by
    have h : bd (Cr f es) (fun r => Vd (f e) (some (e :: r)) (some r)) = some r := h
    obtain ⟨r', h1, h2⟩ := Qa h
    have ih := G0 h1
    cases hf : f e with
    | true => rw [hf, Ve] at h2; injection h2 with h2; rw [← h2, ih, List.filter_cons_of_pos hf]
    | false => rw [hf, Q9] at h2; injection h2 with h2; rw [← h2, ih, List.filter_cons_of_neg (by rw [hf]; decide)]
theorem N8 (b : Nat) : ∀ l : List Nat, Hx b l = l.contains b
  | [] => rfl
  | a :: l => by
    show orB (Nat.beq a b) (Hx b l) = _
    rw [orB_eq, N8 b l, Ni, List.contains_cons]
    congr 1
    rw [Bool.eq_iff_iff]; simp only [beq_iff_eq]; exact eq_comm
theorem allE_eq {f : AV × AV × Nat → Bool} : ∀ es : Es, allE f es = es.all f
  | [] => rfl
  | e :: es => by
    show Z3 (f e) (allE f es) = _
    rw [N3, allE_eq es]; rfl
theorem geNot (a b : Nat) : decide (a ≥ b) = !decide (a < b) := by by_cases h : a < b <;> simp [h] <;> omega
theorem G1 {α : Type} (l : List α) : Ux l = l.isEmpty := by cases l <;> rfl
theorem Bn : ∀ es : Es, lf (M := List (Option (AV × AV × Nat))) [] (fun e _ ih => some e :: ih) es = es.map some
  | [] => rfl
  | e :: es => by
    show some e :: lf (M := List (Option (AV × AV × Nat))) [] (fun e _ ih => some e :: ih) es = _
    rw [Bn es]; rfl
section
variable {P : Program} {w : World} {ι : Io}
theorem Jc {f : AV × AV × Nat → Bool} {p : MapEntry → Bool} (hp : ∀ (e : AV × AV × Nat) (m : MapEntry), m.born = e.2.2 → p m = f e) : ∀ {es : Es} {l : List MapEntry}, Xy ι es l → Xy ι (es.filter f) (l.filter p)
  | [], l, h => by have h : l = [] := h; subst h; exact rfl
  | e :: es, l, h => by
    obtain ⟨m, s, rfl, h1, h2, h3, h4⟩ := h
    have ih := Jc hp h4
    have := hp e m h3
    cases hf : f e with
    | true => rw [List.filter_cons_of_pos hf, List.filter_cons_of_pos (by rw [this, hf])]; exact ⟨m, _, rfl, h1, h2, h3, ih⟩
    | false => rw [List.filter_cons_of_neg (by rw [hf]; decide), List.filter_cons_of_neg (by rw [this, hf]; decide)]; exact ih
theorem C5 {f : AV × AV × Nat → Bool} {p : MapEntry → Bool} (hp : ∀ (e : AV × AV × Nat) (m : MapEntry), m.born = e.2.2 → p m = f e) : ∀ {es : Es} {l : List MapEntry}, Xy ι es l → l.all p = es.all f
  | [], l, h => by have h : l = [] := h; subst h; rfl
  | e :: es, l, h => by
    obtain ⟨m, s, rfl, h1, h2, h3, h4⟩ := h
    simp only [List.all_cons, hp e m h3, C5 hp h4]
theorem C6 : ∀ {es : Es} {l : List MapEntry} (i : Nat) {m : MapEntry}, Xy ι es l → l[i]? = some m → ∃ e, es[i]? = some e ∧ VR ι e.1 m.key ∧ VR ι e.2.1 m.val ∧ m.born = e.2.2
  | [], l, i, m, h, hi => by have h : l = [] := h; subst h; simp at hi
  | e :: es, l, i, m, h, hi => by
    obtain ⟨m', s, rfl, h1, h2, h3, h4⟩ := h
    cases i with
    | zero => simp at hi; subst hi; exact ⟨e, rfl, h1, h2, h3⟩
    | succ i => simp at hi; obtain ⟨x, g1, g2⟩ := C6 i h4 hi; exact ⟨x, by simpa using g1, g2⟩
theorem Fd (n : Nat) (hn : 0 < n) : ∃ k w', k < n ∧ (choose (.mapNext n)).run P w = .ok k w' ∧ w'.heap = w.heap ∧ w'.os = w.os ∧ w'.tape = w.tape ∧ w'.output = w.output := by
  by_cases hf : (Question.mapNext n).forced = true
  · exact ⟨0, w, hn, by simp [hf], rfl, rfl, rfl, rfl⟩
  · refine ⟨_, { w with drawn := w.drawn + 1 }, ?_, by simp only [run_choose, hf]; rfl, rfl, rfl, rfl, rfl⟩
    simp only [Question.cut]
    exact Nat.mod_lt _ hn
section
variable {Ck : CkT} {w₀ : World} {K : Gd} {h h' : H}
theorem next_spec (s : SR Ck w₀ K ι h w) {it : AV} {vi : Value} {ty : TypeId} (hi : VR ι it vi) {S : Ou → Prop} (hS : RA (nextV it h) S) :
    ∃ u h' v w' ι', S (u, h') ∧ (Instr.next vi false ty).run P w = .ok v w' ∧ Ext h h' ι ι' ∧ SR Ck w₀ K ι' h' w' ∧ VR ι' u v := by
  have over : ∀ {ι}, VR ι (.tu [.b false]) (.tuple #[.bool false]) := fun {ι} => by rw [VR]; exact ⟨_, rfl, by rw [VRs]; exact ⟨_, _, rfl, by rw [VR], by rw [VRs]⟩⟩
  cases it <;> try exact hS.elim
  rename_i x o
  cases o with
  | succ o => exact hS.elim
  | zero =>
  obtain ⟨ob, ho, hS⟩ := Q0 hS
  rw [VR] at hi
  obtain ⟨p, hp, rfl⟩ := hi
  obtain ⟨p', ob', q1, q2, q3, q4⟩ := s.rw x ob ho
  rw [hp] at q1; injection q1 with q1; subst q1
  cases ob <;> try exact hS.elim
  rename_i m since seen last
  obtain ⟨hbs, m', hm', rfl⟩ := q4
  rw [hbs]
  cases m with
  | none =>
    have hm' : m' = none := hm'
    subst hm'
    exact ⟨_, h, _, w, ι, hS, by simp only [Instr.next, Sem.run_bind, Vo q2 (by intros; simp), Result.andThen_ok, Sem.run_pure], Ext.same rfl, s, over⟩
  | some m =>
  obtain ⟨pm, hpm, rfl⟩ := hm'
  obtain ⟨mo, h3, hS⟩ := Q0 hS
  obtain ⟨pm', mo', r1, r2, r3⟩ := s.obj h3
  rw [hpm] at r1; injection r1 with r1; subst r1
  cases mo <;> try exact hS.elim
  rename_i es clock
  obtain ⟨l, rfl, hents⟩ := r3
  have htest : (!seen.toArray.isEmpty && !l.isEmpty && l.all (fun e => decide (e.born ≥ last))) = Z3 (Y2 (Ux seen)) (Z3 (Y2 (Ux es)) (allE (fun e => Nat.ble last e.2.2) es)) := by
    have e1 : l.all (fun e => decide (e.born ≥ last)) = es.all (fun e => Nat.ble last e.2.2) := by
      rw [← Array.all_toList]
      exact C5 (fun e m hb => by rw [ble_eq, hb]) hents
    have e2 : l.isEmpty = es.isEmpty := by
      have := Nn hents
      cases es with
      | nil => simp at this; subst this; rfl
      | cons a es =>
        have hne : l ≠ #[] := fun e => by subst e; simp at this
        simp [hne]
    rw [N3, N3, Jy, Jy, G1, G1, allE_eq, e1, e2, Bool.and_assoc]
    congr 2
    cases seen <;> rfl
  have hS : RA (Vd (Z3 (Y2 (Ux seen)) (Z3 (Y2 (Ux es)) (allE (fun e => Nat.ble last e.2.2) es))) .z
          (ob (Cr (fun e => Y2 (Hx e.2.2 seen)) es) fun left =>
           ob (Cr (fun e => Nat.blt e.2.2 since) left) fun old => ob (Cr (fun e => Y2 (Nat.blt e.2.2 since)) left) fun new =>
           ob (Dl (lf (M := List (Option (AV × AV × Nat))) [] (fun e _ ih => some e :: ih) old) (lf (M := List (Option (AV × AV × Nat))) [] (fun e _ ih => some e :: ih) new)) fun es' =>
           Rs.all (fun c => match c with
             | none => .one (AV.tu [.b false], h)
             | some e => ob (Dl seen [e.2.2]) fun seen => ob (R4 x (.iter (some m) since seen clock) h) fun h => .one (AV.tu [.b true, e.1, e.2.1], h)) (Vd (Ux old) (none :: es') es'))) S := hS
  cases ht : Z3 (Y2 (Ux seen)) (Z3 (Y2 (Ux es)) (allE (fun e => Nat.ble last e.2.2) es)) with
  | true => rw [ht, Ve] at hS; exact hS.elim
  | false =>
  rw [ht, Q9] at hS
  rw [ht] at htest
  obtain ⟨left, hleft, hS⟩ := Q0 hS
  obtain ⟨old, hold, hS⟩ := Q0 hS
  obtain ⟨new, hnew, hS⟩ := Q0 hS
  obtain ⟨es', hes', hS⟩ := Q0 hS
  have hS := RA_all hS
  have hleft := G0 hleft
  have hold := G0 hold
  have hnew := G0 hnew
  have hes' := Zn hes'
  rw [Bn, Bn, ← List.map_append] at hes'
  have eleft : Xy ι left (l.filter fun e => !seen.toArray.contains e.born).toList := by
    rw [hleft, Array.toList_filter]
    exact Jc (fun e m hb => by rw [Jy, N8, hb]; simp) hents
  have eold : Xy ι old ((l.filter fun e => !seen.toArray.contains e.born).filter fun e => decide (e.born < since)).toList := by
    rw [hold, Array.toList_filter]
    exact Jc (fun e m hb => by rw [Do, hb]) eleft
  have enew : Xy ι new ((l.filter fun e => !seen.toArray.contains e.born).filter fun e => decide (e.born ≥ since)).toList := by
    rw [hnew, Array.toList_filter]
    exact Jc (fun e m hb => by rw [Jy, Do, hb]; exact geNot _ _) eleft
  generalize hO : ((l.filter fun e => !seen.toArray.contains e.born).filter fun e => decide (e.born < since)) = O at eold
  generalize hN : ((l.filter fun e => !seen.toArray.contains e.born).filter fun e => decide (e.born ≥ since)) = N at enew
  have ecat : Xy ι (old ++ new) (O ++ N).toList := by rw [Array.toList_append]; exact Jb eold enew
  obtain ⟨cands, hC⟩ : ∃ cands : Array (Option MapEntry), cands = (if O.isEmpty then #[none] else #[]) ++ (O ++ N).map some := ⟨_, rfl⟩
  have hnil : Ux old = O.isEmpty := by
    rw [G1]
    have := Nn eold
    cases old with
    | nil => simp at this; subst this; rfl
    | cons a old =>
      have hne : O ≠ #[] := fun e => by subst e; simp at this
      simp [hne]
  have hpos : 0 < cands.size := by
    rw [hC]
    cases hO2 : O.isEmpty with
    | true => simp; omega
    | false =>
      have : O.size ≠ 0 := fun e => by have := Array.eq_empty_of_size_eq_zero e; subst this; simp at hO2
      simp; omega
  obtain ⟨k, w₁, hk, hrun, w1, w2, w3, w4⟩ := Fd (P := P) (w := w) cands.size hpos
  have s1 : SR Ck w₀ K ι h w₁ := s.same w1 w2 w3 w4
  have hc : (cands[k]? = some none ∧ none ∈ Vd (Ux old) (none :: es') es') ∨ ∃ (mm : MapEntry) (e : AV × AV × Nat), cands[k]? = some (some mm) ∧ some e ∈ Vd (Ux old) (none :: es') es' ∧ VR ι e.1 mm.key ∧ VR ι e.2.1 mm.val ∧ mm.born = e.2.2 := by
    have tail : ∀ (i : Nat) (mm : MapEntry), (O ++ N)[i]? = some mm → ∃ e, some e ∈ es' ∧ VR ι e.1 mm.key ∧ VR ι e.2.1 mm.val ∧ mm.born = e.2.2 := fun i mm hi => by
      obtain ⟨e, g1, g2⟩ := C6 i ecat (by rw [Array.getElem?_toList]; exact hi)
      exact ⟨e, by rw [hes']; exact List.mem_map.2 ⟨e, List.mem_of_getElem? g1, rfl⟩, g2⟩
    rw [hnil]
    have hkC := hk
    rw [hC] at hkC ⊢
    cases hO2 : O.isEmpty with
    | true =>
      rw [Ve]
      simp only [if_true]
      cases k with
      | zero => left; exact ⟨by rw [Array.getElem?_append_left (by simp)]; rfl, by simp⟩
      | succ k =>
        right
        rw [Array.getElem?_append_right (by simp), Array.getElem?_map]
        simp only [List.size_toArray, List.length_cons, List.length_nil, Nat.zero_add, Nat.add_sub_cancel]
        have hlt : k < (O ++ N).size := by rw [hO2] at hkC; simp at hkC ⊢; omega
        obtain ⟨e, g1, g2⟩ := tail k (O ++ N)[k] (by simp [hlt])
        exact ⟨_, e, by simp [hlt], List.mem_cons_of_mem _ g1, g2⟩
    | false =>
      rw [Q9]
      right
      simp only [Bool.false_eq_true, if_false, Array.empty_append, Array.getElem?_map]
      have hlt : k < (O ++ N).size := by rw [hO2] at hkC; simpa using hkC
      obtain ⟨e, g1, g2⟩ := tail k (O ++ N)[k] (by simp [hlt])
      exact ⟨_, e, by simp [hlt], g1, g2⟩
  have hstart : ∀ {X : Sem Value}, (∀ c, cands[k]? = some c → ((match c with
      | some e => do setObj p.cb (.mapIter (some pm.cb) since (seen.toArray.push e.born) clock); pure (.tuple #[.bool true, e.key, e.val])
      | none => pure (.tuple #[.bool false]) : Sem Value)).run P w₁ = X.run P w₁) → (Instr.next (.pointer (some ⟨p.cb, 0, none⟩)) false ty).run P w = X.run P w₁ := by
    intro X hX
    have hrun' := hrun
    rw [hC] at hrun'
    simp only [Instr.next, Sem.run_bind, Vo q2 (by intros; simp), Result.andThen_ok, Vo r2 (by intros; simp), htest, Bool.false_eq_true, if_false, hO, hN, hrun']
    rw [← hC]
    have hlt : cands[k]? = some cands[k] := by simp [hk]
    rw [← hX _ hlt, hlt]
    cases cands[k] <;> rfl
  rcases hc with ⟨c1, c2⟩ | ⟨mm, e, c1, c2, c3, c4, c5⟩
  · have hSn := hS none c2
    refine ⟨_, h, .tuple #[.bool false], w₁, ι, hSn, ?_, Ext.same rfl, s1, over⟩
    rw [hstart (X := pure (.tuple #[.bool false])) (fun c hc => by rw [c1] at hc; injection hc with hc; subst hc; rfl)]
    rfl
  · have hSe := hS (some e) c2
    obtain ⟨seen', hs', hSe⟩ := Q0 hSe
    obtain ⟨h', hput, hSe⟩ := Q0 hSe
    have hs' := Zn hs'
    obtain ⟨e1, e2, e3⟩ := Xm hput
    have q2' : w₁.heap[p.cb]? = some (.mapIter (some pm.cb) since seen.toArray last) := by rw [w1]; exact q2
    obtain ⟨w', f1, f2⟩ := s1.setObj (P := P) (h' := h') (o' := .mapIter (some pm.cb) since (seen.toArray.push mm.born) clock) (a' := .iter (some m) since seen' clock) ho hp q2' (by intros; simp)
      ⟨hbs, some pm.cb, ⟨pm, hpm, rfl⟩, by rw [hs', c5]; simp⟩ e1 e2 e3
    refine ⟨_, h', .tuple #[.bool true, mm.key, mm.val], w', ι, hSe, ?_, Ext.same e2, f2, ?_⟩
    · rw [hstart (X := do setObj p.cb (.mapIter (some pm.cb) since (seen.toArray.push mm.born) clock); pure (.tuple #[.bool true, mm.key, mm.val])) (fun c hc => by rw [c1] at hc; injection hc with hc; subst hc; rfl)]
      simp only [Sem.run_bind, f1, Result.andThen_ok, Sem.run_pure]
    · rw [VR]
      exact ⟨_, rfl, by rw [VRs]; exact ⟨_, _, rfl, by rw [VR], by rw [VRs]; exact ⟨_, _, rfl, c3, by rw [VRs]; exact ⟨_, _, rfl, c4, by rw [VRs]⟩⟩⟩⟩
end
end
end Go.Ev
namespace Go.Ev
section
variable {P : Program} {Ck : CkT} {w₀ w : World} {K : Gd} {ι : Io} {h h' : H} {t kt e : TypeId} {g : Tg0} {a : AV} {v : Value}
theorem H5 (s : SR Ck w₀ K ι h w) {ts : Array TypeId} {ty : TypeId} {vs : Array Value} {z : Nat} {zs : List AV} {dv : AV} {v0 : Value} {t : TypeId} {e : TypeId} {vz : Value} (t0 : ts[0]? = some t) (hu : P.underlying t = some (.slice e)) (z1 : ZR P e vz) (z2 : ∀ ι, VRs ι zs vz.cells.toList) (z3 : zs.length = z) (h0 : vs[0]? = some v0) (hv : VR ι dv v0) {S : Ou → Prop} (hS : RA (clearV dv z zs h) S) :
    ∃ u h' v w' ι', S (u, h') ∧ (Builtin.clear_ ts ty vs).run P w = .ok v w' ∧ Ext h h' ι ι' ∧ SR Ck w₀ K ι' h' w' ∧ VR ι' u v := by
  have tu : ∀ {ι}, VR ι (.tu []) (.tuple #[]) := fun {ι} => by rw [VR]; exact ⟨#[], rfl, by rw [VRs]⟩
  cases dv <;> try exact hS.elim
  · rename_i x o n c ex z'
    obtain ⟨hzz, hS⟩ := Y8 hS
    have hzz : z = z' := Nat.eq_of_beq_eq_true hzz
    obtain ⟨l, hl, hS⟩ := Q0 hS
    obtain ⟨h', hst, hS⟩ := Q0 hS
    rw [VR] at hv
    obtain ⟨p, off, c', hp, rfl, g1, g2, g3, g4, g5⟩ := hv
    by_cases hn0 : n = 0
    · have hl0 : l = [] := by
        have := (Ye .e zs _ _ 0 l hl).1
        have : l.length = 0 := by rw [this, hn0]; exact Nat.zero_mul z
        exact List.eq_nil_of_length_eq_zero this
      rw [hl0] at hst
      refine ⟨_, h', _, w, ι, hS, ?_, Ext.same (C2 hst), s.st0 hp hst, tu⟩
      rw [hn0] at h0
      simp only [Builtin.clear_, t0, h0, Sem.run_bind, run_underlying hu, Result.andThen_ok, Sem.run_pure]
    · have hoff : off = p.bs + o := g5.resolve_right (fun h => by omega)
      have hzc : vz.cells.size = z := by have := (z2 ι).len; simp at this; omega
      have hcr : CR ι .e zs (n * z) (Builtin.zeroCells vz.cells n) := by
        have := Bl (n := n) (z2 ι) z3 vz.cells
        by_cases hnz : n * z = 0
        · refine ⟨by simp [Builtin.zeroCells, hzc], fun j hj => by omega⟩
        · rw [if_neg hnz] at this
          have := this rfl
          unfold Builtin.zeroCells
          rw [hzc]
          rw [hzc] at this
          exact this
      have hvs := hcr.list hl
      obtain ⟨w', r1, r2⟩ := s.stE P hst hp hvs
      refine ⟨_, h', _, w', ι, hS, ?_, Ext.same (C2 hst), r2, tu⟩
      have r1 : (storeCells ⟨p.cb, off, none⟩ (Builtin.zeroCells vz.cells n).toList 0).run P w = .ok () w' := by rw [hoff]; exact r1
      obtain ⟨n', rfl⟩ : ∃ n', n = n' + 1 := ⟨n - 1, by omega⟩
      simp only [Builtin.clear_, t0, h0, Sem.run_bind, run_underlying hu, Result.andThen_ok, Vn z1, r1, Sem.run_pure]
  · rw [VR] at hv
    subst hv
    exact ⟨_, h, .tuple #[], w, ι, hS, by simp only [Builtin.clear_, t0, h0, Sem.run_bind, run_underlying hu, Result.andThen_ok, Sem.run_pure], Ext.same rfl, s, tu⟩
theorem ment_spec (s : SR Ck w₀ K ι h w) {m zero : AV} {vm vz : Value} (hm : VR ι m vm) (hv : VR ι a v) (hz : VR ι zero vz) (hzr : ZR P e vz) (ht : P.underlying t = some (.map kt e)) (hk : Bk P kt g) {S : Ou → Prop} (hS : RA (mentV g m a zero h) S) :
    ∃ u h' r w' ι', S (u, h') ∧ (Instr.mapEntry t vm v).run P w = .ok r w' ∧ Ext h h' ι ι' ∧ SR Ck w₀ K ι' h' w' ∧ VR ι' u r := by
  cases m <;> try exact hS.elim
  rename_i x
  obtain ⟨hok, hS⟩ := Y8 hS
  obtain ⟨ob, ho, hS⟩ := Q0 hS
  cases ob <;> try exact hS.elim
  rename_i es clock
  obtain ⟨r, hr, hS⟩ := Q0 hS
  rw [VR] at hm
  obtain ⟨p, hp, rfl⟩ := hm
  obtain ⟨p', l, q1, q2, q3, _⟩ := Bm s ho
  rw [hp] at q1; injection q1 with q1; subst q1
  obtain ⟨k, hu⟩ := Nm hk
  have hf := Rk hok hv hk hu 0 q3 hr
  have pair : ∀ {b : AV} {vb : Value} {n : Nat}, VR ι b vb → VR ι (.tu [b, .i .i64 (.ofNat n)]) (.tuple #[vb, goInt n]) := fun {b vb n} hb => by
    rw [VR]; exact ⟨_, rfl, by rw [VRs]; exact ⟨_, _, rfl, hb, by rw [VRs]; exact ⟨_, _, rfl, by rw [VR]; rfl, by rw [VRs]⟩⟩⟩
  cases r with
  | none =>
    have hf : Instr.findNow k v l.toList 0 = some none := hf
    obtain ⟨es', hes, hS⟩ := Q0 hS
    obtain ⟨c', hc, hS⟩ := Q0 hS
    obtain ⟨h', hput, hS3⟩ := Q0 hS
    have hc : some (clock + 1) = some c' := hc
    injection hc with hc; subst hc
    have hes := Zn hes
    subst hes
    obtain ⟨e1, e2, e3⟩ := Xm hput
    obtain ⟨w', r1, r2⟩ := s.setObj (P := P) (h' := h') (o' := .map (l.push { key := v, val := vz, born := clock }) (clock + 1)) (a' := .map (es ++ [(a, zero, clock)]) (clock + 1)) ho hp q2 (by intros; simp)
      ⟨_, rfl, by simp only [Array.toList_push]; exact Jb q3 ⟨_, _, rfl, hv, hz, rfl, rfl⟩⟩ e1 e2 e3
    refine ⟨_, h', .tuple #[vz, goInt clock], w', ι, hS3, ?_, Ext.same e2, r2, pair hz⟩
    simp only [Instr.mapEntry, Sem.run_bind, run_underlying ht, Result.andThen_ok, Vo q2 (by intros; simp), V2 hok hv hk, Instr.findKey, run_underlying hu, hf, Sem.run_pure, Vn hzr, r1]
  | some y =>
    obtain ⟨j, m', g1, g2, g3, g4, g5, g6, g7⟩ := hf
    rw [Nat.zero_add] at g1
    obtain ⟨hkey, hsb⟩ := F9 hok hv g4 g7
    obtain ⟨w', r1, r2⟩ := s.setObj (P := P) (h' := h) (o' := .map (l.modify j fun e => { e with key := v }) clock) (a' := .map es clock) ho hp q2 (by intros; simp)
      ⟨_, rfl, by
        rw [Array.toList_modify]
        have : l.toList.modify j (fun e => { e with key := v }) = l.toList := by
          apply List.ext_getElem?
          intro i
          rw [List.getElem?_modify]
          by_cases hij : j = i
          · subst hij; rw [g2]; simp [← hkey]
          · simp [hij]
        rw [this]; exact q3⟩ rfl rfl (fun y => by by_cases e : y = x <;> simp [e, ho])
    have g2' : l[j]? = some m' := by simpa using g2
    refine ⟨_, h, .tuple #[m'.val, goInt m'.born], w', ι, hS, ?_, Ext.same rfl, r2, by rw [g6]; exact pair g5⟩
    simp only [Instr.mapEntry, Sem.run_bind, run_underlying ht, Result.andThen_ok, Vo q2 (by intros; simp), V2 hok hv hk, Instr.findKey, run_underlying hu, g1, Sem.run_pure, g2', Option.map_some, Option.getD_some, hkey, Instr.keyThatStays, hsb, if_true, r1]
theorem Hc {b : AV} {vb : Value} {st : Nat} (hb : VR ι b vb) : ∀ {es es' : Es} {l : List MapEntry}, Xy ι es l →
    lf (M := Option Es) none (fun e r ih => Vd (Nat.beq e.2.2 st) (some ((e.1, b, e.2.2) :: r)) (bd ih fun r => some (e :: r))) es = some es' →
    ∃ j, l.findIdx? (fun e => (e.born : Int) == (st : Int)) = some j ∧ Xy ι es' (l.modify j fun e => { e with val := vb })
  | [], es', l, he, h => by cases h
  | x :: es, es', l, he, h => by
    obtain ⟨m, s, rfl, h1, h2, h3, h4⟩ := he
    have h : Vd (Nat.beq x.2.2 st) (some ((x.1, b, x.2.2) :: es)) (bd (lf (M := Option Es) none (fun e r ih => Vd (Nat.beq e.2.2 st) (some ((e.1, b, e.2.2) :: r)) (bd ih fun r => some (e :: r))) es) fun r => some (x :: r)) = some es' := h
    cases hq : Nat.beq x.2.2 st with
    | true =>
      rw [hq, Ve] at h
      injection h with h; subst h
      have hq := Nat.eq_of_beq_eq_true hq
      refine ⟨0, by rw [List.findIdx?_cons]; simp [h3, hq], ?_⟩
      simp only [List.modify_zero_cons]
      exact ⟨_, _, rfl, h1, hb, h3, h4⟩
    | false =>
      rw [hq, Q9] at h
      obtain ⟨r, hr, h⟩ := Qa h
      injection h with h; subst h
      obtain ⟨j, g1, g2⟩ := Hc hb h4 hr
      have hne : ¬ x.2.2 = st := fun e => by rw [e, Nat.beq_refl] at hq; cases hq
      refine ⟨j + 1, by rw [List.findIdx?_cons]; simp only [h3]; rw [show ((x.2.2 : Int) == (st : Int)) = false by simp; omega]; simp [g1], ?_⟩
      simp only [List.modify_succ_cons]
      exact ⟨_, _, rfl, h1, h2, h3, g2⟩
theorem mst_spec (s : SR Ck w₀ K ι h w) {m b : AV} {vm vb vs : Value} {st : Nat} {k : IntKind} (hm : VR ι m vm) (hs : vs = .int k (st : Int)) (hb : VR ι b vb) {S : Ou → Prop} (hS : RA (mstV m st b h) S) :
    ∃ h' w' ι', S (.tu [], h') ∧ (Instr.entryStore t vm vs vb).run P w = .ok () w' ∧ Ext h h' ι ι' ∧ SR Ck w₀ K ι' h' w' := by
  cases m <;> try exact hS.elim
  rename_i x
  obtain ⟨ob, ho, hS⟩ := Q0 hS
  cases ob <;> try exact hS.elim
  rename_i es clock
  obtain ⟨es', hes, hS⟩ := Q0 hS
  obtain ⟨h', hput, hS⟩ := Q0 hS
  rw [VR] at hm
  obtain ⟨p, hp, rfl⟩ := hm
  obtain ⟨p', l, q1, q2, q3, _⟩ := Bm s ho
  rw [hp] at q1; injection q1 with q1; subst q1
  obtain ⟨j, g1, g2⟩ := Hc hb q3 hes
  obtain ⟨e1, e2, e3⟩ := Xm hput
  obtain ⟨w', r1, r2⟩ := s.setObj (P := P) (h' := h') (o' := .map (l.modify j fun e => { e with val := vb }) clock) (a' := .map es' clock) ho hp q2 (by intros; simp) ⟨_, rfl, by rw [Array.toList_modify]; exact g2⟩ e1 e2 e3
  refine ⟨h', w', ι, hS, ?_, Ext.same e2, r2⟩
  have g1' : l.findIdx? (fun e => (e.born : Int) == (st : Int)) = some j := by rw [← Array.toArray_toList (xs := l), List.findIdx?_toArray]; exact g1
  subst hs
  simp only [Instr.entryStore, Sem.run_bind, Result.andThen_ok, Vo q2 (by intros; simp), asInt, asIntOf, Sem.run_pure, g1', r1]
theorem Hd {k : TypeDesc} (hk : Ud g a = true) (hv : VR ι a v) (ht : Bk P kt g) (hu : P.underlying kt = some k) : ∀ {es es' : Es} {l : List MapEntry} (i : Nat), Xy ι es l → cutE a es = some es' →
    (Instr.findNow k v l i = some none ∧ Xy ι es' l) ∨ ∃ j u, Instr.findNow k v l i = some (some (i + j, u)) ∧ j < l.length ∧ Xy ι es' (l.eraseIdx j)
  | [], es', l, i, he, h => by
    have he : l = [] := he
    subst he
    injection h with h; subst h
    exact .inl ⟨rfl, rfl⟩
  | x :: es, es', l, i, he, h => by
    obtain ⟨m, s, rfl, h1, h2, h3, h4⟩ := he
    obtain ⟨q, hq, h⟩ := Qa (x := U3 a x.1) h
    have hs := Ul hk hv ht hu h1 hq
    cases q with
    | true =>
      have h : some es = some es' := h
      injection h with h; subst h
      exact .inr ⟨0, m.val, by simp [Instr.findNow, hs], by simp, by simpa using h4⟩
    | false =>
      have h : bd (cutE a es) (fun r => some (x :: r)) = some es' := h
      obtain ⟨r, hr, h⟩ := Qa h
      injection h with h; subst h
      rcases Hd hk hv ht hu (i + 1) h4 hr with ⟨g1, g2⟩ | ⟨j, u, g1, g2, g3⟩
      · exact .inl ⟨by simp only [Instr.findNow, hs]; exact g1, ⟨_, _, rfl, h1, h2, h3, g2⟩⟩
      · exact .inr ⟨j + 1, u, by simp only [Instr.findNow, hs, g1, Nat.add_assoc, Nat.add_comm 1 j], by simp; omega, by simp only [List.eraseIdx_cons_succ]; exact ⟨_, _, rfl, h1, h2, h3, g3⟩⟩
theorem del_spec (s : SR Ck w₀ K ι h w) {m : AV} {vm : Value} {ts : Array TypeId} {ty : TypeId} {vs : Array Value} (t0 : ts[0]? = some t) (h0 : vs[0]? = some vm) (h1 : vs[1]? = some v) (hm : VR ι m vm) (hv : VR ι a v) (ht : P.underlying t = some (.map kt e)) (hk : Bk P kt g) {S : Ou → Prop} (hS : RA (delV g m a h) S) :
    ∃ u h' r w' ι', S (u, h') ∧ (Builtin.delete_ ts ty vs).run P w = .ok r w' ∧ Ext h h' ι ι' ∧ SR Ck w₀ K ι' h' w' ∧ VR ι' u r := by
  have tu : ∀ {ι}, VR ι (.tu []) (.tuple #[]) := fun {ι} => by rw [VR]; exact ⟨#[], rfl, by rw [VRs]⟩
  cases m <;> try exact hS.elim
  · rename_i x
    obtain ⟨hok, hS⟩ := Y8 hS
    obtain ⟨ob, ho, hS⟩ := Q0 hS
    cases ob <;> try exact hS.elim
    rename_i es clock
    obtain ⟨es', hes, hS⟩ := Q0 hS
    obtain ⟨h', hput, hS⟩ := Q0 hS
    rw [VR] at hm
    obtain ⟨p, hp, rfl⟩ := hm
    obtain ⟨p', l, q1, q2, q3, _⟩ := Bm s ho
    rw [hp] at q1; injection q1 with q1; subst q1
    obtain ⟨k, hu⟩ := Nm hk
    obtain ⟨e1, e2, e3⟩ := Xm hput
    rcases Hd hok hv hk hu 0 q3 hes with ⟨g1, g2⟩ | ⟨j, u, g1, g2, g3⟩
    · obtain ⟨w', r1, r2⟩ := s.setObj (P := P) (h' := h') (o' := .map l clock) (a' := .map es' clock) ho hp q2 (by intros; simp) ⟨_, rfl, g2⟩ e1 e2 e3
      refine ⟨_, h', _, w', ι, hS, ?_, Ext.same e2, r2, tu⟩
      simp only [Builtin.delete_, t0, h0, h1, Sem.run_bind, run_underlying ht, Result.andThen_ok, Vo q2 (by intros; simp), V2 hok hv hk, Instr.findKey, run_underlying hu, g1, Sem.run_pure, r1]
    · rw [Nat.zero_add] at g1
      obtain ⟨w', r1, r2⟩ := s.setObj (P := P) (h' := h') (o' := .map (l.eraseIdxIfInBounds j) clock) (a' := .map es' clock) ho hp q2 (by intros; simp) ⟨_, rfl, by
        have : j < l.size := by simpa using g2
        have e : (l.eraseIdxIfInBounds j).toList = l.toList.eraseIdx j := by simp [Array.eraseIdxIfInBounds, this]
        rw [e]; exact g3⟩ e1 e2 e3
      refine ⟨_, h', _, w', ι, hS, ?_, Ext.same e2, r2, tu⟩
      simp only [Builtin.delete_, t0, h0, h1, Sem.run_bind, run_underlying ht, Result.andThen_ok, Vo q2 (by intros; simp), V2 hok hv hk, Instr.findKey, run_underlying hu, g1, Sem.run_pure, r1]
  · obtain ⟨hok, hS⟩ := Y8 hS
    rw [VR] at hm
    subst hm
    exact ⟨_, h, .tuple #[], w, ι, hS, by simp only [Builtin.delete_, t0, h0, h1, Sem.run_bind, run_underlying ht, Result.andThen_ok, V2 hok hv hk, Sem.run_pure], Ext.same rfl, s, tu⟩
end
end Go.Ev
namespace Go.Ev
inductive En (P : Program) : HOp → Op → Prop
  | store {n x v t X V} : SZ P t n → OdR x X → OdR v V → En P (.store n x v) (.store t X V)
  | app {s x z S X c} : c.callee = .builtin .append → AppOk P c.argTypes z → c.args.toList = [S, X] → OdR s S → OdR x X → En P (.app s x z) (.call c)
  | copy {d s z D S t e c} : c.callee = .builtin .copy → c.argTypes[0]? = some t → P.underlying t = some (.slice e) → SZ P e z → c.args.toList = [D, S] → OdR d D → OdR s S → En P (.copy d s z) (.call c)
  | clear {x z zs X t e vz c} : c.callee = .builtin .clear → c.argTypes[0]? = some t → P.underlying t = some (.slice e) → ZR P e vz → (∀ ι, VRs ι zs vz.cells.toList) → zs.length = z → c.args.toList = [X] → OdR x X → En P (.clear x z zs) (.call c)
  | del {g m k M K' t kt e c} : c.callee = .builtin .delete → c.argTypes[0]? = some t → P.underlying t = some (.map kt e) → Bk P kt g → c.args.toList = [M, K'] → OdR m M → OdR k K' → En P (.del g m k) (.call c)
  | mup {g m k v M K' V t kt e} : P.underlying t = some (.map kt e) → Bk P kt g → OdR m M → OdR k K' → OdR v V → En P (.mup g m k v) (.mapUpdate t M K' V)
  | ins {g m k v M K' V t kt e} : P.underlying t = some (.map kt e) → Bk P kt g → OdR m M → OdR k K' → OdR v V → En P (.mup g m k v) (.insert t M K' V)
  | ment {g m k zero M K' t kt e vz} : P.underlying t = some (.map kt e) → Bk P kt g → ZR P e vz → (∀ ι, VR ι zero vz) → OdR m M → OdR k K' → En P (.ment g m k zero) (.mapEntry t M K')
  | mst {m st v M St V t} : OdR m M → OdR st St → OdR v V → En P (.mst m st v) (.entryStore t M St V)
  | next {it X} : OdR it X → En P (.next it) (.next X false)
section
variable {P : Program} {Ck : CkT} {w₀ w : World} {K : Gd} {ι : Io} {h : H} {fr : Fm} {a : Act}
theorem HvQ.run {X Y : Sem Next} {r : Rs Ou} (hh : HvQ Ck P w₀ K ι h X w r) (e : Y.run P w = X.run P w) : HvQ Ck P w₀ K ι h Y w r := fun S hS => by
  obtain ⟨u, h', nx, v, w', ι', h1, h2, h3⟩ := hh S hS
  exact ⟨u, h', nx, v, w', ι', h1, e.trans h2, h3⟩
theorem J1 {c : Call} {l : List Operand} (hl : c.args.toList = l) (i : Nat) : (c.args.map a.eval)[i]? = (l[i]?).map a.eval := by
  rw [← Array.getElem?_toList, Array.toList_map, hl, List.getElem?_map]
theorem heavy0 (s : SR Ck w₀ K ι h w) (hf : FR ι fr a.tmps) {cl : Cl} {ho : HOp} {o : Oper} (hok : En P ho o.op) : HvQ Ck P w₀ K ι h (execOp a.eval o) w (hE cl ho fr h) := by
  obtain ⟨dst, op, type, pos, after, guard⟩ := o
  simp only at hok
  cases hok with
  | store h1 hx hv =>
    refine HvQ.unit fun S hS => ?_
    obtain ⟨vx, hvx, hS⟩ := Q0 hS
    obtain ⟨vv, hvv, hS⟩ := Q0 hS
    exact H4 s (Qs hx hf hvx) (Qs hv hf hvv) h1 hS
  | @app s' x' z' S' X' c h1 h2 h3 hs hx =>
    refine (HvQ.val (X := Builtin.append_ c.argTypes type (c.args.map a.eval)) fun S hS => ?_).run (Vx h1)
    obtain ⟨vs, hvs, hS⟩ := Q0 hS
    obtain ⟨vx, hvx, hS⟩ := Q0 hS
    obtain ⟨k, hk, hS⟩ := Q0 hS
    exact app_spec s h2 (by rw [J1 h3]; rfl) (by rw [J1 h3]; rfl) (Qs hs hf hvs) (Qs hx hf hvx) hk hS
  | @copy d' s' z' D' S' t' e' c h1 h2 h3 h4 h5 hd hs =>
    refine (HvQ.val (X := Builtin.copy_ c.argTypes type (c.args.map a.eval)) fun S hS => ?_).run (Vx h1)
    obtain ⟨vd, hvd, hS⟩ := Q0 hS
    obtain ⟨vs, hvs, hS⟩ := Q0 hS
    obtain ⟨k, hk, hS⟩ := Q0 hS
    exact copy_spec s h2 h3 h4 (by rw [J1 h5]; rfl) (by rw [J1 h5]; rfl) (Qs hd hf hvd) (Qs hs hf hvs) hk hS
  | @clear x' z' zs' X' t' e' vz c h1 h2 h3 h4 h5 h6 h7 hx =>
    refine (HvQ.val (X := Builtin.clear_ c.argTypes type (c.args.map a.eval)) fun S hS => ?_).run (Vx h1)
    obtain ⟨vx, hvx, hS⟩ := Q0 hS
    exact H5 s h2 h3 h4 h5 h6 (by rw [J1 h7]; rfl) (Qs hx hf hvx) hS
  | @del g' m' k' M' K'' t' kt' e' c h1 h2 h3 h4 h5 hm hk =>
    refine (HvQ.val (X := Builtin.delete_ c.argTypes type (c.args.map a.eval)) fun S hS => ?_).run (Vx h1)
    obtain ⟨vm, hvm, hS⟩ := Q0 hS
    obtain ⟨vk, hvk, hS⟩ := Q0 hS
    exact del_spec s h2 (by rw [J1 h5]; rfl) (by rw [J1 h5]; rfl) (Qs hm hf hvm) (Qs hk hf hvk) h3 h4 hS
  | mup h1 h2 hm hk hv =>
    refine HvQ.unit fun S hS => ?_
    obtain ⟨vm, hvm, hS⟩ := Q0 hS
    obtain ⟨vk, hvk, hS⟩ := Q0 hS
    obtain ⟨vv, hvv, hS⟩ := Q0 hS
    exact Hb s (Qs hm hf hvm) (Qs hk hf hvk) (Qs hv hf hvv) h1 h2 hS
  | ins h1 h2 hm hk hv =>
    refine HvQ.unit fun S hS => ?_
    obtain ⟨vm, hvm, hS⟩ := Q0 hS
    obtain ⟨vk, hvk, hS⟩ := Q0 hS
    obtain ⟨vv, hvv, hS⟩ := Q0 hS
    exact Hb s (Qs hm hf hvm) (Qs hk hf hvk) (Qs hv hf hvv) h1 h2 hS
  | ment h1 h2 h3 h4 hm hk =>
    refine HvQ.val fun S hS => ?_
    obtain ⟨vm, hvm, hS⟩ := Q0 hS
    obtain ⟨vk, hvk, hS⟩ := Q0 hS
    exact ment_spec s (Qs hm hf hvm) (Qs hk hf hvk) (h4 ι) h3 h1 h2 hS
  | mst hm hst hv =>
    refine HvQ.unit fun S hS => ?_
    obtain ⟨vm, hvm, hS⟩ := Q0 hS
    obtain ⟨vs, hvs, hS⟩ := Q0 hS
    obtain ⟨vv, hvv, hS⟩ := Q0 hS
    obtain ⟨st, hst', hS2⟩ := Q0 hS
    have hs := Qs hst hf hvs
    cases vs <;> try (cases hst'; done)
    have hn := Vv hst'
    rw [VR, hn] at hs
    exact mst_spec s (Qs hm hf hvm) hs (Qs hv hf hvv) hS2
  | next hx =>
    refine HvQ.val fun S hS => ?_
    obtain ⟨vx, hvx, hS⟩ := Q0 hS
    exact next_spec s (Qs hx hf hvx) hS
theorem rng_spec (s : SR Ck w₀ K ι h w) (hf : FR ι fr a.tmps) {x : Od} {o : Oper} {y : AO × (Pa → AV)} (hok : KOk P (.rng x) o.op) (he : kE (.rng x) fr h = some y) : Gm Ck P ι (execOp a.eval o) w y := by
  obtain ⟨dst, op, type, pos, after, guard⟩ := o
  simp only at hok
  cases hok with
  | @rng _ t k e X h1 hx =>
    obtain ⟨vx, hvx, he⟩ := Qa he
    have hv := Qs hx hf hvx
    cases vx <;> try (cases he; done)
    · rename_i m
      obtain ⟨ob, hob, he⟩ := Qa (x := R8 m h) he
      cases ob <;> try (cases he; done)
      rename_i es clock
      injection he with he; subst he
      rw [VR] at hv
      obtain ⟨p, hp, hv⟩ := hv
      obtain ⟨p', o', q1, q2, q3⟩ := s.obj hob
      rw [hp] at q1; injection q1 with q1; subst q1
      obtain ⟨l, rfl, hents⟩ := q3
      refine .of (v := .pointer (some ⟨w.heap.size, 0, none⟩)) (w₁ := { w with heap := w.heap.push (.mapIter (some p.cb) clock #[] clock) }) (sz := 0) (m := false) ?_ rfl rfl rfl rfl ⟨rfl, some p.cb, ⟨p, hp, rfl⟩, rfl⟩ (fun κ y hy => by rw [VR]; exact ⟨_, hy, rfl⟩)
      rw [hv]
      simp only [Instr.range, Sem.run_bind, run_underlying h1, Result.andThen_ok, Vo q2 (by intros; simp), Sem.run_pure, run_newObj]
    · injection he with he; subst he
      rw [VR] at hv
      refine .of (v := .pointer (some ⟨w.heap.size, 0, none⟩)) (w₁ := { w with heap := w.heap.push (.mapIter none 0 #[] 0) }) (sz := 0) (m := false) ?_ rfl rfl rfl rfl ⟨rfl, none, rfl, rfl⟩ (fun κ y hy => by rw [VR]; exact ⟨_, hy, rfl⟩)
      rw [hv]
      simp only [Instr.range, Sem.run_bind, run_underlying h1, Result.andThen_ok, Sem.run_pure, run_newObj]
theorem SR.mark (s : SR Ck w₀ K ι h w) {x : Pa} {p : Pl} {n : Nat} {arr : Array Value} {el : TypeId} {f : Nat × Nat} (hp : ι x = some p) (hb : p.by' = true) (hK : K p.cb = none) (ho : w.heap[p.cb]? = some (.cells arr el f)) :
    ∃ w', (markStringish ⟨p.cb, n, none⟩).run P w = .ok () w' ∧ SR Ck w₀ K ι h w' ∧ w'.heap.size = w.heap.size ∧ (∀ c, c ≠ p.cb → w'.heap[c]? = w.heap[c]?) ∧
      ∀ q ob o, q.cb = p.cb → q.by' = true → w.heap[q.cb]? = some o → BR Ck ι q ob o → ∃ o', w'.heap[q.cb]? = some o' ∧ BR Ck ι q ob o' := by
  obtain ⟨lo, hi⟩ := f
  have hsh : w.shape? p.cb = some (el, arr.size) := by simp [World.shape?, ho]
  have hrun : (markStringish ⟨p.cb, n, none⟩).run P w = .ok () (w.freeze ⟨p.cb, arr.size, none⟩ 1) := by
    simp only [markStringish, Sem.run_bind, run_shape, hsh, Result.andThen_ok, run_freeze]
  obtain ⟨F, hF⟩ : ∃ F : Obj → Obj, F = fun
      | .cells c elem (lo, hi) => .cells c elem (if lo == hi then (arr.size, arr.size + 1) else (min lo arr.size, max hi (arr.size + 1)))
      | o => o := ⟨_, rfl⟩
  have hheap : (w.freeze ⟨p.cb, arr.size, none⟩ 1).heap = w.heap.modify p.cb F := by rw [hF]; rfl
  have hFc : F (.cells arr el (lo, hi)) = .cells arr el (if lo == hi then (arr.size, arr.size + 1) else (min lo arr.size, max hi (arr.size + 1))) := by rw [hF]
  have hsame : (w.freeze ⟨p.cb, arr.size, none⟩ 1).heap[p.cb]? = some (.cells arr el (if lo == hi then (arr.size, arr.size + 1) else (min lo arr.size, max hi (arr.size + 1)))) := by
    rw [hheap, Array.getElem?_modify, if_pos rfl, ho, Option.map_some, hFc]
  have hother : ∀ c, c ≠ p.cb → (w.freeze ⟨p.cb, arr.size, none⟩ 1).heap[c]? = w.heap[c]? := fun c hc => by
    rw [hheap, Array.getElem?_modify, if_neg (Ne.symm hc)]
  have hsize : (w.freeze ⟨p.cb, arr.size, none⟩ 1).heap.size = w.heap.size := by rw [hheap]; simp
  have hos : (w.freeze ⟨p.cb, arr.size, none⟩ 1).os = w.os ∧ (w.freeze ⟨p.cb, arr.size, none⟩ 1).tape = w.tape ∧ (w.freeze ⟨p.cb, arr.size, none⟩ 1).output = w.output := ⟨rfl, rfl, rfl⟩
  have hbr : ∀ q ob o, q.cb = p.cb → q.by' = true → w.heap[q.cb]? = some o → BR Ck ι q ob o → ∃ o', (w.freeze ⟨p.cb, arr.size, none⟩ 1).heap[q.cb]? = some o' ∧ BR Ck ι q ob o' := by
    intro q ob o hq hqb hqo hbr
    rw [hq, ho] at hqo
    injection hqo with hqo
    rw [hq]
    refine ⟨_, hsame, ?_⟩
    cases ob with
    | cells t zs m =>
      obtain ⟨arr', el', lo', hi', e, b1, b2, b3, b4, b5, b6, b7⟩ := hbr
      rw [← hqo] at e
      injection e with e1 e2 e3
      injection e3 with e3 e4
      subst e1; subst e2; subst e3; subst e4
      obtain ⟨nlo, nhi, hn⟩ : ∃ nlo nhi, (if lo == hi then (arr.size, arr.size + 1) else (min lo arr.size, max hi (arr.size + 1))) = (nlo, nhi) := ⟨_, _, rfl⟩
      have hmain : arr.size ≤ nlo ∧ nlo ≤ nhi := by
        by_cases hlh : lo = hi
        · rw [if_pos (by simp [hlh])] at hn
          injection hn with n1 n2
          omega
        · rw [if_neg (by simp [hlh])] at hn
          injection hn with n1 n2
          have : arr.size ≤ lo := by
            rcases Nat.lt_or_ge lo arr.size with h | h
            · have := b4 lo (by omega); omega
            · exact h
          omega
      exact ⟨arr, el, nlo, nhi, by rw [hn], b1, b2, b3, fun j hj => by omega, fun h => (by rw [hqb] at h; cases h), b6, hmain.2⟩
    | map es clock => obtain ⟨l, e, _⟩ := hbr; rw [← hqo] at e; cases e
    | iter m since seen st => obtain ⟨_, m', _, e⟩ := hbr; rw [← hqo] at e; cases e
    | loop fr ps asg body st pend => obtain ⟨r, e, _⟩ := hbr; rw [← hqo] at e; cases e
    | dfr => have e : o = _ := hbr; rw [← hqo] at e; cases e
  refine ⟨_, hrun, ⟨hos.1.trans s.os, hos.2.1.trans s.tape, hos.2.2.trans s.output, fun c o hc => ?_, fun y b hy => ?_, s.ro, s.inj, s.injo, s.new, fun y q hq => by rw [hsize]; exact s.lt y q hq, s.one⟩, hsize, hother, hbr⟩
  · have : c ≠ p.cb := fun e => by subst e; rw [hK] at hc; cases hc
    rw [hother c this]; exact s.gd c o hc
  · obtain ⟨q, o, r1, r2, r3, r4⟩ := s.rw y b hy
    by_cases e : q.cb = p.cb
    · obtain ⟨o', g1, g2⟩ := hbr q b o e (by rw [s.one y x q p r1 hp e]; exact hb) r2 r4
      exact ⟨q, o', r1, g1, r3, g2⟩
    · exact ⟨q, o, r1, (hother _ e).trans r2, r3, r4⟩
end
end Go.Ev
namespace Go.Ev
def F0 (ro : Option Nat) : Fence := { Fence.wide with round := ro }
theorem G2 (ro : Option Nat) (n : Nat) : (F0 ro).depth.isSome = true → 1 ≤ n := fun h => by cases h
section
variable {P : Program} {Ck : CkT} {w₀ w : World} {K : Gd} {ι : Io} {h : H} {fr : Fm} {a : Act} {N : Nat} {ro : Option Nat}
theorem N9 {f : FuncId} {args : Array Value} {R : Ending → World → Prop} (hc : CallsIn Fence.wide 0 P f args w R) : CallsIn (F0 ro) 0 P f args w R := hc
theorem H6 {l : Nat} {f : FuncId} {tmps : Array Value} {asg body : Code} {R : Ending → World → Prop} (hc : RoundIn Fence.wide 0 P l f tmps asg body w R) : RoundIn (F0 ro) 0 P l f tmps asg body w R := hc
def B7 (Ck : CkT) (w₀ : World) (K : Gd) (ι : Io) (h : H) (R : Ending → World → Prop) (o : Ou) : Prop := ∀ ι' w' v, Ext h o.2 ι ι' → SR Ck w₀ K ι' o.2 w' → VR ι' o.1 v → R (.returned v) w'
def ClS (P : Program) (Ck : CkT) (w₀ : World) (cl : Cl) : Prop := ∀ (K : Gd) (ι : Io) (h : H) (w : World) (ar : List AV) (vs : List Value), SR Ck w₀ K ι h w → VRs ι ar vs →
  (∀ (g : Pa) (R : Ending → World → Prop), RA (cl (.fn g) ar h) (B7 Ck w₀ K ι h R) → (callFunc g.dec vs.toArray).run P w = .ok (.enter g.dec vs.toArray) w ∧ CallsIn Fence.wide 0 P g.dec vs.toArray w R) ∧
  (∀ (x : Pa) (p : Pl) (R : Ending → World → Prop), ι x = some p → RA (cl (.yl x) ar h) (B7 Ck w₀ K ι h R) → ∃ l f tmps asg body, (Instr.yield p.cb vs.toArray).run P w = .ok (.round l f tmps asg body) w ∧ RoundIn Fence.wide 0 P l f tmps asg body w R)
def TblOk (P : Program) (name : String) (e : Nat × Pa × Option (Option Nat)) : Prop :=
  match e.2.2 with
  | none => ∀ (w : World) (v : Value), (method (P.types.size + Made.depth) e.1 v name).run P w = .ok (e.2.1.dec, v) w
  | some n => ∃ t d, P.underlying t = some d ∧ LdOk P t d n ∧ ∀ (w : World) (b : Addr), (method (P.types.size + Made.depth) e.1 (.pointer (some b)) name).run P w = ((loadVar t b).run P w).andThen fun r w => .ok (e.2.1.dec, r) w
inductive HcOk (P : Program) : HOp → Op → Prop
  | call {g f ar c} : c.callee = .value (.func f) → g.dec = f → OdsR ar c.args.toList → HcOk P (.call g ar) (.call c)
  | callv {x X ar c} : c.callee = .value X → OdR x X → OdsR ar c.args.toList → HcOk P (.callv x ar) (.call c)
  | inv {r tbl ar R name c} : c.callee = .invoke R name → (∀ e ∈ tbl, TblOk P name e) → OdR r R → OdsR ar c.args.toList → HcOk P (.inv r tbl ar) (.call c)
theorem V8 (o : Oper) : ∀ f, o.about P w a.eval = some f → (F0 ro).fn f := fun _ _ => trivial
theorem Y3 {o : Oper} (h : ∀ c, o.op ≠ .defer c) : (Oper.semAt (F0 ro).round a.eval o) = execOp a.eval o := Oper.semAt_eq _ _ _ h
theorem HvQ.wp {o : Oper} {r : Rs Ou} {next : Act → World → Prop} {Q : Exit → Act → World → Prop} (hq : HvQ Ck P w₀ K ι h (execOp a.eval o) w r) (hd : ∀ c, o.op ≠ .defer c) (hS : RA r fun x => ∀ ι' w' v, Ext h x.2 ι ι' → SR Ck w₀ K ι' x.2 w' → VR ι' x.1 v → next (a.put o.dst v) w') :
    o.wpIn (F0 ro) 0 P a w next Q := by
  obtain ⟨u, h', nx, v, w', ι', h1, h2, h3, h4, h5, h6⟩ := hq _ hS
  refine ⟨V8 o, ?_⟩
  rw [Y3 hd, h2]
  rcases h3 with rfl | ⟨rfl, rfl⟩
  · exact h1 ι' w' v h4 h5 h6
  · exact h1 ι' w' _ h4 h5 h6
theorem B7.of {o : Oper} {next : Act → World → Prop} {Q : Exit → Act → World → Prop} {r : Rs Ou} (hS : RA r fun x => ∀ ι' w' v, Ext h x.2 ι ι' → SR Ck w₀ K ι' x.2 w' → VR ι' x.1 v → next (a.put o.dst v) w') :
    RA r (B7 Ck w₀ K ι h fun | .returned v, w'' => next (a.put o.dst v) w'' | .panicked chain, w'' => Q (.panic chain) a w'' | .outgrown, _ => LetsOut Q) := hS.mono fun x hx ι' w' v h1 h2 h3 => hx ι' w' v h1 h2 h3
theorem Bo {cl : Cl} (hcl : ClS P Ck w₀ cl) (s : SR Ck w₀ K ι h w) {o : Oper} {ar : List AV} {vs : List Value} (hv : VRs ι ar vs) {g : Pa} {next : Act → World → Prop} {Q : Exit → Act → World → Prop} (hd : ∀ c, o.op ≠ .defer c)
    (hrun : (execOp a.eval o).run P w = (callFunc g.dec vs.toArray).run P w) (hS : RA (cl (.fn g) ar h) fun x => ∀ ι' w' v, Ext h x.2 ι ι' → SR Ck w₀ K ι' x.2 w' → VR ι' x.1 v → next (a.put o.dst v) w') : o.wpIn (F0 ro) 0 P a w next Q := by
  obtain ⟨h1, h2⟩ := (hcl K ι h w ar vs s hv).1 g _ (B7.of (o := o) (Q := Q) hS)
  refine ⟨V8 o, ?_⟩
  rw [Y3 hd, hrun, h1]
  exact ⟨G2 ro 0, N9 h2⟩
theorem H7 {cl : Cl} (hcl : ClS P Ck w₀ cl) (s : SR Ck w₀ K ι h w) {o : Oper} {fv : AV} {f : Value} {ar : List AV} {vs : List Value} (hf : VR ι fv f) (hv : VRs ι ar vs) {next : Act → World → Prop} {Q : Exit → Act → World → Prop} (hd : ∀ c, o.op ≠ .defer c)
    (hrun : (execOp a.eval o).run P w = (do let d ← Deferred.ofValue f vs.toArray; invoke d.target d.args : Sem Next).run P w) (hS : RA (Be cl fv ar h) fun x => ∀ ι' w' v, Ext h x.2 ι ι' → SR Ck w₀ K ι' x.2 w' → VR ι' x.1 v → next (a.put o.dst v) w') : o.wpIn (F0 ro) 0 P a w next Q := by
  cases fv <;> try exact hS.elim
  · rename_i g first cap
    obtain ⟨l1, hl1, hS⟩ := Q0 hS
    obtain ⟨l2, hl2, hS⟩ := Q0 hS
    have hl1 := Zn hl1
    have hl2 := Zn hl2
    rw [VR] at hf
    obtain ⟨a', c', rfl, h1, h2⟩ := hf
    refine Bo hcl s (ar := l2) (vs := a'.toList ++ (vs ++ c'.toList)) (by rw [hl2, hl1]; exact h1.append (hv.append h2)) hd ?_ hS
    rw [hrun]
    simp only [Deferred.ofValue, Sem.run_bind, Sem.run_pure, Result.andThen_ok, invoke]
    have e : a' ++ vs.toArray ++ c' = (a'.toList ++ (vs ++ c'.toList)).toArray := by apply Array.ext'; simp
    rw [e]
  · rename_i x
    rw [VR] at hf
    obtain ⟨p, hp, rfl⟩ := hf
    obtain ⟨l, f, tmps, asg, body, h1, h2⟩ := (hcl K ι h w ar vs s hv).2 x p _ hp (B7.of (o := o) (Q := Q) hS)
    refine ⟨V8 o, ?_⟩
    rw [Y3 hd, hrun]
    simp only [Deferred.ofValue, Sem.run_bind, Sem.run_pure, Result.andThen_ok, invoke, Array.empty_append, h1]
    exact ⟨G2 ro 0, H6 h2⟩
theorem He {t : Nat} : ∀ {tbl : List (Nat × Pa × Option (Option Nat))} {e : Pa × Option (Option Nat)}, lf (M := Option (Pa × Option (Option Nat))) none (fun e _ ih => Vd (Nat.beq e.1 t) (some e.2) ih) tbl = some e → (t, e) ∈ tbl
  | [], e, h => by cases h
  | x :: tbl, e, h => by
    have h : Vd (Nat.beq x.1 t) (some x.2) (lf (M := Option (Pa × Option (Option Nat))) none (fun e _ ih => Vd (Nat.beq e.1 t) (some e.2) ih) tbl) = some e := h
    cases hq : Nat.beq x.1 t with
    | true =>
      rw [hq, Ve] at h
      injection h with h; subst h
      have := Nat.eq_of_beq_eq_true hq
      subst this
      exact List.mem_cons_self
    | false => rw [hq, Q9] at h; exact List.mem_cons_of_mem _ (He h)
theorem heavyC {cl : Cl} (hcl : ClS P Ck w₀ cl) (s : SR Ck w₀ K ι h w) (hf : FR ι fr a.tmps) {ho : HOp} {o : Oper} (hok : HcOk P ho o.op) {next : Act → World → Prop} {Q : Exit → Act → World → Prop}
    (hS : RA (hE cl ho fr h) fun x => ∀ ι' w' v, Ext h x.2 ι ι' → SR Ck w₀ K ι' x.2 w' → VR ι' x.1 v → next (a.put o.dst v) w') : o.wpIn (F0 ro) 0 P a w next Q := by
  have hex : ∀ c, o.op = .call c → execOp a.eval o = (do let d ← resolve a.eval c o.type; invoke d.target d.args) := fun c hc => by unfold execOp; rw [hc]
  have hnd : ∀ c, o.op = .call c → ∀ c', o.op ≠ .defer c' := fun c hc c' h => by rw [hc] at h; cases h
  generalize hop : o.op = op at hok
  cases hok with
  | @call g f ar c h1 h2 h3 =>
    obtain ⟨us, hus, hS⟩ := Q0 hS
    have hv := J0 hf h3 hus
    refine Bo hcl s hv (hnd c hop) ?_ hS
    rw [hex c hop]
    simp only [resolve, h1, Sem.run_bind, Sem.run_pure, Result.andThen_ok, Act.eval, Deferred.ofValue, invoke, Array.empty_append, Array.append_empty]
    rw [h2, ← Array.toArray_toList (xs := c.args.map a.eval), Array.toList_map]
  | @callv x X ar c h1 h2 h3 =>
    obtain ⟨fv, hfv, hS⟩ := Q0 hS
    obtain ⟨us, hus, hS⟩ := Q0 hS
    have hv := J0 hf h3 hus
    refine H7 hcl s (Qs h2 hf hfv) hv (hnd c hop) ?_ hS
    rw [hex c hop]
    simp only [resolve, h1]
    rw [← Array.toList_map]
  | @inv r tbl ar R name c h1 h2 h3 h4 =>
    obtain ⟨rv, hrv, hS⟩ := Q0 hS
    obtain ⟨us, hus, hS⟩ := Q0 hS
    have hv := J0 hf h4 hus
    have hr := Qs h3 hf hrv
    have hifc : ∃ t b, rv = .ifc t b := by cases rv <;> first | exact hS.elim | exact ⟨_, _, rfl⟩
    obtain ⟨t, b, rfl⟩ := hifc
    obtain ⟨e, he, hS⟩ := Q0 hS
    have ht := h2 _ (He he)
    obtain ⟨g, how⟩ := e
    rw [VR] at hr
    obtain ⟨vb, hr, hb⟩ := hr
    have hstart : (execOp a.eval o).run P w = (callMethod (.iface t vb) name (c.args.map a.eval)).run P w := by
      rw [hex c hop]
      simp only [resolve, h1, hr, Sem.run_bind, Sem.run_pure, Result.andThen_ok, invoke]
      have e1 : (#[Value.iface t vb] ++ c.args.map a.eval)[0]? = some (.iface t vb) := by rw [Array.getElem?_append_left (by simp)]; rfl
      have e2 : (#[Value.iface t vb] ++ c.args.map a.eval).extract 1 (#[Value.iface t vb] ++ c.args.map a.eval).size = c.args.map a.eval := by
        apply Array.ext'
        rw [Array.toList_extract, List.extract_eq_take_drop, Array.toList_append]
        simp [Nat.add_comm]
        rw [List.take_of_length_le (by simp)]
      simp only [e1, e2]
    cases how with
    | none =>
      have ht : ∀ (w : World) (v : Value), (method (P.types.size + Made.depth) t v name).run P w = .ok (g.dec, v) w := ht
      refine Bo hcl s (ar := b :: us) (vs := vb :: c.args.toList.map a.eval) (by rw [VRs]; exact ⟨_, _, rfl, hb, hv⟩) (hnd c hop) ?_ hS
      rw [hstart]
      simp only [callMethod, Sem.run_bind, run_program, Result.andThen_ok, ht]
      congr 2
      apply Array.ext'; simp
    | some n =>
      obtain ⟨t', d, hu, hld, hm⟩ := ht
      obtain ⟨lb, hlb, hS5⟩ := Q0 hS
      obtain ⟨r', hr1, hr2⟩ := Rh (P := P) s hb hlb hu hld
      cases b <;> try (cases hlb; done)
      rw [VR] at hb
      obtain ⟨p, hp, hb⟩ := hb
      refine Bo hcl s (ar := lb :: us) (vs := r' :: c.args.toList.map a.eval) (by rw [VRs]; exact ⟨_, _, rfl, hr2, hv⟩) (hnd c hop) ?_ hS5
      rw [hstart]
      rw [hb] at hr1
      have hr1 : (loadVar t' ⟨p.cb, _, none⟩).run P w = .ok r' w := hr1
      simp only [callMethod, Sem.run_bind, run_program, Result.andThen_ok, hb, hm, hr1]
      congr 2
      apply Array.ext'; simp
end
end Go.Ev
namespace Go.Ev
theorem H8 {α : Type} {f : α → Bool} : ∀ {l : List α}, lf true (fun v _ r => Z3 (f v) r) l = true → ∀ v ∈ l, f v = true
  | [], _, v, hv => by simp at hv
  | a :: l, h, v, hv => by
    have h : Z3 (f a) (lf true (fun v _ r => Z3 (f v) r) l) = true := h
    obtain ⟨h1, h2⟩ := Q2 h
    rcases List.mem_cons.1 hv with rfl | hv
    · exact h1
    · exact H8 h2 v hv
noncomputable def oldD (ro : Tr AO) : Nat → AV → Bool := nf (M := AV → Bool) (fun _ => false) (fun _ ih => oldV1 ih ro)
mutual
theorem VR.old {ι κ : Io} {ro : Tr AO} (hle : ι.le κ) (hro : ∀ x, (Q5 x ro).isSome = true → ∃ p, ι x = some p) : ∀ (d : Nat) {a : AV} {v : Value}, oldD ro d a = true → VR κ a v → VR ι a v
  | 0, a, v, h, _ => by cases h
  | d + 1, a, v, h, hv => by
    have h : oldV1 (oldD ro d) ro a = true := h
    have known : ∀ {x p}, (match Q5 x ro with | some _ => true | none => false) = true → κ x = some p → ι x = some p := by
      intro x p hx hk
      obtain ⟨p', hp'⟩ := hro x (by cases hg : Q5 x ro with | none => rw [hg] at hx; cases hx | some b => rfl)
      have := hle x p' hp'
      rw [hk] at this; injection this with this; rw [hp', this]
    cases a with
    | b x => rw [VR] at hv ⊢; exact hv
    | i k n => rw [VR] at hv ⊢; exact hv
    | s l => rw [VR] at hv ⊢; exact hv
    | p x o => rw [VR] at hv ⊢; obtain ⟨p, h1, h2⟩ := hv; exact ⟨p, known h h1, h2⟩
    | pn => rw [VR] at hv ⊢; exact hv
    | sl x o n c ex z => rw [VR] at hv ⊢; obtain ⟨p, off, c', h1, h2⟩ := hv; exact ⟨p, off, c', known h h1, h2⟩
    | sln => rw [VR] at hv ⊢; exact hv
    | m x => rw [VR] at hv ⊢; obtain ⟨p, h1, h2⟩ := hv; exact ⟨p, known h h1, h2⟩
    | mn => rw [VR] at hv ⊢; exact hv
    | f g a c =>
      have h : Z3 (lf true (fun v _ r => Z3 (oldD ro d v) r) a) (lf true (fun v _ r => Z3 (oldD ro d v) r) c) = true := h
      obtain ⟨q1, q2⟩ := Q2 h
      rw [VR] at hv ⊢
      obtain ⟨a', c', h1, h2, h3⟩ := hv
      exact ⟨a', c', h1, VRs.old hle hro d (H8 q1) h2, VRs.old hle hro d (H8 q2) h3⟩
    | y x => cases h
    | fn0 => rw [VR] at hv ⊢; exact hv
    | ifc t b => rw [VR] at hv ⊢; obtain ⟨u, h1, h2⟩ := hv; exact ⟨u, h1, VR.old hle hro d h h2⟩
    | ifn => rw [VR] at hv ⊢; exact hv
    | ag l => rw [VR] at hv ⊢; obtain ⟨u, h1, h2⟩ := hv; exact ⟨u, h1, VRs.old hle hro d (H8 h) h2⟩
    | tu l => rw [VR] at hv ⊢; obtain ⟨u, h1, h2⟩ := hv; exact ⟨u, h1, VRs.old hle hro d (H8 h) h2⟩
    | q n => rw [VR] at hv ⊢; exact hv
theorem VRs.old {ι κ : Io} {ro : Tr AO} (hle : ι.le κ) (hro : ∀ x, (Q5 x ro).isSome = true → ∃ p, ι x = some p) : ∀ (d : Nat) {l : List AV} {vs : List Value}, (∀ a ∈ l, oldD ro d a = true) → VRs κ l vs → VRs ι l vs
  | d, [], vs, _, hv => by rw [VRs] at hv ⊢; exact hv
  | d, a :: l, vs, h, hv => by
    rw [VRs] at hv ⊢
    obtain ⟨v, s, h1, h2, h3⟩ := hv
    exact ⟨v, s, h1, VR.old hle hro d (h a (by simp)) h2, VRs.old hle hro d (fun b hb => h b (by simp [hb])) h3⟩
end
theorem Uu {α : Type} {f : α → α → Bool} (hf : ∀ a b, f a b = true → a = b) : ∀ {l m : List α}, eqA f l m = true → l = m
  | [], [], _ => rfl
  | [], _ :: _, h => by cases h
  | _ :: _, [], h => by cases h
  | a :: l, b :: m, h => by
    have h : Z3 (f a b) (eqA f l m) = true := h
    obtain ⟨h1, h2⟩ := Q2 h
    rw [hf a b h1, Uu hf h2]
noncomputable def eqD : Nat → AV → AV → Bool := nf (M := AV → AV → Bool) (fun _ _ => false) (fun _ ih => eqv1 ih)
theorem Hf : ∀ (d : Nat) (a b : AV), eqD d a b = true → a = b
  | 0, a, b, h => by cases h
  | d + 1, a, b, h => by
    have h : eqv1 (eqD d) a b = true := h
    have ih := Hf d
    cases a <;> cases b <;> try (cases h; done)
    · have h : bEq _ _ = true := h
      rw [Re] at h; rw [eq_of_beq h]
    · obtain ⟨h1, h2⟩ := Q2 h
      rw [Rf] at h2; rw [Jx h1, eq_of_beq h2]
    · have h : eqL _ _ = true := h
      rw [F6] at h; rw [eq_of_beq h]
    · obtain ⟨h1, h2⟩ := Q2 h
      rw [Xs h1, Nat.eq_of_beq_eq_true h2]
    · rfl
    · obtain ⟨h1, h2⟩ := Q2 h
      obtain ⟨h2, h3⟩ := Q2 h2
      obtain ⟨h3, h4⟩ := Q2 h3
      obtain ⟨h4, h5⟩ := Q2 h4
      obtain ⟨h5, h6⟩ := Q2 h5
      rw [Re] at h5
      rw [Xs h1, Nat.eq_of_beq_eq_true h2, Nat.eq_of_beq_eq_true h3, Nat.eq_of_beq_eq_true h4, eq_of_beq h5, Nat.eq_of_beq_eq_true h6]
    · rfl
    · have h : Pa.eq _ _ = true := h
      rw [Xs h]
    · rfl
    · obtain ⟨h1, h2⟩ := Q2 h
      obtain ⟨h2, h3⟩ := Q2 h2
      rw [Xs h1, Uu ih h2, Uu ih h3]
    · rfl
    · obtain ⟨h1, h2⟩ := Q2 h
      rw [Nat.eq_of_beq_eq_true h1, ih _ _ h2]
    · rfl
    · have h : eqA _ _ _ = true := h
      rw [Uu ih h]
    · have h : eqA _ _ _ = true := h
      rw [Uu ih h]
theorem G3 {a b : AV} (h : eqv a b = true) : a = b := Hf 6 a b h
theorem eqNr_spec {a b : Nr} (h : eqNr a b = true) : a = b := by
  cases a <;> cases b <;> try (cases h; done)
  · have h : eqv _ _ = true := h
    rw [G3 h]
  · obtain ⟨h1, h2⟩ := Q2 h
    obtain ⟨h2, h3⟩ := Q2 h2
    rw [Nat.eq_of_beq_eq_true h1, Nat.eq_of_beq_eq_true h2, Uu (fun a b h => G3 h) h3]
section
variable {P : Program} {Ck : CkT} {w₀ w : World} {K : Gd} {ι : Io} {h : H} {fr : Fm} {a : Act} {N : Nat} {ro : Option Nat}
open Classical in
noncomputable def Gd.more (K : Gd) (ι : Io) (h : H) (w : World) : Gd := fun c => match K c with
  | some o => some o
  | none => if ∃ x p, (Q5 x h.rw).isSome = true ∧ ι x = some p ∧ p.cb = c then w.heap[c]? else none
theorem J2 {c : Nat} {o : Obj} (hc : K c = some o) : K.more ι h w c = some o := by unfold Gd.more; rw [hc]
theorem J3 {x : Pa} {p : Pl} (hx : (Q5 x h.rw).isSome = true) (hp : ι x = some p) (hK : K p.cb = none) : K.more ι h w p.cb = w.heap[p.cb]? := by
  unfold Gd.more; rw [hK]; exact if_pos ⟨x, p, hx, hp, rfl⟩
theorem C7 {c : Nat} (hc : K.more ι h w c = none) : K c = none := by
  cases hk : K c with
  | none => rfl
  | some o => rw [J2 hk] at hc; cases hc
theorem SR.guard (s : SR Ck w₀ K ι h w) : SR Ck w₀ (K.more ι h w) ι ⟨h.rw, .e, h.nx⟩ w := by
  refine ⟨s.os, s.tape, s.output, fun c o hc => ?_, fun x a hx => ?_, fun x a hx => ?_, fun x y p q hx => ?_, s.inj, s.new, s.lt, s.one⟩
  · cases hk : K c with
    | some o' =>
      rw [J2 hk] at hc; injection hc with hc; subst hc
      exact s.gd c _ hk
    | none =>
      unfold Gd.more at hc
      rw [hk] at hc
      simp only at hc
      split at hc
      · exact hc
      · cases hc
  · have hx : Q5 x (.e : Tr AO) = some a := hx
    rw [Xi] at hx; cases hx
  · obtain ⟨p, o, h1, h2, h3, h4⟩ := s.rw x a hx
    exact ⟨p, o, h1, by rw [J3 (by rw [show Q5 x h.rw = some a from hx]; rfl) h1 h3]; exact h2, h4⟩
  · have hx : (Q5 x (.e : Tr AO)).isSome = true := hx
    rw [Xi] at hx; cases hx
theorem SR.back (s : SR Ck w₀ K ι h w) (hro : ∀ x, Q5 x h.ro = none) {κ : Io} {h' : H} {w' : World} (hle : ι.le κ) (s' : SR Ck w₀ (K.more ι h w) κ h' w') : SR Ck w₀ K ι h w' := by
  refine ⟨s'.os, s'.tape, s'.output, fun c o hc => s'.gd c o (J2 hc), fun x a hx => ?_, fun x a hx => (by rw [hro x] at hx; cases hx), s.inj, s.injo, s.new, fun x p hx => s'.lt x p (hle x p hx), s.one⟩
  obtain ⟨p, o, h1, h2, h3, h4⟩ := s.rw x a hx
  exact ⟨p, o, h1, s'.gd _ _ (by rw [J3 (by rw [hx]; rfl) h1 h3]; exact h2), h3, h4⟩
open Classical in
theorem SR.adopt (s : SR Ck w₀ K ι h w) (hro : ∀ x, Q5 x h.ro = none) {κ : Io} {h' h2 : H} {w' : World} (hle : ι.le κ) (s' : SR Ck w₀ (K.more ι h w) κ h' w') {x : Pa} {p q : Pl} {ob : AO} {o : Obj} (hx : κ x = some p) (hK : K.more ι h w p.cb = none) (hqc : q.cb = p.cb) (hqb : q.by' = p.by')
    (ho : w'.heap[p.cb]? = some o) (hb : BR Ck (ι.set h.nx q) q ob o) (hn : Ij ob h = some h2) : ι.le (ι.set h.nx q) ∧ SR Ck w₀ K (ι.set h.nx q) h2 w' := by
  obtain ⟨ro', rw', nx⟩ := h
  obtain ⟨rw2, n1, hn⟩ := Qa (x := Nu (some ob) nx rw') hn
  obtain ⟨nx2, n2, hn⟩ := Qa hn
  injection hn with hn; subst hn
  have hset := V6 _ _ _ _ n1
  have hsucc := Zg n2
  have hnone : ι nx = none := s.new nx (Nat.le_refl _)
  have hle2 : ι.le (ι.set nx q) := Xz hnone
  have old : ∀ y, (Q5 y rw').isSome = true → y ≠ nx := fun y hy e => by
    subst e
    cases hg : Q5 y rw' with
    | none => rw [hg] at hy; cases hy
    | some b => obtain ⟨r, _, hr, _⟩ := s.rw y b hg; rw [hnone] at hr; cases hr
  have other : ∀ y r, (Q5 y rw').isSome = true → ι y = some r → r.cb ≠ p.cb := fun y r hy hr he => by
    cases hg : Q5 y rw' with
    | none => rw [hg] at hy; cases hy
    | some b =>
      obtain ⟨r', o', h1, h2, h3, _⟩ := s.rw y b hg
      rw [hr] at h1; injection h1 with h1; subst h1
      have := J3 (w := w) (h := ⟨ro', rw', nx⟩) hy hr h3
      rw [he, hK, ← he, h2] at this; cases this
  refine ⟨hle2, ⟨s'.os, s'.tape, s'.output, fun c o hc => s'.gd c o (J2 hc), ?_, fun y a hy => (by rw [hro y] at hy; cases hy), ?_, ?_, ?_, ?_, ?_⟩⟩
  · intro y b hy
    rw [hset y] at hy
    by_cases e : y = nx
    · subst e
      simp at hy; subst hy
      exact ⟨q, o, Qw _ _ _, by rw [hqc]; exact ho, by rw [hqc]; exact C7 hK, hb⟩
    · simp only [e, if_false] at hy
      obtain ⟨r, c, r1, r2, r3, r4⟩ := s.rw y b hy
      exact ⟨r, c, hle2 _ _ r1, s'.gd _ _ (by rw [J3 (h := ⟨ro', rw', nx⟩) (by show (Q5 y rw').isSome = true; rw [hy]; rfl) r1 r3]; exact r2), r3, r4.mono hle2⟩
  · intro y z r t hy hz hr ht hrt
    rw [hset y] at hy; rw [hset z] at hz
    by_cases ey : y = nx <;> by_cases ez : z = nx
    · rw [ey, ez]
    · subst ey
      simp only [ez, if_false] at hz
      rw [Qw] at hr; injection hr with hr; subst hr
      rw [Ql ez] at ht
      exact absurd (hrt.symm.trans hqc) (other z t hz ht)
    · subst ez
      simp only [ey, if_false] at hy
      rw [Qw] at ht; injection ht with ht; subst ht
      rw [Ql ey] at hr
      exact absurd (hrt.trans hqc) (other y r hy hr)
    · simp only [ey, ez, if_false] at hy hz
      rw [Ql ey] at hr; rw [Ql ez] at ht
      exact s.inj y z r t hy hz hr ht hrt
  · intro y z r t hy hz
    rw [hro y] at hy; cases hy
  · intro y hy
    have hy : nx2.dec ≤ y.dec := hy
    have : y ≠ nx := fun e => by subst e; omega
    rw [Ql this]
    exact s.new y (by show nx.dec ≤ y.dec; omega)
  · intro y r hr
    by_cases e : y = nx
    · subst e; rw [Qw] at hr; injection hr with hr; subst hr; rw [hqc]; exact s'.lt _ _ hx
    · rw [Ql e] at hr; exact s'.lt _ _ (hle _ _ hr)
  · intro y z r t hr ht hrt
    by_cases ey : y = nx <;> by_cases ez : z = nx
    · subst ey; subst ez
      rw [hr] at ht; injection ht with ht; rw [ht]
    · subst ey
      rw [Qw] at hr; injection hr with hr; subst hr
      rw [Ql ez] at ht
      rw [hqb]; exact s'.one x z p t hx (hle _ _ ht) (hqc.symm.trans hrt)
    · subst ez
      rw [Qw] at ht; injection ht with ht; subst ht
      rw [Ql ey] at hr
      rw [hqb]; exact s'.one y x r p (hle _ _ hr) hx (hrt.trans hqc)
    · rw [Ql ey] at hr; rw [Ql ez] at ht
      exact s.one y z r t hr ht hrt
end
end Go.Ev
namespace Go.Ev
theorem RA_toL {β : Type} {S : β → Prop} {r : Rs β} {x : List β} (hr : Gj r = some x) (hs : ∀ o ∈ x, S o) : RA r S := by
  cases r with
  | z => cases hr
  | one a => injection hr with hr; subst hr; exact hs a (by simp)
  | many m => injection hr with hr; subst hr; exact hs
theorem Fe {α : Type} {t : Tr α} (h : Tr.nil t = true) (x : Pa) : Q5 x t = none := by
  cases t with
  | e => exact Xi x
  | n l v r => cases h
theorem sames {x : Nr} {f : Ou → Option Nr} : ∀ {r : List Ou}, lf true (fun o _ ih => Z3 (Option.casesOn (motive := fun _ => Bool) (f o) false (eqNr x)) ih) r = true → ∀ o ∈ r, f o = some x
  | [], _, o, ho => by simp at ho
  | b :: r, h, o, ho => by
    have h : Z3 (Option.casesOn (motive := fun _ => Bool) (f b) false (eqNr x)) (lf true (fun o _ ih => Z3 (Option.casesOn (motive := fun _ => Bool) (f o) false (eqNr x)) ih) r) = true := h
    obtain ⟨h1, h2⟩ := Q2 h
    rcases List.mem_cons.1 ho with rfl | ho
    · cases hb : f o with
      | none => rw [hb] at h1; cases h1
      | some y => rw [hb] at h1; rw [eqNr_spec h1]
    · exact sames h2 o ho
theorem nrm_spec {ro : Tr AO} {o : Ou} {x : Nr} (h : nrm ro o = some x) : (oldV ro o.1 = true ∧ x = .a o.1) ∨
    ∃ y p n c ex z b l, o.1 = .sl y p n c ex z ∧ Q5 y o.2.rw = some b ∧ U4 b = [] ∧ rdE y p (n * z) o.2 = some l ∧ (∀ v ∈ l, oldV ro v = true) ∧ x = .r n z l := by
  unfold nrm at h
  cases hq : oldV ro o.1 with
  | true =>
    rw [hq, Ve] at h
    injection h with h
    exact .inl ⟨rfl, h.symm⟩
  | false =>
    rw [hq, Q9] at h
    right
    obtain ⟨v, h'⟩ := o
    cases v <;> try (cases h; done)
    rename_i y p n c ex z
    have h : bd (Q5 y h'.rw) (fun b => Vd (Ux (U4 b)) (bd (rdE y p (Nat.mul n z) h') fun l => Vd (lf true (fun v _ r => Z3 (oldV ro v) r) l) (some (Nr.r n z l)) none) none) = some x := h
    obtain ⟨b, hb, h⟩ := Qa h
    obtain ⟨h1, h⟩ := Qx h
    obtain ⟨l, hl, h⟩ := Qa h
    obtain ⟨h2, h⟩ := Qx h
    injection h with h
    rw [G1] at h1
    exact ⟨y, p, n, c, ex, z, b, l, rfl, hb, by simpa using h1, hl, H8 h2, h.symm⟩
section
variable {P : Program} {Ck : CkT} {w₀ w : World} {K : Gd} {ι : Io} {h : H} {fr : Fm} {a : Act} {N : Nat} {ro : Option Nat}
theorem Hg {cl : Cl} (hcl : ClS P Ck w₀ cl) (s : SR Ck w₀ K ι h w) (hf : FR ι fr a.tmps) {g : Pa} {ar : List Od} {o : Oper} {c : Call} {f : FuncId} (hop : o.op = .call c) (h1 : c.callee = .value (.func f)) (h2 : g.dec = f) (h3 : OdsR ar c.args.toList)
    {next : Act → World → Prop} {Q : Exit → Act → World → Prop} (hS : RA (h_callm cl g ar fr h) fun x => ∀ ι' w' v, Ext h x.2 ι ι' → SR Ck w₀ K ι' x.2 w' → VR ι' x.1 v → next (a.put o.dst v) w') : o.wpIn (F0 ro) 0 P a w next Q := by
  obtain ⟨us, hus, hS⟩ := Q0 hS
  obtain ⟨hnil, hS⟩ := Y8 hS
  have hro := Fe hnil
  obtain ⟨l, hl, hS⟩ := Q0 hS
  cases l with
  | nil => exact hS.elim
  | cons o1 r =>
  obtain ⟨x, hx, hS⟩ := Q0 (x := nrm h.rw o1) hS
  obtain ⟨hall, hS⟩ := Y8 hS
  have hall : ∀ o' ∈ o1 :: r, nrm h.rw o' = some x := fun o' ho => (List.mem_cons.1 ho).elim (fun e => e ▸ hx) (sames hall o')
  have hv := J0 hf h3 hus
  have hknown : ∀ y, (Q5 y h.rw).isSome = true → ∃ p, ι y = some p := fun y hy => by
    cases hg : Q5 y h.rw with
    | none => rw [hg] at hy; cases hy
    | some b => obtain ⟨p, _, hp, _⟩ := s.rw y b hg; exact ⟨p, hp⟩
  have hout : ∀ o' ∈ o1 :: r, B7 Ck w₀ (K.more ι h w) ι ⟨h.rw, .e, h.nx⟩ (fun | .returned v, w'' => next (a.put o.dst v) w'' | .panicked chain, w'' => Q (.panic chain) a w'' | .outgrown, _ => LetsOut Q) o' := by
    intro o' ho ι' w' v hext s' hvv
    have hle := hext.le
    show next (a.put o.dst v) w'
    rcases nrm_spec (hall o' ho) with ⟨q1, q2⟩ | ⟨y, p, n, cc, ex, z, b, lv, q1, q2, q3, q4, q5, q6⟩
    · subst q2
      exact hS ι w' v (Ext.same rfl) (s.back hro hle s') (VR.old hle hknown 4 q1 hvv)
    · subst q6
      obtain ⟨t, ht, hS⟩ := Q0 hS
      rw [Jg] at hS
      have hS : RA (ob (Ij (.cells t [] lv.length) h) fun h' => .one (AV.sl h.nx 0 n n false z, h')) (fun x => ∀ ι' w' v, Ext h x.2 ι ι' → SR Ck w₀ K ι' x.2 w' → VR ι' x.1 v → next (a.put o.dst v) w') := hS
      obtain ⟨h', hh, hS⟩ := Q0 hS
      rw [q1, VR] at hvv
      obtain ⟨py, off, c', e1, rfl, e2, e3, e4, e5, e6⟩ := hvv
      obtain ⟨py', ob', f1, f2, f3, f4⟩ := s'.rw y b q2
      rw [e1] at f1; injection f1 with f1; subst f1
      obtain ⟨py', vs, g1, g2, g3, g4⟩ := s'.cells q4
      rw [e1] at g1; injection g1 with g1; subst g1
      cases b with
      | cells t0 zs0 m0 =>
        obtain ⟨arr, el, lo, hi, rfl, b1, b2, b3, b4, b5, b6, b7⟩ := f4
        have hmk : Zt zs0 = false := by
          have : Vd (Zt zs0) zs0 [] = [] := q3
          cases hm : Zt zs0 with
          | false => rfl
          | true => rw [hm, Ve] at this; subst this; cases hm
        rw [hmk] at b6
        obtain ⟨rfl, rfl⟩ := b5 b6
        have hvs := VRs.old hle hknown 4 (fun a ha => q5 a ha) g2
        have hlen := hvs.len
        have hcell : ∀ j v, vs[j]? = some v → arr[off + j]? = some v := fun j v hj => by
          have hjl : j < vs.length := by
            rcases Nat.lt_or_ge j vs.length with h | h
            · exact h
            · rw [List.getElem?_eq_none h] at hj; cases hj
          have hn0 : n ≠ 0 := fun e => by subst e; simp at g3; rw [g3] at hjl; simp at hjl
          have hoff : off = py.bs + p := e6.resolve_right (fun h => hn0 h.1)
          have := g4 j v hj
          simp only [World.cell?, f2] at this
          rw [hoff]; simpa using this
        have hmul : n * z ≤ c' * z := Nat.mul_le_mul_right z (by omega)
        let q : Pl := ⟨py.cb, off, py.sz, py.by'⟩
        have hnone : ι h.nx = none := s.new h.nx (Nat.le_refl _)
        have hbr : BR Ck ι q (.cells t [] lv.length) (.cells arr el (0, 0)) := by
          refine ⟨arr, el, 0, 0, rfl, b1, ?_, fun j hj => ?_, fun j hj => by omega, fun _ => ⟨rfl, rfl⟩, b6, Nat.le_refl _⟩
          · show off + lv.length ≤ py.sz
            omega
          · have hg := X3 lv .e 0 t ht j
            obtain ⟨v, k1, k2⟩ := hvs.get (i := j) (a := lv[j]) (by simp)
            exact ⟨lv[j], v, by rw [Xf _ _ _ _ hj, hg, if_pos (by omega)]; simp [hj], hcell j v k1, k2⟩
        obtain ⟨a1, a2⟩ := s.adopt (q := q) hro hle s' e1 f3 rfl rfl f2 (hbr.mono (Xz hnone)) hh
        refine hS _ w' _ (Ext.set a1 (by show h.nx.dec ≤ h'.nx.dec; have := N6 hh; omega)) a2 ?_
        rw [VR]
        exact ⟨q, off, c', Qw _ _ _, rfl, by omega, Nat.le_refl _, fun h => (by cases h), e5, .inl rfl⟩
      | _ => obtain ⟨ob2, k1, k2⟩ := Qa (x := R8 y o'.2) q4
             unfold R8 at k1
             rw [q2] at k1; injection k1 with k1; subst k1
             cases k2
  have hRA := RA_toL hl hout
  obtain ⟨c1, c2⟩ := (hcl (K.more ι h w) ι ⟨h.rw, .e, h.nx⟩ w us _ s.guard hv).1 g _ hRA
  refine ⟨V8 o, ?_⟩
  have hex : execOp a.eval o = (do let d ← resolve a.eval c o.type; invoke d.target d.args) := by unfold execOp; rw [hop]
  have hrun : (execOp a.eval o).run P w = (callFunc g.dec (c.args.toList.map a.eval).toArray).run P w := by
    rw [hex]
    simp only [resolve, h1, Sem.run_bind, Sem.run_pure, Result.andThen_ok, Act.eval, Deferred.ofValue, invoke, Array.empty_append, Array.append_empty]
    rw [h2, ← Array.toArray_toList (xs := c.args.map a.eval), Array.toList_map]
  rw [Y3 (fun c' hc' => by rw [hop] at hc'; cases hc'), hrun, c1]
  exact ⟨G2 ro 0, N9 c2⟩
end
end Go.Ev
namespace Go.Ev
def HmOk (ho : HOp) (op : Op) : Prop := ∃ g f ar c, ho = .callm g ar ∧ op = .call c ∧ c.callee = .value (.func f) ∧ g.dec = f ∧ OdsR ar c.args.toList
def MOk (P : Program) (x : Od) (op : Op) : Prop := ∃ X s e, op = .convert s s X ∧ P.underlying s = some (.slice e) ∧ P.underlying e = some (.int .u8) ∧ OdR x X
def O1Ok (P : Program) (x : Op1) (op : Op) : Prop := match x with
  | .l _ _ lo => LOk P lo op
  | .k ko => KOk P ko op
  | .h _ ho => En P ho op ∨ HcOk P ho op ∨ HmOk ho op
  | .m x => MOk P x op
def DsOk (N : Nat) : Option Pa → Option Tmp → Prop
  | none, none => True
  | some p, some d => p.dec = d ∧ d < N
  | _, _ => False
def GdOk (ops : Array Oper) : Option (Pa × Bool) → Option (Nat × Bool) → Prop
  | none, none => True
  | some (p, b), some (j, c) => b = c ∧ (ops[j]?).bind (·.dst) = some p.dec
  | _, _ => False
structure O2Ok (P : Program) (N : Nat) (ops : Array Oper) (x : Op2) (o : Oper) : Prop where
  d : DsOk N x.dst o.dst
  g : GdOk ops x.grd o.guard
  o : O1Ok P x.op o.op
theorem LOk.nd {P : Program} {lo : LOp} {op : Op} (h : LOk P lo op) : ∀ c, op ≠ .defer c := by intro c; cases h <;> (intro e; cases e)
theorem KOk.nd {P : Program} {lo : KOp} {op : Op} (h : KOk P lo op) : ∀ c, op ≠ .defer c := by intro c; cases h <;> (intro e; cases e)
theorem En.nd {P : Program} {lo : HOp} {op : Op} (h : En P lo op) : ∀ c, op ≠ .defer c := by intro c; cases h <;> (intro e; cases e)
theorem O1Ok.nd {P : Program} {x : Op1} {op : Op} (h : O1Ok P x op) : ∀ c, op ≠ .defer c := by
  cases x with
  | l lo hi o => exact LOk.nd h
  | k o => exact KOk.nd h
  | h bf o =>
    rcases h with h | h | h
    · exact h.nd
    · intro c; cases h <;> (intro e; cases e)
    · obtain ⟨g, f, ar, c, _, rfl, _⟩ := h; intro c e; cases e
  | m x => obtain ⟨X, s, e, rfl, _⟩ := h; intro c e; cases e
section
variable {P : Program} {Ck : CkT} {w₀ w : World} {K : Gd} {ι : Io} {h : H} {fr fr' : Fm} {a : Act} {N : Nat} {ro : Option Nat} {ops : Array Oper}
theorem FR.put {d : Option Pa} {D : Option Tmp} {u : AV} {v : Value} (hf : FR ι fr a.tmps) (hd : DsOk N d D) (hN : a.tmps.size = N) (hs : Gk d u fr = some fr') (hv : VR ι u v) :
    FR ι fr' (a.put D v).tmps ∧ (a.put D v).tmps.size = N ∧ (a.put D v).defers = a.defers := by
  cases d with
  | none =>
    cases D with
    | some D => exact hd.elim
    | none => injection hs with hs; subst hs; exact ⟨hf, hN, rfl⟩
  | some d =>
    cases D with
    | none => exact hd.elim
    | some D =>
      obtain ⟨rfl, hlt⟩ := hd
      refine ⟨fun p b hp => ?_, by simp [Act.put, hN], rfl⟩
      rw [V6 _ _ _ _ hs p] at hp
      show VR ι b ((a.tmps.setIfInBounds d.dec v).getD p.dec undef)
      by_cases e : p = d
      · subst e
        simp at hp; subst hp
        have : p.dec < a.tmps.size := by rw [hN]; exact hlt
        simpa [this] using hv
      · simp only [e, if_false] at hp
        have hne : d.dec ≠ p.dec := fun he => e (Yd he.symm)
        have h0 := hf p b hp
        rw [Array.getD_eq_getD_getElem?] at h0 ⊢
        rw [Array.getElem?_setIfInBounds_ne hne]
        exact h0
theorem Bp : VR ι (.tu []) undef := by rw [VR]; exact ⟨#[], rfl, by rw [VRs]⟩
theorem Bq {g : Option (Pa × Bool)} {o : Oper} {b : Bool} (hf : FR ι fr a.tmps) (hg : GdOk ops g o.guard) (he : Bh fr g = some b) : Region.wanted o (yielded ops a.tmps) = b := by
  unfold Region.wanted
  cases g with
  | none =>
    cases hh : o.guard with
    | some x => rw [hh] at hg; exact hg.elim
    | none => injection he with he
  | some g =>
    obtain ⟨p, c⟩ := g
    cases hh : o.guard with
    | none => rw [hh] at hg; exact hg.elim
    | some x =>
      obtain ⟨j, c'⟩ := x
      rw [hh] at hg
      obtain ⟨rfl, hj⟩ := hg
      obtain ⟨v, hv, he⟩ := Qa (x := Q5 p fr) he
      have hvr := hf p v hv
      simp only
      have hy : yielded ops a.tmps j = match a.tmps[p.dec]? with | some (.bool b) => some b | _ => none := by unfold yielded; rw [hj]; rfl
      rw [hy]
      rw [Array.getD_eq_getD_getElem?] at hvr
      cases v with
      | b x =>
        rw [VR] at hvr
        have : a.tmps[p.dec]? = some (.bool x) := by
          cases hc : a.tmps[p.dec]? with
          | none => rw [hc] at hvr; cases hvr
          | some u => rw [hc] at hvr; simp at hvr; rw [hvr]
        rw [this]
        have he : some (bEq x c) = some b := he
        injection he with he
        rw [← he, Re, Bool.eq_iff_iff]; simp
      | _ =>
        injection he with he
        subst he
        cases hc : a.tmps[p.dec]? with
        | none => rfl
        | some u =>
          rw [hc] at hvr
          simp only [Option.getD_some] at hvr
          cases u <;> try rfl
          exfalso
          rw [VR] at hvr
          first | (cases hvr; done) | (obtain ⟨h1, _⟩ := hvr; cases h1; done) | (obtain ⟨_, _, h1⟩ := hvr; cases h1; done) | (obtain ⟨_, _, _, _, h1, _⟩ := hvr; cases h1; done) | (obtain ⟨_, _, h1, _⟩ := hvr; cases h1; done) | (obtain ⟨_, h1, _⟩ := hvr; cases h1; done)
def Nx (Ck : CkT) (w₀ : World) (K : Gd) (ι : Io) (h : H) (N : Nat) (a : Act) (next : Act → World → Prop) (st : St) : Prop :=
  ∀ ι' a' w', Ext h st.h ι ι' → SR Ck w₀ K ι' st.h w' → FR ι' st.fr a'.tmps → a'.tmps.size = N → a'.defers = a.defers → next a' w'
theorem SR.ofAlloc {x : AO × (Pa → AV)} {X : Sem Next} (s : SR Ck w₀ K ι h w) (hq : Gm Ck P ι X w x) {h' : H} (hn : Ij x.1 h = some h') :
    ∃ v w' ι', X.run P w = .ok (.value v) w' ∧ Ext h h' ι ι' ∧ SR Ck w₀ K ι' h' w' ∧ VR ι' (x.2 h.nx) v := by
  obtain ⟨obj, v, w₁, sz, m, h1, h2, h3, h4, h5, h6, h7⟩ := hq
  have hnone : ι h.nx = none := s.new h.nx (Nat.le_refl _)
  obtain ⟨a1, a2⟩ := s.alloc hn ⟨w.heap.size, 0, sz, m⟩ rfl obj (h6.mono (Xz hnone))
  exact ⟨v, w₁, _, h1, Ext.set a1 (by have := N6 hn; omega), a2.same h2 h3 h4 h5, h7 _ _ (Qw _ _ _)⟩
theorem Hh (s : SR Ck w₀ K ι h w) {x : Od} {op : Op} {o : Oper} (hop : o.op = op) (hok : MOk P x op) {y : Pa} {oo n c z : Nat} {ex : Bool} {p : Pl} (hv : ∀ X, OdR x X → VR ι (.sl y oo n c ex z) (a.eval X)) (hp : ι y = some p) (hb : p.by' = true) (hK : K p.cb = none) :
    ∃ v w', (execOp a.eval o).run P w = .ok (.value v) w' ∧ VR ι (.sl y oo n c ex z) v ∧ SR Ck w₀ K ι h w' ∧ w'.heap.size = w.heap.size ∧ (∀ c, c ≠ p.cb → w'.heap[c]? = w.heap[c]?) ∧
      ∀ q ob o, q.cb = p.cb → q.by' = true → w.heap[q.cb]? = some o → BR Ck ι q ob o → ∃ o', w'.heap[q.cb]? = some o' ∧ BR Ck ι q ob o' := by
  obtain ⟨X, s', e, rfl, h1, h2, h3⟩ := hok
  have hv := hv X h3
  have hv0 := hv
  rw [VR] at hv
  obtain ⟨p', off, c', hp', hX, _⟩ := hv
  rw [hp] at hp'; injection hp' with hp'; subst hp'
  have hex : ∀ w', (markStringish ⟨p.cb, off, none⟩).run P w = .ok () w' → (execOp a.eval o).run P w = .ok (.value (a.eval X)) w' := fun w' hw => by
    unfold execOp
    rw [hop]
    simp only [hX, convert, Sem.run_bind, run_underlying h1, run_underlying h2, Result.andThen_ok, beq_self_eq_true, hw, Sem.run_pure]
  by_cases hc : ∃ arr el f, w.heap[p.cb]? = some (.cells arr el f)
  · obtain ⟨arr, el, f, ho⟩ := hc
    obtain ⟨w', g1, g2, g3⟩ := s.mark (P := P) (n := off) hp hb hK ho
    exact ⟨_, w', hex w' g1, hv0, g2, g3⟩
  · have hsh : w.shape? p.cb = none := by
      unfold World.shape?
      cases hh : w.heap[p.cb]? with
      | none => rfl
      | some ob => cases ob <;> first | rfl | exact absurd ⟨_, _, _, hh⟩ hc
    refine ⟨_, w, hex w ?_, hv0, s, rfl, fun _ _ => rfl, fun q ob o' hq _ ho hbr => ⟨o', ho, hbr⟩⟩
    simp only [markStringish, Sem.run_bind, run_shape, hsh, Result.andThen_ok, Sem.run_pure]
theorem op1_sound {cl : Cl} (hcl : ClS P Ck w₀ cl) (s : SR Ck w₀ K ι h w) (hf : FR ι fr a.tmps) (hN : a.tmps.size = N) {d : Option Pa} {x : Op1} {o : Oper} (hd : DsOk N d o.dst) (hok : O1Ok P x o.op) {next : Act → World → Prop} {Q : Exit → Act → World → Prop}
    (hS : RA (op1 cl d x fr h) (Nx Ck w₀ K ι h N a next)) : o.wpIn (F0 ro) 0 P a w next Q := by
  have hnd := hok.nd
  have val : ∀ {v : Value} {w' : World}, (execOp a.eval o).run P w = .ok (.value v) w' → next (a.put o.dst v) w' → o.wpIn (F0 ro) 0 P a w next Q := fun h1 h2 => by
    refine ⟨V8 o, ?_⟩
    rw [Y3 hnd, h1]
    exact h2
  have heavy : ∀ {r : Rs Ou}, RA (Fx r fun x => ob (Gk d x.1 fr) fun fr => .one (⟨fr, x.2⟩ : St)) (Nx Ck w₀ K ι h N a next) → RA r fun x => ∀ ι' w' v, Ext h x.2 ι ι' → SR Ck w₀ K ι' x.2 w' → VR ι' x.1 v → next (a.put o.dst v) w' := fun hr =>
    (Yw hr).mono fun x hx ι' w' v hle s' hv => by
      obtain ⟨fr', hset, hx⟩ := Q0 hx
      obtain ⟨p1, p2, p3⟩ := FR.put (hf.mono hle.le) hd hN hset hv
      exact hx ι' _ w' hle s' p1 p2 p3
  cases x with
  | l lo hi lo' =>
    obtain ⟨u, hu, hS⟩ := Q0 hS
    obtain ⟨fr', hset, hS⟩ := Q0 hS
    obtain ⟨nx, h1, v, rfl, hv⟩ := lightOk s hf hok hu
    obtain ⟨p1, p2, p3⟩ := hf.put hd hN hset hv
    exact val h1 (hS ι _ w (Ext.same rfl) s p1 p2 p3)
  | k ko =>
    obtain ⟨y, hy, hS⟩ := Q0 hS
    obtain ⟨fr', hset, hS⟩ := Q0 hS
    obtain ⟨h', hnew, hS⟩ := Q0 hS
    have hq : Gm Ck P ι (execOp a.eval o) w y := by
      cases hr : rngOp ko with
      | false => exact Dq hf hok hr hy
      | true => cases ko <;> first | (cases hr; done) | exact rng_spec s hf hok hy
    obtain ⟨v, w', ι', h1, h2, h3, h4⟩ := s.ofAlloc hq hnew
    obtain ⟨p1, p2, p3⟩ := (hf.mono h2.le).put hd hN hset h4
    exact val h1 (hS ι' _ w' h2 h3 p1 p2 p3)
  | h bf ho =>
    have hS := heavy hS
    rcases hok with hok | hok | hok
    · exact (heavy0 s hf hok).wp hnd hS
    · exact heavyC hcl s hf hok hS
    · obtain ⟨g, f, ar, c, rfl, e1, e2, e3, e4⟩ := hok
      exact Hg hcl s hf e1 e2 e3 e4 hS
  | m x =>
    obtain ⟨u, hu, hS⟩ := Q0 hS
    obtain ⟨u', hm, hS⟩ := Q0 hS
    obtain ⟨fr', hset, hS3⟩ := Q0 hS
    cases u <;> try (cases hm; done)
    rename_i y oo n c ex z
    obtain ⟨ob, hob, hm⟩ := Qa (x := Q5 y h.rw) hm
    cases ob <;> try (cases hm; done)
    rename_i t zs m
    obtain ⟨hmk, hm⟩ := Qx hm
    injection hm with hm; subst hm
    obtain ⟨p, ob', q1, q2, q3, arr, el, lo, hi, rfl, _, _, _, _, _, b6, _⟩ := s.rw y _ hob
    obtain ⟨v, w', g1, g2, g3, _⟩ := Hh s rfl hok (fun X hX => Qs hX hf hu) q1 (b6.trans hmk) q3
    obtain ⟨p1, p2, p3⟩ := hf.put hd hN hset g2
    exact val g1 (hS3 ι _ w' (Ext.same rfl) g3 p1 p2 p3)
theorem op2_sound {cl : Cl} (hcl : ClS P Ck w₀ cl) (s : SR Ck w₀ K ι h w) (hf : FR ι fr a.tmps) (hN : a.tmps.size = N) {x : Op2} {o : Oper} (hok : O2Ok P N ops x o) {next : Act → World → Prop} {Q : Exit → Act → World → Prop}
    (hS : RA (op2 cl x fr h) (Nx Ck w₀ K ι h N a next)) : if Region.wanted o (yielded ops a.tmps) then o.wpIn (F0 ro) 0 P a w next Q else (∀ f, o.about P w a.eval = some f → (F0 ro).fn f) ∧ next (a.put o.dst undef) w := by
  obtain ⟨b, hb, hS⟩ := Q0 hS
  rw [Bq hf hok.g hb]
  cases b with
  | true => rw [if_pos rfl]; exact op1_sound hcl s hf hN hok.d hok.o hS
  | false =>
    rw [if_neg (by decide)]
    obtain ⟨fr', hset, hS⟩ := Q0 hS
    obtain ⟨p1, p2, p3⟩ := hf.put hok.d hN hset Bp
    exact ⟨V8 o, hS ι _ w (Ext.same rfl) s p1 p2 p3⟩
def RgOk (P : Program) (N : Nat) (ops : Array Oper) : Nat → List Op2 → Prop
  | i, [] => ops.size = i
  | i, x :: l => ∃ o, ops[i]? = some o ∧ O2Ok P N ops x o ∧ RgOk P N ops (i + 1) l
theorem Nx.mono {next : Act → World → Prop} {st : St} {ι' : Io} {h1 : H} {a' : Act} (hh : Nx Ck w₀ K ι h N a next st) (hle : Ext h h1 ι ι') (hd : a'.defers = a.defers) : Nx Ck w₀ K ι' h1 N a' next st := fun ι'' a'' w'' g1 h2 h3 h4 h5 => hh ι'' a'' w'' (hle.trans g1) h2 h3 h4 (h5.trans hd)
theorem Dt {cl : Cl} (hcl : ClS P Ck w₀ cl) {Q : Exit → Act → World → Prop} : ∀ {l : List Op2} {i : Nat} {ι : Io} {h : H} {w : World} {fr : Fm} {a : Act}, RgOk P N ops i l → SR Ck w₀ K ι h w → FR ι fr a.tmps → a.tmps.size = N →
    RA (regE cl l fr h) (Nx Ck w₀ K ι h N a (Q .normal)) → wpOpsIn (F0 ro) 0 P ops Q (List.range' i (ops.size - i)) a w
  | [], i, ι, h, w, fr, a, hok, s, hf, hN, hS => by
    have hok : ops.size = i := hok
    rw [show ops.size - i = 0 by omega]
    exact hS ι a w (Ext.same rfl) s hf hN rfl
  | x :: l, i, ι, h, w, fr, a, hok, s, hf, hN, hS => by
    obtain ⟨o, ho, hx, hl⟩ := hok
    have hlt : i < ops.size := (Array.getElem?_eq_some_iff.1 ho).1
    rw [show ops.size - i = (ops.size - (i + 1)) + 1 by omega, List.range'_succ]
    simp only [wpOpsIn, ho]
    have hS := Yw (x := op2 cl x fr h) (f := fun s => regE cl l s.fr s.h) hS
    refine op2_sound hcl s hf hN hx (hS.mono fun st hst ι' a' w' hle s' hf' hN' hd' => ?_)
    exact Dt hcl hl s' hf' hN' (hst.mono fun st' h' => h'.mono hle hd')
end
end Go.Ev
namespace Go.Ev
def H9 : LOp → List Od
  | .mv x => [x] | .cvs x => [x] | .pick c a b => [c, a, b] | .build _ ps => ps.map (·.2.2) | .bin _ _ x y => [x, y] | .eqa _ _ x y => [x, y] | .un _ x => [x]
  | .cvi _ x => [x] | .bts x => [x] | .idxs x i => [x, i] | .idxa x i _ _ _ => [x, i] | .fld x _ _ _ => [x] | .ext x _ => [x]
  | .mkf _ a c => a ++ c | .mki _ x => [x] | .nilc x => [x] | .len _ x => [x] | .cap x => [x]
  | .slc _ x lo hi mx _ => x :: (lo.toList ++ hi.toList ++ mx.toList) | .sla x lo hi mx _ _ => x :: (lo.toList ++ hi.toList ++ mx.toList)
  | .fa x _ => [x] | .ia x i _ => [x, i] | .iap x i _ _ => [x, i] | .maxi a b => [a, b] | .mini a b => [a, b]
  | .load _ x => [x] | .lkp _ m k _ _ => [m, k] | .entry x => [x] | .ta x _ _ _ => [x]
def odsK : KOp → List Od
  | .alloc _ => [] | .box x => [x] | .bsl _ _ _ ps => ps.map (·.2.2) | .bslm _ _ ps => ps.map (·.2.2) | .mkm x => x.toList | .mks l c _ _ => [l, c] | .rng x => [x] | .stb x => [x]
def odsH : HOp → List Od
  | .store _ x v => [x, v] | .call _ ar => ar | .callm _ ar => ar | .callv f ar => f :: ar | .inv r _ ar => r :: ar | .app s x _ => [s, x] | .copy d s _ => [d, s] | .clear x _ _ => [x] | .del _ m k => [m, k]
  | .mup _ m k v => [m, k, v] | .ment _ m k _ => [m, k] | .mst m st v => [m, st, v] | .next it => [it]
def ods1 : Op1 → List Od
  | .l _ _ o => H9 o | .k o => odsK o | .h _ o => odsH o | .m x => [x]
section
variable {fr fr' : Fm}
theorem J4 : ∀ {l : List Od}, (∀ x ∈ l, ev fr x = ev fr' x) → evs fr l = evs fr' l
  | [], _ => rfl
  | x :: l, h => by
    show bd (ev fr x) (fun u => bd (evs fr l) fun r => some (u :: r)) = bd (ev fr' x) (fun u => bd (evs fr' l) fun r => some (u :: r))
    rw [h x (by simp), J4 (fun y hy => h y (by simp [hy]))]
theorem Np : ∀ {l : List (Nat × Nat × Od)}, (∀ x ∈ l.map (·.2.2), ev fr x = ev fr' x) → E5 fr l = E5 fr' l
  | [], _ => rfl
  | p :: l, h => by
    show bd (bd (ev fr p.2.2) fun v => Vd (Nat.beq (R7 (Yp v)) p.2.1) (some (p.1, Yp v)) none) (fun u => bd (E5 fr l) fun r => some (u :: r)) = bd (bd (ev fr' p.2.2) fun v => Vd (Nat.beq (R7 (Yp v)) p.2.1) (some (p.1, Yp v)) none) (fun u => bd (E5 fr' l) fun r => some (u :: r))
    rw [h p.2.2 (by simp), Np (fun y hy => h y (by simp at hy ⊢; exact .inr hy))]
theorem Y9 {d : Nat} {x : Option Od} (h : ∀ y ∈ x.toList, ev fr y = ev fr' y) : U8 fr d x = U8 fr' d x := by
  cases x with
  | none => rfl
  | some x =>
    show bd (ev fr x) asN = bd (ev fr' x) asN
    rw [h x (by simp)]
theorem lE_cong {lo : LOp} {h : H} (he : ∀ x ∈ H9 lo, ev fr x = ev fr' x) : lE lo fr h = lE lo fr' h := by
  cases lo
  case build z ps =>
    show bd (E5 fr ps) _ = bd (E5 fr' ps) _
    rw [Np he]
  case mkf g a c =>
    show bd (evs fr a) _ = bd (evs fr' a) _
    rw [J4 (l := a) (fun x hx => he x (by simp [H9, hx]))]
    congr 1
    funext a'
    show bd (evs fr c) _ = bd (evs fr' c) _
    rw [J4 (l := c) (fun x hx => he x (by simp [H9, hx]))]
  case slc g x lo hi mx z =>
    have h1 : ∀ d, U8 fr d lo = U8 fr' d lo := fun d => Y9 (fun y hy => he y (by simp only [H9, List.mem_cons, List.mem_append]; exact .inr (.inl (.inl hy))))
    have h2 : ∀ d, U8 fr d hi = U8 fr' d hi := fun d => Y9 (fun y hy => he y (by simp only [H9, List.mem_cons, List.mem_append]; exact .inr (.inl (.inr hy))))
    have h3 : ∀ d, U8 fr d mx = U8 fr' d mx := fun d => Y9 (fun y hy => he y (by simp only [H9, List.mem_cons, List.mem_append]; exact .inr (.inr hy)))
    have hs : ∀ v, slcE fr g v lo hi mx z = slcE fr' g v lo hi mx z := fun v => by
      unfold slcE slcSE
      simp only [h1, h2, h3]
    show bd (ev fr x) (fun v => slcE fr g v lo hi mx z) = bd (ev fr' x) (fun v => slcE fr' g v lo hi mx z)
    rw [he x (by simp [H9])]
    congr 1
    funext v
    exact hs v
  case sla x lo hi mx n z =>
    have h1 : ∀ d, U8 fr d lo = U8 fr' d lo := fun d => Y9 (fun y hy => he y (by simp only [H9, List.mem_cons, List.mem_append]; exact .inr (.inl (.inl hy))))
    have h2 : ∀ d, U8 fr d hi = U8 fr' d hi := fun d => Y9 (fun y hy => he y (by simp only [H9, List.mem_cons, List.mem_append]; exact .inr (.inl (.inr hy))))
    have h3 : ∀ d, U8 fr d mx = U8 fr' d mx := fun d => Y9 (fun y hy => he y (by simp only [H9, List.mem_cons, List.mem_append]; exact .inr (.inr hy)))
    have hs : ∀ v, slaE fr h v lo hi mx n z = slaE fr' h v lo hi mx n z := fun v => by
      unfold slaE
      simp only [h1, h2, h3]
    show bd (ev fr x) (fun v => slaE fr h v lo hi mx n z) = bd (ev fr' x) (fun v => slaE fr' h v lo hi mx n z)
    rw [he x (by simp [H9])]
    congr 1
    funext v
    exact hs v
  all_goals (simp only [H9, List.mem_cons, List.not_mem_nil, or_false, forall_eq_or_imp, forall_eq] at he)
  case mv x => exact he
  case cvs x => show bd (ev fr x) _ = bd (ev fr' x) _; rw [he]
  case pick c a b => show bd (ev fr c) (fun c => bd (asB c) fun c => bd (ev fr a) fun a => bd (ev fr b) fun b => Vd c (some a) (some b)) = bd (ev fr' c) (fun c => bd (asB c) fun c => bd (ev fr' a) fun a => bd (ev fr' b) fun b => Vd c (some a) (some b)); rw [he.1, he.2.1, he.2.2]
  case bin op g x y => show bd (ev fr x) (fun a => bd (ev fr y) fun b => binE op g h a b) = bd (ev fr' x) (fun a => bd (ev fr' y) fun b => binE op g h a b); rw [he.1, he.2]
  case eqa ne ks x y => show bd (ev fr x) (fun a => bd (ev fr y) fun b => bd (asL a) fun a => bd (asL b) fun b => bd (eqaE ks a b) fun q => Jm (Vd ne (Y2 q) q)) = bd (ev fr' x) (fun a => bd (ev fr' y) fun b => bd (asL a) fun a => bd (asL b) fun b => bd (eqaE ks a b) fun q => Jm (Vd ne (Y2 q) q)); rw [he.1, he.2]
  case un op x => show bd (ev fr x) _ = bd (ev fr' x) _; rw [he]
  case cvi k x => show bd (ev fr x) _ = bd (ev fr' x) _; rw [he]
  case bts x => show bd (ev fr x) _ = bd (ev fr' x) _; rw [he]
  case idxs x i => show bd (ev fr x) (fun a => bd (ev fr i) fun i => bd (asI i) fun i => match a with | .s l => idxSE l i | _ => none) = bd (ev fr' x) (fun a => bd (ev fr' i) fun i => bd (asI i) fun i => match a with | .s l => idxSE l i | _ => none); rw [he.1, he.2]
  case idxa x i n z agg => show bd (ev fr x) (fun a => bd (ev fr i) fun i => bd (asL a) fun l => bd (asN i) fun i => Vd (Nat.blt i n) (partE l (Nat.mul i z) z agg) none) = bd (ev fr' x) (fun a => bd (ev fr' i) fun i => bd (asL a) fun l => bd (asN i) fun i => Vd (Nat.blt i n) (partE l (Nat.mul i z) z agg) none); rw [he.1, he.2]
  case fld x off n agg => show bd (ev fr x) _ = bd (ev fr' x) _; rw [he]
  case ext x i => show bd (ev fr x) _ = bd (ev fr' x) _; rw [he]
  case mki t x => show bd (ev fr x) _ = bd (ev fr' x) _; rw [he]
  case nilc x => show bd (ev fr x) _ = bd (ev fr' x) _; rw [he]
  case len g x => show bd (ev fr x) _ = bd (ev fr' x) _; rw [he]
  case cap x => show bd (ev fr x) _ = bd (ev fr' x) _; rw [he]
  case fa x off => show bd (ev fr x) _ = bd (ev fr' x) _; rw [he]
  case ia x i z => show bd (ev fr x) (fun v => bd (ev fr i) fun i => bd (asI i) fun i => iaE v i z) = bd (ev fr' x) (fun v => bd (ev fr' i) fun i => bd (asI i) fun i => iaE v i z); rw [he.1, he.2]
  case iap x i n z => show bd (ev fr x) (fun v => bd (ev fr i) fun i => bd (asI i) fun i => iapE v i n z) = bd (ev fr' x) (fun v => bd (ev fr' i) fun i => bd (asI i) fun i => iapE v i n z); rw [he.1, he.2]
  case maxi a b => show bd (ev fr a) (fun a => bd (ev fr b) fun b => maxE a b) = bd (ev fr' a) (fun a => bd (ev fr' b) fun b => maxE a b); rw [he.1, he.2]
  case mini a b => show bd (ev fr a) (fun a => bd (ev fr b) fun b => minE a b) = bd (ev fr' a) (fun a => bd (ev fr' b) fun b => minE a b); rw [he.1, he.2]
  case load n x => show bd (ev fr x) _ = bd (ev fr' x) _; rw [he]
  case lkp g m k z ok => show bd (ev fr m) (fun m => bd (ev fr k) fun k => lkpE g h m k z ok) = bd (ev fr' m) (fun m => bd (ev fr' k) fun k => lkpE g h m k z ok); rw [he.1, he.2]
  case entry x => show bd (ev fr x) _ = bd (ev fr' x) _; rw [he]
  case ta x t ok z => show bd (ev fr x) _ = bd (ev fr' x) _; rw [he]
theorem kE_cong {ko : KOp} {h : H} (he : ∀ x ∈ odsK ko, ev fr x = ev fr' x) : kE ko fr h = kE ko fr' h := by
  cases ko
  case alloc z => rfl
  case box x => show bd (ev fr x) _ = bd (ev fr' x) _; rw [he x (by simp [odsK])]
  case bsl n z zs ps => show bd (E5 fr ps) _ = bd (E5 fr' ps) _; rw [Np he]
  case bslm n z ps => show bd (E5 fr ps) _ = bd (E5 fr' ps) _; rw [Np he]
  case mkm x => show bd (U8 fr 0 x) _ = bd (U8 fr' 0 x) _; rw [Y9 he]
  case mks l c z zs =>
    simp only [odsK, List.mem_cons, List.not_mem_nil, or_false, forall_eq_or_imp, forall_eq] at he
    show bd (ev fr l) (fun l => bd (asN l) fun l => bd (ev fr c) fun c => bd (asN c) fun c => Vd (Z3 (Nat.ble l c) (Nat.ble c 65536)) (bd (Uh (Nat.mul c z)) fun k => some (AO.cells .e zs k, fun x => AV.sl x 0 l c true z)) none) = bd (ev fr' l) (fun l => bd (asN l) fun l => bd (ev fr' c) fun c => bd (asN c) fun c => Vd (Z3 (Nat.ble l c) (Nat.ble c 65536)) (bd (Uh (Nat.mul c z)) fun k => some (AO.cells .e zs k, fun x => AV.sl x 0 l c true z)) none)
    rw [he.1, he.2]
  case rng x => show bd (ev fr x) _ = bd (ev fr' x) _; rw [he x (by simp [odsK])]
  case stb x => show bd (ev fr x) _ = bd (ev fr' x) _; rw [he x (by simp [odsK])]
theorem hE_cong {cl : Cl} {ho : HOp} {h : H} (he : ∀ x ∈ odsH ho, ev fr x = ev fr' x) : hE cl ho fr h = hE cl ho fr' h := by
  cases ho
  case call g ar => show ob (evs fr ar) _ = ob (evs fr' ar) _; rw [J4 (l := ar) he]
  case callm g ar => show ob (evs fr ar) _ = ob (evs fr' ar) _; rw [J4 (l := ar) he]
  case callv f ar =>
    show ob (ev fr f) (fun f => ob (evs fr ar) fun ar => Be cl f ar h) = ob (ev fr' f) (fun f => ob (evs fr' ar) fun ar => Be cl f ar h)
    rw [he f (by simp [odsH]), J4 (l := ar) (fun x hx => he x (by simp [odsH, hx]))]
  case inv r tbl ar =>
    have h1 := he r (by simp [odsH])
    have h2 := J4 (l := ar) (fun x hx => he x (by simp [odsH, hx]))
    show h_inv cl r tbl ar fr h = h_inv cl r tbl ar fr' h
    unfold h_inv
    rw [h1, h2]
  all_goals (simp only [odsH, List.mem_cons, List.not_mem_nil, or_false, forall_eq_or_imp, forall_eq] at he)
  case store n x v => show ob (ev fr x) (fun x => ob (ev fr v) fun v => Fz n x v h) = ob (ev fr' x) (fun x => ob (ev fr' v) fun v => Fz n x v h); rw [he.1, he.2]
  case app s x z => show ob (ev fr s) (fun s => ob (ev fr x) fun x => ob (Bg h x z) fun k => appV s k z h) = ob (ev fr' s) (fun s => ob (ev fr' x) fun x => ob (Bg h x z) fun k => appV s k z h); rw [he.1, he.2]
  case copy d s z => show ob (ev fr d) (fun d => ob (ev fr s) fun s => ob (Bg h s z) fun k => copyV d k z h) = ob (ev fr' d) (fun d => ob (ev fr' s) fun s => ob (Bg h s z) fun k => copyV d k z h); rw [he.1, he.2]
  case clear x z zs => show ob (ev fr x) _ = ob (ev fr' x) _; rw [he]
  case del g m k => show ob (ev fr m) (fun m => ob (ev fr k) fun k => delV g m k h) = ob (ev fr' m) (fun m => ob (ev fr' k) fun k => delV g m k h); rw [he.1, he.2]
  case mup g m k v => show ob (ev fr m) (fun m => ob (ev fr k) fun k => ob (ev fr v) fun v => mupV g m k v h) = ob (ev fr' m) (fun m => ob (ev fr' k) fun k => ob (ev fr' v) fun v => mupV g m k v h); rw [he.1, he.2.1, he.2.2]
  case ment g m k z => show ob (ev fr m) (fun m => ob (ev fr k) fun k => mentV g m k z h) = ob (ev fr' m) (fun m => ob (ev fr' k) fun k => mentV g m k z h); rw [he.1, he.2]
  case mst m st v => show ob (ev fr m) (fun m => ob (ev fr st) fun st => ob (ev fr v) fun v => ob (asN st) fun st => mstV m st v h) = ob (ev fr' m) (fun m => ob (ev fr' st) fun st => ob (ev fr' v) fun v => ob (asN st) fun st => mstV m st v h); rw [he.1, he.2.1, he.2.2]
  case next it => show ob (ev fr it) _ = ob (ev fr' it) _; rw [he]
end
theorem Ga {α : Type} (x : Option α) : ∀ (p : Pa) (t : Tr α), ∃ t', Nu x p t = some t'
  | .h, .e => ⟨_, rfl⟩
  | .h, .n l v r => ⟨_, rfl⟩
  | .o p, .e => ⟨_, rfl⟩
  | .i p, .e => ⟨_, rfl⟩
  | .o p, .n l v r => by
    obtain ⟨l', hl⟩ := Ga x p l
    exact ⟨.n l' v r, by show bd (Nu x p l) _ = _; rw [hl]⟩
  | .i p, .n l v r => by
    obtain ⟨r', hr⟩ := Ga x p r
    exact ⟨.n l v r', by show bd (Nu x p r) _ = _; rw [hr]⟩
theorem cutF (fr : Fm) : ∀ (S : List Pa), ∃ fr' : Fm, (∀ p ∈ S, Q5 p fr' = Q5 p fr) ∧ ∀ p a, Q5 p fr' = some a → p ∈ S ∧ Q5 p fr = some a
  | [] => ⟨.e, fun p hp => by simp at hp, fun p a h => by rw [Xi] at h; cases h⟩
  | q :: S => by
    obtain ⟨f, h1, h2⟩ := cutF fr S
    obtain ⟨f', hf⟩ := Ga (Q5 q fr) q f
    have hs := V6 _ _ _ _ hf
    refine ⟨f', fun p hp => ?_, fun p a h => ?_⟩
    · rw [hs p]
      by_cases e : p = q
      · simp [e]
      · simp only [e, if_false]
        exact h1 p ((List.mem_cons.1 hp).resolve_left e)
    · rw [hs p] at h
      by_cases e : p = q
      · subst e; simp at h; exact ⟨List.mem_cons_self, h⟩
      · simp only [e, if_false] at h
        exact ⟨List.mem_cons_of_mem _ (h2 p a h).1, (h2 p a h).2⟩
def Rn : List Od → List Pa
  | [] => []
  | .t p :: l => p :: Rn l
  | .c _ :: l => Rn l
theorem Ro {p : Pa} : ∀ {l : List Od}, p ∈ Rn l ↔ Od.t p ∈ l
  | [] => by simp [Rn]
  | .t q :: l => by simp [Rn, Ro (l := l)]
  | .c v :: l => by simp [Rn, Ro (l := l)]
theorem ev_of {fr fr' : Fm} {l : List Od} (h : ∀ p ∈ Rn l, Q5 p fr' = Q5 p fr) : ∀ x ∈ l, ev fr' x = ev fr x := fun x hx => by
  cases x with
  | t p => exact h p (Ro.2 hx)
  | c v => rfl
end Go.Ev
namespace Go.Ev
def isH (x : Op2) : Bool := match x.op with | .h .. => true | _ => false
inductive Uy (cl : Cl) (k : Nat) (x : Op2) (s s' : Dw) : Prop
  | skip : Bh s.fr x.grd = some false → isH x = false → Gk x.dst (.tu []) s.fr = some s'.fr → s'.c = s.c → s'.h = s.h → s'.olds = s.olds → s'.nk = s.nk → s'.fl = s.fl → s'.pend = s.pend → Uy cl k x s s'
  | skipH : Bh s.fr x.grd = some false → isH x = true → Gk x.dst (.tu []) s.fr = some s'.fr → s'.c = s.c + 1 → s'.h = s.h → s'.olds = s.h :: s.olds → s'.nk = s.nk → s'.fl = s.fl → s'.pend = s.pend → Ui (s.c + 1) s.h s.pend = true → Uy cl k x s s'
  | light (lo hi : Nat) (o : LOp) (u : AV) : Bh s.fr x.grd = some true → x.op = .l lo hi o → lE o s.fr s.h = some u → lo ≤ s.c → s.c ≤ hi → Ra (lE o s.fr) u s.olds (s.c - lo) = true → Gk x.dst u s.fr = some s'.fr →
      s'.c = s.c → s'.h = s.h → s'.olds = s.olds → s'.nk = s.nk → s'.fl = s.fl → s'.pend = Vd (Nat.blt s.c hi) ((hi, lE o s.fr, u) :: s.pend) s.pend → Uy cl k x s s'
  | alloc (ko : KOp) (y : AO × (Pa → AV)) : Bh s.fr x.grd = some true → x.op = .k ko → rngB ko = false → kE ko s.fr s.h = some y → Gk x.dst (y.2 s.nk) s.fr = some s'.fr → Pa.succ s.nk = some s'.nk → s'.fl = (k, s.nk, y.1) :: s.fl →
      s'.c = s.c → s'.h = s.h → s'.olds = s.olds → s'.pend = s.pend → Uy cl k x s s'
  | heavy (bf : List Nat) (ho : HOp) (hl hr : H) (u : AV) : Bh s.fr x.grd = some true → x.op = .h bf ho → R9 bf s.fl s.h = some (hl, s'.fl) → hE cl ho s.fr hl = .one (u, hr) → s'.h = ⟨s.h.ro, hr.rw, hr.nx⟩ → Gk x.dst u s.fr = some s'.fr → s'.c = s.c + 1 → s'.olds = s.h :: s.olds →
      Ui (s.c + 1) s'.h s.pend = true → s'.nk = s.nk → s'.pend = s.pend → s.h.nx.dec ≤ s'.h.nx.dec → Uy cl k x s s'
  | mark (o : Od) (v v' : AV) : Bh s.fr x.grd = some true → x.op = .m o → ev s.fr o = some v → mkdF s.fl v = some v' → Gk x.dst v' s.fr = some s'.fr → s'.c = s.c → s'.h = s.h → s'.olds = s.olds → s'.nk = s.nk → s'.fl = s.fl → s'.pend = s.pend → Uy cl k x s s'
theorem dstep_of {cl : Cl} {k : Nat} {x : Op2} {s s' : Dw} (h : d_2 cl k x s = some s') : Uy cl k x s s' := by
  obtain ⟨b, hb, h⟩ := Qa h
  cases b with
  | false =>
    obtain ⟨fr, hfr, h⟩ := Qa (x := Gk x.dst (.tu []) s.fr) h
    cases hop : x.op with
    | h bf ho =>
      rw [hop] at h
      have h : bd (Uh (Nat.succ s.c)) (fun c => Vd (Ui c s.h s.pend) (some (⟨fr, c, s.h, s.h :: s.olds, s.nk, s.fl, s.pend⟩ : Dw)) none) = some s' := h
      obtain ⟨c, hc, h⟩ := Qa h
      have hc : some (s.c + 1) = some c := hc
      injection hc with hc; subst hc
      obtain ⟨hp, h⟩ := Qx h
      injection h with h; subst h
      exact .skipH hb (by unfold isH; rw [hop]) hfr rfl rfl rfl rfl rfl rfl hp
    | l lo hi o => rw [hop] at h; injection h with h; subst h; exact .skip hb (by unfold isH; rw [hop]) hfr rfl rfl rfl rfl rfl rfl
    | k o => rw [hop] at h; injection h with h; subst h; exact .skip hb (by unfold isH; rw [hop]) hfr rfl rfl rfl rfl rfl rfl
    | m o => rw [hop] at h; injection h with h; subst h; exact .skip hb (by unfold isH; rw [hop]) hfr rfl rfl rfl rfl rfl rfl
  | true =>
    have h : d_1 cl k x.dst x.op s = some s' := h
    cases hop : x.op with
    | l lo hi o =>
      rw [hop] at h
      have h : d_l x.dst lo hi (lE o) s = some s' := h
      obtain ⟨u, hu, h⟩ := Qa h
      obtain ⟨hc, h⟩ := Qx h
      obtain ⟨c1, hc⟩ := Q2 hc
      obtain ⟨c2, c3⟩ := Q2 hc
      obtain ⟨fr, hfr, h⟩ := Qa h
      have key : ∀ b : Bool, Vd b (some (⟨fr, s.c, s.h, s.olds, s.nk, s.fl, (hi, lE o s.fr, u) :: s.pend⟩ : Dw)) (some ⟨fr, s.c, s.h, s.olds, s.nk, s.fl, s.pend⟩) = some s' → some (⟨fr, s.c, s.h, s.olds, s.nk, s.fl, Vd b ((hi, lE o s.fr, u) :: s.pend) s.pend⟩ : Dw) = some s' := fun b h => by cases b <;> exact h
      have h := key _ h
      injection h with h; subst h
      exact .light lo hi o u hb hop hu (Nat.le_of_ble_eq_true c1) (Nat.le_of_ble_eq_true c2) c3 hfr rfl rfl rfl rfl rfl rfl
    | k ko =>
      rw [hop] at h
      have h : Vd (rngB ko) none (d_k k x.dst (kE ko) s) = some s' := h
      cases hr : rngB ko with
      | true => rw [hr] at h; cases h
      | false =>
        rw [hr, Q9] at h
        obtain ⟨y, hy, h⟩ := Qa h
        obtain ⟨fr, hfr, h⟩ := Qa h
        obtain ⟨nk, hnk, h⟩ := Qa h
        injection h with h; subst h
        exact .alloc ko y hb hop hr hy hfr hnk rfl rfl rfl rfl rfl
    | h bf ho =>
      rw [hop] at h
      have h : d_h x.dst bf (hE cl ho) s = some s' := h
      obtain ⟨r, hr, h⟩ := Qa h
      obtain ⟨hl, fl⟩ := r
      have h : Rs.rec (motive := fun _ => Option Dw) none (Prod.rec (motive := fun _ => Option Dw) fun v h2 => bd (Uh (Nat.succ s.c)) fun c => bd (setRo s.h h2) fun h' => Vd (Z3 (Nat.ble (Pa.dec s.h.nx) (Pa.dec h'.nx)) (Ui c h' s.pend)) (bd (Gk x.dst v s.fr) fun fr => some (⟨fr, c, h', s.h :: s.olds, s.nk, fl, s.pend⟩ : Dw)) none) (fun _ => none) (hE cl ho s.fr hl) = some s' := h
      cases hy : hE cl ho s.fr hl with
      | z => rw [hy] at h; cases h
      | many l => rw [hy] at h; cases h
      | one y =>
        rw [hy] at h
        have h : bd (Uh (Nat.succ s.c)) (fun c => bd (setRo s.h y.2) fun h' => Vd (Z3 (Nat.ble (Pa.dec s.h.nx) (Pa.dec h'.nx)) (Ui c h' s.pend)) (bd (Gk x.dst y.1 s.fr) fun fr => some (⟨fr, c, h', s.h :: s.olds, s.nk, fl, s.pend⟩ : Dw)) none) = some s' := h
        obtain ⟨c, hc, h⟩ := Qa h
        have hc : some (s.c + 1) = some c := hc
        injection hc with hc; subst hc
        obtain ⟨h1', hh1, h⟩ := Qa h
        have hh1 : some (⟨s.h.ro, y.2.rw, y.2.nx⟩ : H) = some h1' := hh1
        injection hh1 with hh1; subst hh1
        obtain ⟨hp, h⟩ := Qx h
        obtain ⟨hn, hp⟩ := Q2 hp
        obtain ⟨fr, hfr, h⟩ := Qa h
        injection h with h; subst h
        exact .heavy bf ho hl y.2 y.1 hb hop hr hy rfl hfr rfl rfl hp rfl rfl (Nat.le_of_ble_eq_true hn)
    | m o =>
      rw [hop] at h
      have h : d_m x.dst o s = some s' := h
      obtain ⟨v, hv, h⟩ := Qa h
      obtain ⟨v', hv', h⟩ := Qa h
      obtain ⟨fr, hfr, h⟩ := Qa h
      injection h with h; subst h
      exact .mark o v v' hb hop hv hv' hfr rfl rfl rfl rfl rfl rfl
def Trc (cl : Cl) (l : List Op2) (S : Nat → Dw) : Prop := ∀ k x, l[k]? = some x → Uy cl k x (S k) (S (k + 1))
theorem Hj {cl : Cl} : ∀ {l : List Op2} {i : Nat} {s t : Dw}, lf (M := Nat → Dw → Option Dw) (fun _ s => some s) (fun o _ ih i s => bd (d_2 cl i o s) (ih (Nat.succ i))) l i s = some t →
    ∃ S : Nat → Dw, S 0 = s ∧ S l.length = t ∧ ∀ k x, l[k]? = some x → Uy cl (i + k) x (S k) (S (k + 1))
  | [], i, s, t, h => by
    have h : some s = some t := h
    injection h with h; subst h
    exact ⟨fun _ => s, rfl, rfl, fun k x hk => by simp at hk⟩
  | x :: l, i, s, t, h => by
    obtain ⟨s1, h1, h⟩ := Qa (x := d_2 cl i x s) h
    obtain ⟨S, g1, g2, g3⟩ := Hj (l := l) (i := i + 1) h
    refine ⟨fun k => match k with | 0 => s | k + 1 => S k, rfl, g2, fun k y hk => ?_⟩
    cases k with
    | zero => simp at hk; subst hk; show Uy cl i x s (S 0); rw [g1]; exact dstep_of h1
    | succ k =>
      simp at hk
      have := g3 k y hk
      rwa [show i + 1 + k = i + (k + 1) by omega] at this
def Zl (s : Dw) : List H := s.h :: s.olds
theorem Uy.zl {cl : Cl} {k : Nat} {x : Op2} {s s' : Dw} (d : Uy cl k x s s') : (Zl s' = Zl s ∧ s'.c = s.c ∧ (isH x = false)) ∨ (∃ y, Zl s' = y :: Zl s ∧ s'.c = s.c + 1 ∧ isH x = true ∧ Ui s'.c s'.h s.pend = true) := by
  cases d with
  | skip h1 h2 h3 h4 h5 h6 => exact .inl ⟨by unfold Zl; rw [h5, h6], h4, h2⟩
  | skipH h1 h2 h3 h4 h5 h6 h7 h8 h9 h10 => exact .inr ⟨s.h, by unfold Zl; rw [h5, h6], h4, h2, by rw [h4, h5]; exact h10⟩
  | light lo hi o u h1 h2 h3 h4 h5 h6 h7 h8 h9 h10 => exact .inl ⟨by unfold Zl; rw [h9, h10], h8, by unfold isH; rw [h2]⟩
  | alloc ko y h1 h2 h3 h4 h5 h6 h7 h8 h9 h10 => exact .inl ⟨by unfold Zl; rw [h9, h10], h8, by unfold isH; rw [h2]⟩
  | heavy bf ho hl hr u h1 h2 h3 h4 h4' h5 h6 h7 h8 => exact .inr ⟨s'.h, by unfold Zl; rw [h7], h6, by unfold isH; rw [h2], by rw [h6]; exact h8⟩
  | mark o v v' h1 h2 h3 h4 h5 h6 h7 h8 => exact .inl ⟨by unfold Zl; rw [h7, h8], h6, by unfold isH; rw [h2]⟩
theorem Uy.pend {cl : Cl} {k : Nat} {x : Op2} {s s' : Dw} (d : Uy cl k x s s') : ∀ p ∈ s.pend, p ∈ s'.pend := by
  intro p hp
  cases d with
  | light lo hi o u h1 h2 h3 h4 h5 h6 h7 h8 h9 h10 h11 h12 h13 =>
    rw [h13]
    cases hb : Nat.blt s.c hi with
    | true => rw [Ve]; exact List.mem_cons_of_mem _ hp
    | false => rw [Q9]; exact hp
  | skip h1 h2 h3 h4 h5 h6 h7 h8 h9 => rw [h9]; exact hp
  | skipH h1 h2 h3 h4 h5 h6 h7 h8 h9 => rw [h9]; exact hp
  | alloc ko y h1 h2 h3 h4 h5 h6 h7 h8 h9 h10 h11 => rw [h11]; exact hp
  | heavy bf ho hl hr u h1 h2 h3 h4 h4' h5 h6 h7 h8 h9 h10 => rw [h10]; exact hp
  | mark o v v' h1 h2 h3 h4 h5 h6 h7 h8 h9 h10 h11 => rw [h11]; exact hp
theorem Uy.set {cl : Cl} {k : Nat} {x : Op2} {s s' : Dw} (d : Uy cl k x s s') : ∃ u, Gk x.dst u s.fr = some s'.fr := by
  cases d with
  | skip h1 h2 h3 => exact ⟨_, h3⟩
  | skipH h1 h2 h3 => exact ⟨_, h3⟩
  | light lo hi o u h1 h2 h3 h4 h5 h6 h7 => exact ⟨_, h7⟩
  | alloc ko y h1 h2 h3 h4 h5 => exact ⟨_, h5⟩
  | heavy bf ho hl hr u h1 h2 h3 h4 h4' h5 => exact ⟨_, h5⟩
  | mark o v v' h1 h2 h3 h4 h5 => exact ⟨_, h5⟩
def Hst (s : Dw) (d : H) (c : Nat) : H := ((Zl s).reverse[c]?).getD d
section
variable {cl : Cl} {l : List Op2} {S : Nat → Dw}
theorem Trc.len (t : Trc cl l S) (h0 : (S 0).c = 0) (h1 : (S 0).olds = []) : ∀ k, k ≤ l.length → (Zl (S k)).length = (S k).c + 1
  | 0, _ => by simp [Zl, h0, h1]
  | k + 1, hk => by
    have ih := t.len h0 h1 k (by omega)
    rcases (t k (l[k]'(by omega)) (by simp)).zl with ⟨z1, z2, _⟩ | ⟨y, z1, z2, _⟩
    · rw [z1, z2]; exact ih
    · rw [z1, z2]; simp [ih]
theorem Trc.suffix (t : Trc cl l S) : ∀ j k, j ≤ k → k ≤ l.length → ∃ pre, Zl (S k) = pre ++ Zl (S j)
  | j, 0, hj, _ => by have : j = 0 := by omega
                      subst this; exact ⟨[], rfl⟩
  | j, k + 1, hj, hk => by
    by_cases e : j = k + 1
    · subst e; exact ⟨[], rfl⟩
    · obtain ⟨pre, hp⟩ := t.suffix j k (by omega) (by omega)
      rcases (t k (l[k]'(by omega)) (by simp)).zl with ⟨z1, z2, _⟩ | ⟨y, z1, z2, _⟩
      · exact ⟨pre, by rw [z1, hp]⟩
      · exact ⟨y :: pre, by rw [z1, hp]; rfl⟩
theorem Trc.cmono (t : Trc cl l S) : ∀ j k, j ≤ k → k ≤ l.length → (S j).c ≤ (S k).c
  | j, 0, hj, _ => by have : j = 0 := by omega
                      subst this; exact Nat.le_refl _
  | j, k + 1, hj, hk => by
    by_cases e : j = k + 1
    · subst e; exact Nat.le_refl _
    · have := t.cmono j k (by omega) (by omega)
      rcases (t k (l[k]'(by omega)) (by simp)).zl with ⟨_, z2, _⟩ | ⟨y, _, z2, _⟩ <;> omega
theorem Trc.pmono (t : Trc cl l S) : ∀ j k, j ≤ k → k ≤ l.length → ∀ p ∈ (S j).pend, p ∈ (S k).pend
  | j, 0, hj, _, p, hp => by have : j = 0 := by omega
                             subst this; exact hp
  | j, k + 1, hj, hk, p, hp => by
    by_cases e : j = k + 1
    · subst e; exact hp
    · exact (t k (l[k]'(by omega)) (by simp)).pend p (t.pmono j k (by omega) (by omega) p hp)
theorem Trc.hst (t : Trc cl l S) (h0 : (S 0).c = 0) (h1 : (S 0).olds = []) {d : H} {k c : Nat} (hk : k ≤ l.length) (hc : c ≤ (S k).c) : (Zl (S k)).reverse[c]? = some (Hst (S l.length) d c) := by
  obtain ⟨pre, hp⟩ := t.suffix k l.length hk (Nat.le_refl _)
  have hlen := t.len h0 h1 k hk
  unfold Hst
  rw [hp, List.reverse_append, List.getElem?_append_left (by simp; omega)]
  have : c < (Zl (S k)).reverse.length := by rw [List.length_reverse]; omega
  rw [List.getElem?_eq_getElem this]; rfl
theorem Trc.now (t : Trc cl l S) (h0 : (S 0).c = 0) (h1 : (S 0).olds = []) {d : H} {k : Nat} (hk : k ≤ l.length) : Hst (S l.length) d (S k).c = (S k).h := by
  have h := t.hst h0 h1 (d := d) hk (Nat.le_refl _)
  have hlen := t.len h0 h1 k hk
  have e : (Zl (S k)).reverse[(S k).c]? = some (S k).h := by
    rw [List.getElem?_reverse (by omega), hlen]
    simp [Zl]
  rw [e] at h; injection h with h; exact h.symm
theorem Gn {o : H → Option AV} {v : AV} : ∀ {m : List H} {k : Nat}, Ra o v m k = true → ∀ j, j < k → ∃ h, m[j]? = some h ∧ o h = some v
  | [], k, h, j, hj => by
    have h : Nat.beq k 0 = true := h
    have := Nat.eq_of_beq_eq_true h
    omega
  | a :: m, 0, h, j, hj => by omega
  | a :: m, k + 1, h, j, hj => by
    have h : Z3 (Hy o v a) (Ra o v m k) = true := h
    obtain ⟨h1, h2⟩ := Q2 h
    cases j with
    | zero =>
      refine ⟨a, rfl, ?_⟩
      unfold Hy at h1
      cases ho : o a with
      | none => rw [ho] at h1; cases h1
      | some u => rw [ho] at h1; rw [G3 h1]
    | succ j => obtain ⟨y, g1, g2⟩ := Gn h2 j (by omega); exact ⟨y, by simpa using g1, g2⟩
theorem Rp {c : Nat} {h : H} : ∀ {m : List (Nat × (H → Option AV) × AV)}, Ui c h m = true → ∀ p ∈ m, c ≤ p.1 → p.2.1 h = some p.2.2
  | [], _, p, hp, _ => by simp at hp
  | q :: m, hk, p, hp, hc => by
    have hk : Z3 (orB (Nat.blt q.1 c) (Hy q.2.1 q.2.2 h)) (Ui c h m) = true := hk
    obtain ⟨h1, h2⟩ := Q2 hk
    rcases List.mem_cons.1 hp with rfl | hp
    · rcases F3 h1 with h1 | h1
      · have : p.1 < c := Nat.le_of_ble_eq_true h1
        omega
      · unfold Hy at h1
        cases ho : p.2.1 h with
        | none => rw [ho] at h1; cases h1
        | some u => rw [ho] at h1; rw [G3 h1]
    · exact Rp h2 p hp hc
theorem Trc.light (t : Trc cl l S) (h0 : (S 0).c = 0) (h1 : (S 0).olds = []) {d : H} {k : Nat} {x : Op2} (hk : l[k]? = some x) {lo hi : Nat} {o : LOp} {u : AV} (hu : lE o (S k).fr (S k).h = some u) (hlo : lo ≤ (S k).c) (hhi : (S k).c ≤ hi)
    (hl : Ra (lE o (S k).fr) u (S k).olds ((S k).c - lo) = true) (hp : (S (k + 1)).pend = Vd (Nat.blt (S k).c hi) ((hi, lE o (S k).fr, u) :: (S k).pend) (S k).pend) (hc' : (S (k + 1)).c = (S k).c) {c : Nat} (c1 : lo ≤ c) (c2 : c ≤ hi) (c3 : c ≤ (S l.length).c) :
    lE o (S k).fr (Hst (S l.length) d c) = some u := by
  have hkl : k < l.length := (List.getElem?_eq_some_iff.1 hk).1
  rcases Nat.lt_trichotomy c (S k).c with hc | hc | hc
  · obtain ⟨y, g1, g2⟩ := Gn hl ((S k).c - 1 - c) (by omega)
    have hst := t.hst h0 h1 (d := d) (k := k) (c := c) (by omega) (by omega)
    have hlen := t.len h0 h1 k (by omega)
    rw [List.getElem?_reverse (by omega), hlen] at hst
    have e : (Zl (S k))[(S k).c + 1 - 1 - c]? = (S k).olds[(S k).c - 1 - c]? := by
      rw [show (S k).c + 1 - 1 - c = ((S k).c - 1 - c) + 1 by omega]
      rfl
    rw [e, g1] at hst
    injection hst with hst
    rw [← hst]; exact g2
  · rw [hc, t.now h0 h1 (by omega)]; exact hu
  ·
    have hent : (hi, lE o (S k).fr, u) ∈ (S (k + 1)).pend := by
      rw [hp, show Nat.blt (S k).c hi = true from Nat.ble_eq_true_of_le (by omega), Ve]
      exact List.mem_cons_self
    have key : ∀ j, k + 1 ≤ j → j ≤ l.length → c ≤ (S j).c → ∃ i, k + 1 ≤ i ∧ i + 1 ≤ l.length ∧ (S (i + 1)).c = c ∧ Ui (S (i + 1)).c (S (i + 1)).h (S i).pend = true := by
      intro j
      induction j with
      | zero => intro h; omega
      | succ j ih =>
        intro hj hjl hcj
        by_cases e : j = k
        · subst e; omega
        · by_cases e2 : c ≤ (S j).c
          · exact ih (by omega) (by omega) e2
          · rcases (t j (l[j]'(by omega)) (by simp)).zl with ⟨_, z2, _⟩ | ⟨y, _, z2, z3, z4⟩
            · omega
            · exact ⟨j, by omega, hjl, by omega, z4⟩
    obtain ⟨i, i1, i2, i3, i4⟩ := key l.length (by omega) (Nat.le_refl _) c3
    have := Rp i4 _ (t.pmono (k + 1) i i1 (by omega) _ hent) (by rw [i3]; exact c2)
    have hn := t.now h0 h1 (d := d) i2
    rw [i3] at hn
    rw [hn]; exact this
end
end Go.Ev
namespace Go.Ev
section
variable {P : Program} {Ck : CkT} {w₀ w : World} {K : Gd} {ι : Io} {h h' : H}
theorem SR.extend (s : SR Ck w₀ K ι h w) {x : Pa} {p : Pl} (hx : ι x = none) (hlt : x.dec < h.nx.dec) (hp : p.cb = w.heap.size) (o : Obj) {w' : World} (e0 : w'.heap = w.heap.push o) (e1 : w'.os = w.os) (e2 : w'.tape = w.tape) (e3 : w'.output = w.output) :
    ι.le (ι.set x p) ∧ SR Ck w₀ K (ι.set x p) h w' := by
  have hle : ι.le (ι.set x p) := Xz hx
  have hK : ∀ c q, K c = some q → c < w.heap.size := fun c q hc => (Array.getElem?_eq_some_iff.1 (s.gd c q hc)).1
  have hold : ∀ c, c < w.heap.size → w'.heap[c]? = w.heap[c]? := fun c hc => by rw [e0, Array.getElem?_push]; simp [Nat.ne_of_lt hc]
  have live : ∀ y, (Q5 y h.rw).isSome = true → y ≠ x := fun y hy e => by
    subst e
    cases hg : Q5 y h.rw with
    | none => rw [hg] at hy; cases hy
    | some b => obtain ⟨r, _, hr, _⟩ := s.rw y b hg; rw [hx] at hr; cases hr
  have liveo : ∀ y, (Q5 y h.ro).isSome = true → y ≠ x := fun y hy e => by
    subst e
    cases hg : Q5 y h.ro with
    | none => rw [hg] at hy; cases hy
    | some b => obtain ⟨r, _, hr, _⟩ := s.ro y b hg; rw [hx] at hr; cases hr
  refine ⟨hle, ⟨e1.trans s.os, e2.trans s.tape, e3.trans s.output, fun c q hc => (hold c (hK c q hc)).trans (s.gd c q hc), fun y a hy => ?_, fun y a hy => ?_, fun y z q r hy hz hq hr => ?_, fun y z q r hy hz hq hr => ?_, fun y hy => ?_, fun y q hq => ?_, fun y z q r hq hr hqr => ?_⟩⟩
  · obtain ⟨q, b, q1, q2, q3, q4⟩ := s.rw y a hy
    exact ⟨q, b, hle _ _ q1, (hold _ (s.lt _ _ q1)).trans q2, q3, q4.mono hle⟩
  · obtain ⟨q, b, q1, q2, q3⟩ := s.ro y a hy
    exact ⟨q, b, hle _ _ q1, q2, q3.mono hle⟩
  · rw [Ql (live y hy)] at hq; rw [Ql (live z hz)] at hr
    exact s.inj y z q r hy hz hq hr
  · rw [Ql (liveo y hy)] at hq; rw [Ql (liveo z hz)] at hr
    exact s.injo y z q r hy hz hq hr
  · have : y ≠ x := fun e => by subst e; omega
    rw [Ql this]; exact s.new y hy
  · rw [e0, Array.size_push]
    by_cases e : y = x
    · subst e; rw [Qw] at hq; injection hq with hq; subst hq; omega
    · rw [Ql e] at hq; have := s.lt _ _ hq; omega
  · by_cases ey : y = x <;> by_cases ez : z = x
    · subst ey; subst ez
      rw [hq] at hr; injection hr with hr; rw [hr]
    · subst ey
      rw [Qw] at hq; injection hq with hq; subst hq
      rw [Ql ez] at hr
      have := s.lt _ _ hr; omega
    · subst ez
      rw [Qw] at hr; injection hr with hr; subst hr
      rw [Ql ey] at hq
      have := s.lt _ _ hq; omega
    · rw [Ql ey] at hq; rw [Ql ez] at hr
      exact s.one y z q r hq hr hqr
theorem SR.land (s : SR Ck w₀ K ι h w) {x : Pa} {ob : AO} {p : Pl} {o : Obj} (hx : ι x = some p) (ho : w.heap[p.cb]? = some o) (hK : K p.cb = none) (hb : BR Ck ι p ob o) (hlive : ∀ y q, (Q5 y h.rw).isSome = true → ι y = some q → q.cb ≠ p.cb) (hn : R4 x ob h = some h') :
    SR Ck w₀ K ι h' w := by
  obtain ⟨g1, g2, g3⟩ := Xm hn
  refine ⟨s.os, s.tape, s.output, s.gd, fun y a hy => ?_, by rw [g1]; exact s.ro, fun y z q r hy hz hq hr hqr => ?_, by rw [g1]; exact s.injo, by rw [g2]; exact s.new, s.lt, s.one⟩
  · rw [g3 y] at hy
    by_cases e : y = x
    · subst e; simp at hy; subst hy; exact ⟨p, o, hx, ho, hK, hb⟩
    · simp only [e, if_false] at hy; exact s.rw y a hy
  · rw [g3 y] at hy; rw [g3 z] at hz
    by_cases ey : y = x <;> by_cases ez : z = x
    · rw [ey, ez]
    · subst ey
      simp only [ez, if_false] at hz
      rw [hx] at hq; injection hq with hq; subst hq
      exact absurd hqr.symm (hlive z r hz hr)
    · subst ez
      simp only [ey, if_false] at hy
      rw [hx] at hr; injection hr with hr; subst hr
      exact absurd hqr (hlive y q hy hq)
    · simp only [ey, ez, if_false] at hy hz
      exact s.inj y z q r hy hz hq hr hqr
abbrev Fls := List (Nat × Pa × AO)
structure FlOk (Ck : CkT) (K : Gd) (ι : Io) (h : H) (w : World) (f : Nat × Pa × AO) : Prop where
  ex : ∃ p o, ι f.2.1 = some p ∧ w.heap[p.cb]? = some o ∧ K p.cb = none ∧ BR Ck ι p f.2.2 o ∧ (∀ y q, (Q5 y h.rw).isSome = true → ι y = some q → q.cb ≠ p.cb)
def Rq (ι : Io) (fl : Fls) : Prop := ∀ f ∈ fl, ∀ g ∈ fl, f.1 ≠ g.1 → ∀ p q, ι f.2.1 = some p → ι g.2.1 = some q → p.cb ≠ q.cb
theorem Gb {bf : List Nat} : ∀ {fl fl' : Fls} {h h' : H}, R9 bf fl h = some (h', fl') → SR Ck w₀ K ι h w → (∀ f ∈ fl, f.1 ∈ bf → FlOk Ck K ι h w f) → Rq ι fl → (fl.map (·.1)).Nodup →
    SR Ck w₀ K ι h' w ∧ fl' = fl.filter (fun f => !bf.contains f.1) ∧ h'.nx = h.nx ∧ h'.ro = h.ro ∧ ∀ y, (Q5 y h'.rw).isSome = true → (Q5 y h.rw).isSome = true ∨ ∃ f ∈ fl, f.1 ∈ bf ∧ y = f.2.1
  | [], fl', h, h', hl, s, _, _, _ => by
    have hl : some (h, ([] : Fls)) = some (h', fl') := hl
    injection hl with hl
    injection hl with h1 h2
    subst h1; subst h2
    exact ⟨s, rfl, rfl, rfl, fun y hy => .inl hy⟩
  | f :: fl, fl', h, h', hl, s, hok, hap, hnd => by
    have hl : Vd (Hx f.1 bf) (bd (R4 f.2.1 f.2.2 h) (R9 bf fl)) (bd (R9 bf fl h) fun r => some (r.1, f :: r.2)) = some (h', fl') := hl
    have hap' : Rq ι fl := fun g hg k hk => hap g (by simp [hg]) k (by simp [hk])
    have hnd' := (List.nodup_cons.1 hnd).2
    have hne : ∀ g ∈ fl, f.1 ≠ g.1 := fun g hg e => (List.nodup_cons.1 hnd).1 (List.mem_map.2 ⟨g, hg, e.symm⟩)
    cases hm : Hx f.1 bf with
    | true =>
      rw [hm, Ve] at hl
      rw [N8] at hm
      obtain ⟨h1, hput, hl⟩ := Qa hl
      obtain ⟨p, o, a1, a2, a3, a4, a5⟩ := (hok f (by simp) (by simpa using hm)).ex
      have s1 := s.land a1 a2 a3 a4 a5 hput
      obtain ⟨g1, g2, g3⟩ := Xm hput
      obtain ⟨r1, r2, r3, r3', r4⟩ := Gb hl s1 (fun g hg hgb => by
        obtain ⟨q, o', b1, b2, b3, b4, b5⟩ := (hok g (by simp [hg]) hgb).ex
        refine ⟨q, o', b1, b2, b3, b4, fun y r hy hr => ?_⟩
        rw [g3 y] at hy
        by_cases e : y = f.2.1
        · subst e
          rw [a1] at hr; injection hr with hr; subst hr
          exact hap f (by simp) g (by simp [hg]) (hne g hg) p q a1 b1
        · simp only [e, if_false] at hy
          exact b5 y r hy hr) hap' hnd'
      refine ⟨r1, by rw [r2, List.filter_cons_of_neg (by rw [hm]; decide)], r3.trans g2, r3'.trans g1, fun y hy => ?_⟩
      rcases r4 y hy with hy | ⟨g, hg, hgb, e⟩
      · rw [g3 y] at hy
        by_cases e : y = f.2.1
        · exact .inr ⟨f, by simp, by simpa using hm, e⟩
        · simp only [e, if_false] at hy; exact .inl hy
      · exact .inr ⟨g, by simp [hg], hgb, e⟩
    | false =>
      rw [hm, Q9] at hl
      rw [N8] at hm
      obtain ⟨r, hr, hl⟩ := Qa hl
      injection hl with hl
      injection hl with e1 e2
      obtain ⟨r1, r2⟩ := r
      subst e1; subst e2
      obtain ⟨q1, q2, q3, q3', q4⟩ := Gb hr s (fun g hg hgb => hok g (by simp [hg]) hgb) hap' hnd'
      refine ⟨q1, by rw [List.filter_cons_of_pos (by rw [hm]; decide)]; exact congrArg _ q2, q3, q3', fun y hy => ?_⟩
      rcases q4 y hy with hy | ⟨g, hg, hgb, e⟩
      · exact .inl hy
      · exact .inr ⟨g, by simp [hg], hgb, e⟩
theorem Gp : ∀ {fl : Fls} {h h' : H}, E6 fl h = some h' → SR Ck w₀ K ι h w → (∀ f ∈ fl, FlOk Ck K ι h w f) → Rq ι fl → (fl.map (·.1)).Nodup → SR Ck w₀ K ι h' w
  | [], h, h', hl, s, _, _, _ => by
    have hl : some h = some h' := hl
    injection hl with hl; subst hl; exact s
  | f :: fl, h, h', hl, s, hok, hap, hnd => by
    obtain ⟨h1, hput, hl⟩ := Qa (x := R4 f.2.1 f.2.2 h) hl
    have hap' : Rq ι fl := fun g hg k hk => hap g (by simp [hg]) k (by simp [hk])
    have hnd' := (List.nodup_cons.1 hnd).2
    have hne : ∀ g ∈ fl, f.1 ≠ g.1 := fun g hg e => (List.nodup_cons.1 hnd).1 (List.mem_map.2 ⟨g, hg, e.symm⟩)
    obtain ⟨p, o, a1, a2, a3, a4, a5⟩ := (hok f (by simp)).ex
    obtain ⟨g1, g2, g3⟩ := Xm hput
    refine Gp hl (s.land a1 a2 a3 a4 a5 hput) (fun g hg => ?_) hap' hnd'
    obtain ⟨q, o', b1, b2, b3, b4, b5⟩ := (hok g (by simp [hg])).ex
    refine ⟨q, o', b1, b2, b3, b4, fun y r hy hr => ?_⟩
    rw [g3 y] at hy
    by_cases e : y = f.2.1
    · subst e
      rw [a1] at hr; injection hr with hr; subst hr
      exact hap f (by simp) g (by simp [hg]) (hne g hg) p q a1 b1
    · simp only [e, if_false] at hy
      exact b5 y r hy hr
open Classical in
noncomputable def Gd.plus (K : Gd) (ι : Io) (F : Nat × Pa × AO → Prop) (w : World) : Gd := fun c => match K c with
  | some o => some o
  | none => if ∃ f p, F f ∧ ι f.2.1 = some p ∧ p.cb = c then w.heap[c]? else none
section
variable {F : Nat × Pa × AO → Prop}
theorem J5 {c : Nat} {o : Obj} (hc : K c = some o) : K.plus ι F w c = some o := by unfold Gd.plus; rw [hc]
theorem Ff {f : Nat × Pa × AO} {p : Pl} (hf : F f) (hp : ι f.2.1 = some p) (hK : K p.cb = none) : K.plus ι F w p.cb = w.heap[p.cb]? := by
  unfold Gd.plus; rw [hK]; exact if_pos ⟨f, p, hf, hp, rfl⟩
theorem C8 {c : Nat} (hc : K.plus ι F w c = none) : K c = none := by
  cases hk : K c with
  | none => rfl
  | some o => rw [J5 hk] at hc; cases hc
theorem SR.plus (s : SR Ck w₀ K ι h w) (hF : ∀ f, F f → FlOk Ck K ι h w f) : SR Ck w₀ (K.plus ι F w) ι h w := by
  refine ⟨s.os, s.tape, s.output, fun c o hc => ?_, fun x a hx => ?_, fun x a hx => ?_, s.inj, s.injo, s.new, s.lt, s.one⟩
  · cases hk : K c with
    | some o' =>
      rw [J5 hk] at hc; injection hc with hc; subst hc
      exact s.gd c _ hk
    | none =>
      unfold Gd.plus at hc
      rw [hk] at hc
      simp only at hc
      split at hc
      · exact hc
      · cases hc
  · obtain ⟨p, o, h1, h2, h3, h4⟩ := s.rw x a hx
    refine ⟨p, o, h1, h2, ?_, h4⟩
    unfold Gd.plus
    rw [h3]
    refine if_neg (fun ⟨f, q, g1, g2, g3⟩ => ?_)
    obtain ⟨q', o', a1, a2, a3, a4, a5⟩ := (hF f g1).ex
    rw [g2] at a1; injection a1 with a1; subst a1
    exact a5 x p (by rw [hx]; rfl) h1 g3.symm
  · obtain ⟨p, o, h1, h2, h3⟩ := s.ro x a hx
    exact ⟨p, o, h1, J5 h2, h3⟩
theorem SR.unplus (s0 : SR Ck w₀ K ι h w) {κ : Io} {h' : H} {w' : World} (hle : ι.le κ) (s : SR Ck w₀ (K.plus ι F w) κ h' w') : SR Ck w₀ K κ ⟨h.ro, h'.rw, h'.nx⟩ w' := by
  refine ⟨s.os, s.tape, s.output, fun c o hc => s.gd c o (J5 hc), fun x a hx => ?_, fun x a hx => ?_, s.inj, fun x y p q hx hy hp hq => ?_, s.new, s.lt, s.one⟩
  · obtain ⟨p, o, h1, h2, h3, h4⟩ := s.rw x a hx
    exact ⟨p, o, h1, h2, C8 h3, h4⟩
  · obtain ⟨p, o, h1, h2, h3⟩ := s0.ro x a hx
    exact ⟨p, o, hle _ _ h1, h2, h3.mono hle⟩
  · have old : ∀ {x p}, (Q5 x h.ro).isSome = true → κ x = some p → ι x = some p := fun {x p} hx hp => by
      cases hg : Q5 x h.ro with
      | none => rw [hg] at hx; cases hx
      | some a =>
        obtain ⟨q, _, h1, _⟩ := s0.ro x a hg
        have := hle _ _ h1
        rw [hp] at this; injection this with this; rw [this]; exact h1
    exact s0.injo x y p q hx hy (old hx hp) (old hy hq)
end
end
end Go.Ev
namespace Go.Ev
def DstD (l : List Op2) : Prop := ∀ (i j : Nat) (x y : Op2) (p : Pa), l[i]? = some x → l[j]? = some y → x.dst = some p → y.dst = some p → i = j
section
variable {cl : Cl} {l : List Op2} {S : Nat → Dw}
theorem Un {d : Option Pa} {u : AV} {fr fr' : Fm} (h : Gk d u fr = some fr') : (∀ p, d ≠ some p → Q5 p fr' = Q5 p fr) ∧ ∀ p, d = some p → Q5 p fr' = some u := by
  cases d with
  | none => injection h with h; subst h; exact ⟨fun p _ => rfl, fun p hp => by cases hp⟩
  | some d =>
    have hs := V6 _ _ _ _ (show Nu (some u) d fr = some fr' from h)
    refine ⟨fun p hp => ?_, fun p hp => ?_⟩
    · rw [hs p, if_neg (fun e => hp (by rw [e]))]
    · injection hp with hp; subst hp; rw [hs d, if_pos rfl]
theorem Trc.fr0 (t : Trc cl l S) : ∀ k, k ≤ l.length → ∀ p, (∀ j x, j < k → l[j]? = some x → x.dst ≠ some p) → Q5 p (S k).fr = Q5 p (S 0).fr
  | 0, _, p, _ => rfl
  | k + 1, hk, p, h => by
    obtain ⟨u, hu⟩ := (t k (l[k]'(by omega)) (by simp)).set
    rw [(Un hu).1 p (h k _ (by omega) (by simp)), t.fr0 k (by omega) p (fun j x hj hx => h j x (by omega) hx)]
theorem Trc.frj (t : Trc cl l S) (hd : DstD l) {j : Nat} {x : Op2} {p : Pa} (hj : l[j]? = some x) (hx : x.dst = some p) : ∀ k, j < k → k ≤ l.length → Q5 p (S k).fr = Q5 p (S (j + 1)).fr
  | 0, h, _ => by omega
  | k + 1, h, hk => by
    by_cases e : k = j
    · subst e; rfl
    · obtain ⟨u, hu⟩ := (t k (l[k]'(by omega)) (by simp)).set
      rw [(Un hu).1 p (fun hp => e (hd k j _ x p (by simp) hj hp hx)), t.frj hd hj hx k (by omega) (by omega)]
def FA (cl : Cl) (l : List Op2) (S : Nat → Dw) (f : Nat × Pa × AO) : Prop :=
  ∃ x ko y, l[f.1]? = some x ∧ Bh (S f.1).fr x.grd = some true ∧ x.op = .k ko ∧ kE ko (S f.1).fr (S f.1).h = some y ∧ f.2.1 = (S f.1).nk ∧ f.2.2 = y.1
theorem FA.uniq {f g : Nat × Pa × AO} (hf : FA cl l S f) (hg : FA cl l S g) (e : f.1 = g.1) : f = g := by
  obtain ⟨i, a, b⟩ := f
  obtain ⟨j, c, d⟩ := g
  simp only at e
  subst e
  obtain ⟨x, ko, y, h1, h2, h3, h4, h5, h6⟩ := hf
  obtain ⟨x', ko', y', g1, g2, g3, g4, g5, g6⟩ := hg
  rw [h1] at g1; injection g1 with g1; subst g1
  rw [h3] at g3; injection g3 with g3; subst g3
  rw [h4] at g4; injection g4 with g4; subst g4
  simp only at h5 h6 g5 g6
  rw [h5, h6, g5, g6]
def LDk (l : List Op2) (S : Nat → Dw) (k i : Nat) : Prop := ∃ j y bf ho, j < k ∧ l[j]? = some y ∧ Bh (S j).fr y.grd = some true ∧ y.op = .h bf ho ∧ i ∈ bf
theorem Br {bf : List Nat} : ∀ {fl fl' : Fls} {h h' : H}, R9 bf fl h = some (h', fl') → fl' = fl.filter (fun f => !bf.contains f.1)
  | [], fl', h, h', hl => by
    have hl : some (h, ([] : Fls)) = some (h', fl') := hl
    injection hl with hl
    injection hl with h1 h2
    rw [← h2]; rfl
  | f :: fl, fl', h, h', hl => by
    have hl : Vd (Hx f.1 bf) (bd (R4 f.2.1 f.2.2 h) (R9 bf fl)) (bd (R9 bf fl h) fun r => some (r.1, f :: r.2)) = some (h', fl') := hl
    cases hm : Hx f.1 bf with
    | true =>
      rw [hm, Ve] at hl
      rw [N8] at hm
      obtain ⟨h1, hput, hl⟩ := Qa hl
      rw [Br hl, List.filter_cons_of_neg (by rw [hm]; decide)]
    | false =>
      rw [hm, Q9] at hl
      rw [N8] at hm
      obtain ⟨r, hr, hl⟩ := Qa hl
      injection hl with hl
      injection hl with e1 e2
      rw [← e2, List.filter_cons_of_pos (by rw [hm]; decide), Br (show R9 bf fl h = some (r.1, r.2) from hr)]
theorem Trc.fl (t : Trc cl l S) (h0 : (S 0).fl = []) (hbf : ∀ (j : Nat) (y : Op2) (bf : List Nat) (ho : HOp), l[j]? = some y → y.op = .h bf ho → ∀ i ∈ bf, i < j) : ∀ k, k ≤ l.length →
    (∀ f ∈ (S k).fl, f.1 < k ∧ FA cl l S f ∧ ¬ LDk l S k f.1) ∧ (∀ f, f.1 < k → FA cl l S f → ¬ LDk l S k f.1 → f ∈ (S k).fl) ∧ ((S k).fl.map (·.1)).Nodup
  | 0, _ => by
    rw [h0]
    exact ⟨fun f hf => by simp at hf, fun f hf => by omega, by simp⟩
  | k + 1, hk => by
    obtain ⟨a1, a2, a3⟩ := t.fl h0 hbf k (by omega)
    have hx : l[k]? = some (l[k]'(by omega)) := by simp
    have mono : ∀ {i}, LDk l S k i → LDk l S (k + 1) i := fun ⟨j, y, bf, ho, g1, g2⟩ => ⟨j, y, bf, ho, by omega, g2⟩
    have same : (S (k + 1)).fl = (S k).fl → (∀ bf ho, Bh (S k).fr (l[k]'(by omega)).grd = some true → (l[k]'(by omega)).op ≠ .h bf ho) → (∀ f : Nat × Pa × AO, f.1 = k → ¬ FA cl l S f) →
        (∀ f ∈ (S (k + 1)).fl, f.1 < k + 1 ∧ FA cl l S f ∧ ¬ LDk l S (k + 1) f.1) ∧ (∀ f, f.1 < k + 1 → FA cl l S f → ¬ LDk l S (k + 1) f.1 → f ∈ (S (k + 1)).fl) ∧ ((S (k + 1)).fl.map (·.1)).Nodup := fun e nh na => by
      rw [e]
      refine ⟨fun f hf => ?_, fun f hlt hf hn => ?_, a3⟩
      · obtain ⟨b1, b2, b3⟩ := a1 f hf
        refine ⟨by omega, b2, fun ⟨j, y, bf, ho, g1, g2, g3, g4, g5⟩ => ?_⟩
        by_cases ej : j = k
        · subst ej
          rw [hx] at g2; injection g2 with g2; subst g2
          exact nh bf ho g3 g4
        · exact b3 ⟨j, y, bf, ho, by omega, g2, g3, g4, g5⟩
      · by_cases ek : f.1 = k
        · exact absurd hf (na f ek)
        · exact a2 f (by omega) hf (fun h => hn (mono h))
    have noFA : (∀ ko : KOp, (l[k]'(by omega)).op = .k ko → Bh (S k).fr (l[k]'(by omega)).grd ≠ some true) → ∀ f : Nat × Pa × AO, f.1 = k → ¬ FA cl l S f := fun hno f ek ⟨x, ko', y, h1, h2, h3, _⟩ => by
      rw [ek, hx] at h1; injection h1 with h1; subst h1
      rw [ek] at h2
      exact hno ko' h3 h2
    have d := t k _ hx
    cases d with
    | skip h1 h2 h3 h4 h5 h6 h7 h8 => exact same h8 (fun bf ho hg => by rw [h1] at hg; cases hg) (noFA (fun ko _ hg => by rw [h1] at hg; cases hg))
    | skipH h1 h2 h3 h4 h5 h6 h7 h8 => exact same h8 (fun bf ho hg => by rw [h1] at hg; cases hg) (noFA (fun ko _ hg => by rw [h1] at hg; cases hg))
    | light lo hi o u h1 h2 h3 h4 h5 h6 h7 h8 h9 h10 h11 h12 => exact same h12 (fun bf ho hg => by rw [h2]; intro e; cases e) (noFA (fun ko e _ => by rw [h2] at e; cases e))
    | mark o v v' h1 h2 h3 h4 h5 h6 h7 h8 h9 h10 => exact same h10 (fun bf ho hg => by rw [h2]; intro e; cases e) (noFA (fun ko e _ => by rw [h2] at e; cases e))
    | alloc ko y h1 h2 hr h3 h4 h5 h6 =>
      have hnoLD : ∀ i, LDk l S (k + 1) i → LDk l S k i := fun i ⟨j, z, bf, ho, g1, g2, g3, g4, g5⟩ => by
        by_cases ej : j = k
        · subst ej
          rw [hx] at g2; injection g2 with g2; subst g2
          rw [h2] at g4; cases g4
        · exact ⟨j, z, bf, ho, by omega, g2, g3, g4, g5⟩
      have hme : FA cl l S (k, (S k).nk, y.1) := ⟨_, ko, y, hx, h1, h2, h3, rfl, rfl⟩
      rw [h6]
      refine ⟨fun f hf => ?_, fun f hlt hf hn => ?_, ?_⟩
      · rcases List.mem_cons.1 hf with rfl | hf
        · exact ⟨by simp, hme, fun hl => by
            obtain ⟨j, z, bf, ho, g1, g2, g3, g4, g5⟩ := hnoLD k hl
            have := hbf j z bf ho g2 g4 k g5; omega⟩
        · obtain ⟨b1, b2, b3⟩ := a1 f hf
          exact ⟨by omega, b2, fun h => b3 (hnoLD _ h)⟩
      · by_cases ek : f.1 = k
        · rw [hf.uniq hme ek]; exact List.mem_cons_self
        · exact List.mem_cons_of_mem _ (a2 f (by omega) hf (fun h => hn (mono h)))
      · simp only [List.map_cons, List.nodup_cons]
        refine ⟨fun hm => ?_, a3⟩
        obtain ⟨f, hf, e⟩ := List.mem_map.1 hm
        have := (a1 f hf).1
        omega
    | heavy bf ho hl hr u h1 h2 h3 h4 h4' h5 h6 h7 h8 h9 h10 h11 =>
      have hfl := Br h3
      rw [hfl]
      refine ⟨fun f hf => ?_, fun f hlt hf hn => ?_, ?_⟩
      · obtain ⟨hf1, hf2⟩ := List.mem_filter.1 hf
        obtain ⟨b1, b2, b3⟩ := a1 f hf1
        refine ⟨by omega, b2, fun ⟨j, z, bf', ho', g1, g2, g3, g4, g5⟩ => ?_⟩
        by_cases ej : j = k
        · subst ej
          rw [hx] at g2; injection g2 with g2; subst g2
          rw [h2] at g4; injection g4 with g4 g4'; subst g4
          have : bf.contains f.1 = true := by simpa using g5
          rw [this] at hf2; cases hf2
        · exact b3 ⟨j, z, bf', ho', by omega, g2, g3, g4, g5⟩
      · have ek : f.1 ≠ k := fun ek => by
          obtain ⟨x, ko', y, q1, q2, q3, _⟩ := hf
          rw [ek, hx] at q1; injection q1 with q1; subst q1
          rw [h2] at q3; cases q3
        refine List.mem_filter.2 ⟨a2 f (by omega) hf (fun h => hn (mono h)), ?_⟩
        cases hb : bf.contains f.1 with
        | false => rfl
        | true => exact absurd ⟨k, _, bf, ho, by omega, hx, h1, h2, by simpa using hb⟩ hn
      · exact (a3.sublist (List.Sublist.map _ (List.filter_sublist)))
theorem Trc.nk (t : Trc cl l S) : ∀ j k, j ≤ k → k ≤ l.length → (S j).nk.dec ≤ (S k).nk.dec
  | j, 0, hj, _ => by have : j = 0 := by omega
                      subst this; exact Nat.le_refl _
  | j, k + 1, hj, hk => by
    by_cases e : j = k + 1
    · subst e; exact Nat.le_refl _
    · have ih := t.nk j k (by omega) (by omega)
      have d := t k (l[k]'(by omega)) (by simp)
      cases d with
      | skip h1 h2 h3 h4 h5 h6 h7 => rw [h7]; exact ih
      | skipH h1 h2 h3 h4 h5 h6 h7 => rw [h7]; exact ih
      | light lo hi o u h1 h2 h3 h4 h5 h6 h7 h8 h9 h10 h11 => rw [h11]; exact ih
      | mark o v v' h1 h2 h3 h4 h5 h6 h7 h8 h9 => rw [h9]; exact ih
      | heavy bf ho hl hr u h1 h2 h3 h4 h4' h5 h6 h7 h8 h9 => rw [h9]; exact ih
      | alloc ko y h1 h2 hr h3 h4 h5 => have := Zg h5; omega
theorem Trc.nk_lt (t : Trc cl l S) {f : Nat × Pa × AO} (hf : FA cl l S f) : f.1 < l.length ∧ f.2.1.dec < (S (f.1 + 1)).nk.dec := by
  obtain ⟨x, ko, y, h1, h2, h3, h4, h5, h6⟩ := hf
  have hlt : f.1 < l.length := (List.getElem?_eq_some_iff.1 h1).1
  refine ⟨hlt, ?_⟩
  have d := t f.1 x h1
  rw [h5]
  cases d with
  | skip g1 => rw [h2] at g1; cases g1
  | skipH g1 => rw [h2] at g1; cases g1
  | light lo hi o u g1 g2 => rw [h3] at g2; cases g2
  | mark o v v' g1 g2 => rw [h3] at g2; cases g2
  | heavy bf ho hl hr u g1 g2 => rw [h3] at g2; cases g2
  | alloc ko' y' g1 g2 hr g3 g4 g5 => have := Zg g5; omega
theorem Trc.names (t : Trc cl l S) {f g : Nat × Pa × AO} (hf : FA cl l S f) (hg : FA cl l S g) (hne : f.1 ≠ g.1) : f.2.1 ≠ g.2.1 := by
  have key : ∀ {f g : Nat × Pa × AO}, FA cl l S f → FA cl l S g → f.1 < g.1 → f.2.1 ≠ g.2.1 := fun {f g} hf hg hlt e => by
    obtain ⟨a1, a2⟩ := t.nk_lt hf
    obtain ⟨b1, b2⟩ := t.nk_lt hg
    have hm := t.nk (f.1 + 1) g.1 (by omega) (by omega)
    obtain ⟨x, ko, y, h1, h2, h3, h4, h5, h6⟩ := hg
    rw [e, h5] at a2
    omega
  rcases Nat.lt_trichotomy f.1 g.1 with h | h | h
  · exact key hf hg h
  · exact absurd h hne
  · exact fun e => key hg hf h e.symm
theorem Trc.hnx (t : Trc cl l S) : ∀ k, k ≤ l.length → (S 0).h.nx.dec ≤ (S k).h.nx.dec
  | 0, _ => Nat.le_refl _
  | k + 1, hk => by
    have ih := t.hnx k (by omega)
    have d := t k (l[k]'(by omega)) (by simp)
    cases d with
    | skip h1 h2 h3 h4 h5 => rw [h5]; exact ih
    | skipH h1 h2 h3 h4 h5 => rw [h5]; exact ih
    | light lo hi o u h1 h2 h3 h4 h5 h6 h7 h8 h9 => rw [h9]; exact ih
    | mark o v v' h1 h2 h3 h4 h5 h6 h7 => rw [h7]; exact ih
    | heavy bf ho hl hr u h1 h2 h3 h4 h4' h5 h6 h7 h8 h9 h10 h11 => exact Nat.le_trans ih h11
    | alloc ko y h1 h2 hr h3 h4 h5 h6 h7 h8 => rw [h8]; exact ih
end
end Go.Ev
namespace Go.Ev
def Li (listed : Array Bool) (i : Nat) : Prop := listed.getD i false = true
def Fg (ops : Array Oper) (listed : Array Bool) : Prop := ∀ (i : Nat) (o : Oper), ops[i]? = some o → Li listed i → ∀ e ∈ o.after.toList, Region.binds .any e = true → Li listed e.on
def Bf (ops : Array Oper) (i j : Nat) : Prop := ∀ listed : Array Bool, Fg ops listed → (∀ o : Oper, ops[i]? = some o → ∀ e ∈ o.after.toList, Region.binds .any e = true → Li listed e.on) → Li listed j
def Ue (l : List Op2) (j : Nat) : Nat := (l.take j).countP isH
structure Eo (P : Program) (N : Nat) (l : List Op2) (ops : Array Oper) : Prop where
  len : l.length = ops.size
  ok : ∀ (i : Nat) (x : Op2) (o : Oper), l[i]? = some x → ops[i]? = some o → O2Ok P N ops x o
  dst : DstD l
  edge : ∀ (i : Nat) (o : Oper), ops[i]? = some o → ∀ e ∈ o.after.toList, Region.binds .any e = true → e.on < i
  slot : ∀ (i : Nat) (x : Op2) (p : Pa), l[i]? = some x → (p ∈ Rn (ods1 x.op) ∨ ∃ b, x.grd = some (p, b)) → ∀ (j : Nat) (y : Op2), l[j]? = some y → y.dst = some p → j ≠ i → (j < i ∧ Bf ops i j) ∨ (i < j ∧ Bf ops j i)
  hv : ∀ (i j : Nat) (x y : Op2), l[i]? = some x → l[j]? = some y → isH x = true → isH y = true → i < j → Bf ops j i
  rng : ∀ (i : Nat) (x : Op2) (lo hi : Nat) (o : LOp), l[i]? = some x → x.op = .l lo hi o → ∀ (j : Nat) (y : Op2), l[j]? = some y → isH y = true → (Ue l j < lo → Bf ops i j) ∧ (Ue l j = hi → Bf ops j i)
  bf : ∀ (j : Nat) (y : Op2) (bf : List Nat) (ho : HOp), l[j]? = some y → y.op = .h bf ho → ∀ i ∈ bf, i < j ∧ Bf ops j i
  mix : P.follows .mixedOrders = true
section
variable {cl : Cl} {l : List Op2} {S : Nat → Dw}
theorem Trc.rank (t : Trc cl l S) (h0 : (S 0).c = 0) : ∀ k, k ≤ l.length → (S k).c = Ue l k
  | 0, _ => by simp [Ue, h0]
  | k + 1, hk => by
    have ih := t.rank h0 k (by omega)
    have e : Ue l (k + 1) = Ue l k + (if isH (l[k]'(by omega)) = true then 1 else 0) := by
      unfold Ue
      rw [List.take_add_one, List.getElem?_eq_getElem (by omega : k < l.length), List.countP_append]
      congr 1
      simp only [Option.toList_some, List.countP_cons, List.countP_nil, Nat.zero_add]
    rcases (t k (l[k]'(by omega)) (by simp)).zl with ⟨_, z2, z3⟩ | ⟨y, _, z2, z3, _⟩
    · rw [z2, ih, e, z3]; simp
    · rw [z2, ih, e, z3]; simp
theorem Trc.stage (t : Trc cl l S) (h0 : (S 0).c = 0) : ∀ k, k ≤ l.length → ∀ c, c < (S k).c → ∃ j x, j < k ∧ l[j]? = some x ∧ isH x = true ∧ (S j).c = c
  | 0, _, c, hc => by omega
  | k + 1, hk, c, hc => by
    rcases (t k (l[k]'(by omega)) (by simp)).zl with ⟨_, z2, z3⟩ | ⟨y, _, z2, z3, _⟩
    · obtain ⟨j, x, g1, g2⟩ := t.stage h0 k (by omega) c (by omega)
      exact ⟨j, x, by omega, g2⟩
    · by_cases e : c = (S k).c
      · exact ⟨k, _, by omega, by simp, z3, e.symm⟩
      · obtain ⟨j, x, g1, g2⟩ := t.stage h0 k (by omega) c (by omega)
        exact ⟨j, x, by omega, g2⟩
def LDc (l : List Op2) (S : Nat → Dw) (c i : Nat) : Prop := ∃ (j : Nat) (y : Op2) (bf : List Nat) (ho : HOp), l[j]? = some y ∧ Bh (S j).fr y.grd = some true ∧ y.op = .h bf ho ∧ i ∈ bf ∧ (S j).c < c
theorem Trc.ldc (t : Trc cl l S) {k i : Nat} (hk : k ≤ l.length) : LDk l S k i ↔ LDc l S (S k).c i := by
  constructor
  · intro ⟨j, y, bf, ho, g1, g2, g3, g4, g5⟩
    refine ⟨j, y, bf, ho, g2, g3, g4, g5, ?_⟩
    have hm := t.cmono (j + 1) k (by omega) hk
    rcases (t j y g2).zl with ⟨_, _, z3⟩ | ⟨_, _, z2, _⟩
    · unfold isH at z3; rw [g4] at z3; cases z3
    · omega
  · intro ⟨j, y, bf, ho, g2, g3, g4, g5, g6⟩
    refine ⟨j, y, bf, ho, ?_, g2, g3, g4, g5⟩
    have hjl : j < l.length := (List.getElem?_eq_some_iff.1 g2).1
    rcases Nat.lt_or_ge j k with h | h
    · exact h
    · have := t.cmono k j h (by omega)
      omega
end
section
variable {P : Program} {Ck : CkT} {w₀ : World} {K : Gd} {ι : Io} {N : Nat} {ops : Array Oper} {cl : Cl} {l : List Op2} {S : Nat → Dw} {d h0 : H} {D : List Deferred}
structure INV (Ck : CkT) (w₀ : World) (K : Gd) (ι : Io) (N : Nat) (ops : Array Oper) (cl : Cl) (l : List Op2) (S : Nat → Dw) (d h0 : H) (D : List Deferred) (listed : Array Bool) (κ : Io) (c : Nat) (a : Act) (w : World) : Prop where
  sz : listed.size = ops.size
  cls : Fg ops listed
  le : ι.le κ
  old : ∀ x : Pa, x.dec < h0.nx.dec → ι x = none → κ x = none
  sr : SR Ck w₀ K κ (Hst (S l.length) d c) w
  cle : c ≤ (S l.length).c
  hv : ∀ (j : Nat) (x : Op2), l[j]? = some x → isH x = true → (Li listed j ↔ (S j).c < c)
  fa : ∀ f, FA cl l S f → Li listed f.1 → ∃ p, κ f.2.1 = some p ∧ K p.cb = none ∧ ∀ t zs m, f.2.2 = .cells t zs m → p.by' = Zt zs
  un : ∀ f, FA cl l S f → ¬ Li listed f.1 → κ f.2.1 = none
  fl : ∀ f, FA cl l S f → Li listed f.1 → ¬ LDc l S c f.1 → FlOk Ck K κ (Hst (S l.length) d c) w f
  ap : ∀ f g, FA cl l S f → FA cl l S g → Li listed f.1 → Li listed g.1 → ¬ LDc l S c f.1 → ¬ LDc l S c g.1 → f.1 ≠ g.1 → ∀ p q, κ f.2.1 = some p → κ g.2.1 = some q → p.cb ≠ q.cb
  s1 : ∀ (i : Nat) (x : Op2) (q : Pa) (b : AV), l[i]? = some x → x.dst = some q → Li listed i → Q5 q (S (i + 1)).fr = some b → VR κ b (a.tmps.getD q.dec undef)
  s0 : ∀ (q : Pa) (b : AV), Q5 q (S 0).fr = some b → (∀ (i : Nat) (x : Op2), l[i]? = some x → Li listed i → x.dst ≠ some q) → VR κ b (a.tmps.getD q.dec undef)
  n : a.tmps.size = N
  df : a.defers = D
abbrev INV' (Ck : CkT) (w₀ : World) (K : Gd) (ι : Io) (N : Nat) (ops : Array Oper) (cl : Cl) (l : List Op2) (S : Nat → Dw) (d h0 : H) (D : List Deferred) (listed : Array Bool) (a : Act) (w : World) : Prop := ∃ κ c, INV Ck w₀ K ι N ops cl l S d h0 D listed κ c a w
def Rdy (ops : Array Oper) (listed : Array Bool) (i : Nat) : Prop := i < ops.size ∧ ¬ Li listed i ∧ ∀ o : Oper, ops[i]? = some o → ∀ e ∈ o.after.toList, Region.binds .any e = true → Li listed e.on
theorem Yx {listed : Array Bool} {i j : Nat} (hi : i < listed.size) : Li (listed.setIfInBounds i true) j ↔ j = i ∨ Li listed j := by
  unfold Li
  rw [Array.getD_eq_getD_getElem?, Array.getD_eq_getD_getElem?, Array.getElem?_setIfInBounds]
  by_cases e : i = j
  · subst e; simp [hi]
  · simp [e, Ne.symm e]
variable {listed : Array Bool} {κ : Io} {c i : Nat} {a : Act} {w : World} {x : Op2} {o : Oper}
theorem INV.slot (inv : INV Ck w₀ K ι N ops cl l S d h0 D listed κ c a w) (ok : Eo P N l ops) (t : Trc cl l S) (hr : Rdy ops listed i) (hx : l[i]? = some x) {p : Pa} (hp : p ∈ Rn (ods1 x.op) ∨ ∃ b, x.grd = some (p, b)) {b : AV} (hb : Q5 p (S i).fr = some b) :
    VR κ b (a.tmps.getD p.dec undef) := by
  have hil : i < l.length := (List.getElem?_eq_some_iff.1 hx).1
  by_cases hw : ∃ (j : Nat) (y : Op2), l[j]? = some y ∧ y.dst = some p
  · obtain ⟨j, y, hj, hy⟩ := hw
    have uniq : ∀ (k : Nat) (z : Op2), l[k]? = some z → z.dst = some p → k = j := fun k z hk hz => ok.dst k j z y p hk hj hz hy
    by_cases hji : j < i
    ·
      have hbf : Bf ops i j := by
        rcases ok.slot i x p hx hp j y hj hy (by omega) with ⟨_, h⟩ | ⟨h, _⟩
        · exact h
        · omega
      have hlj : Li listed j := hbf listed inv.cls hr.2.2
      refine inv.s1 j y p b hj hy hlj ?_
      rw [← t.frj ok.dst hj hy i hji (by omega)]; exact hb
    · have hnl : ¬ Li listed j := by
        by_cases e : j = i
        · subst e; exact hr.2.1
        · rcases ok.slot i x p hx hp j y hj hy e with ⟨h, _⟩ | ⟨_, h⟩
          · omega
          · intro hl
            refine hr.2.1 (h listed inv.cls (fun o ho e he hbi => inv.cls j o ho hl e he hbi))
      refine inv.s0 p b ?_ (fun k z hk hl hz => hnl (by rw [← uniq k z hk hz]; exact hl))
      rw [← t.fr0 i (by omega) p (fun k z hk hkz hz => by have := uniq k z hkz hz; omega)]; exact hb
  · refine inv.s0 p b ?_ (fun k z hk _ hz => hw ⟨k, z, hk, hz⟩)
    rw [← t.fr0 i (by omega) p (fun k z _ hkz hz => hw ⟨k, z, hkz, hz⟩)]; exact hb
theorem INV.frame (inv : INV Ck w₀ K ι N ops cl l S d h0 D listed κ c a w) (ok : Eo P N l ops) (t : Trc cl l S) (hr : Rdy ops listed i) (hx : l[i]? = some x) :
    ∃ fr' : Fm, FR κ fr' a.tmps ∧ ∀ y ∈ ods1 x.op, ev fr' y = ev (S i).fr y := by
  obtain ⟨fr', h1, h2⟩ := cutF (S i).fr (Rn (ods1 x.op))
  exact ⟨fr', fun p b hp => inv.slot ok t hr hx (.inl (h2 p b hp).1) (h2 p b hp).2, ev_of h1⟩
theorem INV.wanted (inv : INV Ck w₀ K ι N ops cl l S d h0 D listed κ c a w) (ok : Eo P N l ops) (t : Trc cl l S) (hr : Rdy ops listed i) (hx : l[i]? = some x) (ho : ops[i]? = some o) {b : Bool} (hg : Bh (S i).fr x.grd = some b) :
    Region.wanted o (yielded ops a.tmps) = b := by
  have h := (ok.ok i x o hx ho).g
  cases hxg : x.grd with
  | none => rw [hxg] at hg h; exact Bq (fr := .e) (ι := κ) (fun p q hp => by rw [Xi] at hp; cases hp) h hg
  | some g =>
    obtain ⟨fr', h1, h2⟩ := cutF (S i).fr [g.1]
    refine Bq (fr := fr') (ι := κ) (fun p q hp => ?_) h ?_
    · obtain ⟨g1, g2⟩ := h2 p q hp
      simp at g1
      subst g1
      exact inv.slot ok t hr hx (.inr ⟨g.2, by rw [hxg]⟩) g2
    · rw [hxg] at hg ⊢
      show bd (Q5 g.1 fr') _ = _
      rw [h1 g.1 (by simp)]; exact hg
theorem INV.put (inv : INV Ck w₀ K ι N ops cl l S d h0 D listed κ c a w) (ok : Eo P N l ops) (hr : Rdy ops listed i) (hx : l[i]? = some x) (ho : ops[i]? = some o) {κ' : Io} (hle : κ.le κ') {v : Value}
    (hv : ∀ q b, x.dst = some q → Q5 q (S (i + 1)).fr = some b → VR κ' b v) :
    (∀ (j : Nat) (y : Op2) (q : Pa) (b : AV), l[j]? = some y → y.dst = some q → Li (listed.setIfInBounds i true) j → Q5 q (S (j + 1)).fr = some b → VR κ' b ((a.put o.dst v).tmps.getD q.dec undef)) ∧
    (∀ (q : Pa) (b : AV), Q5 q (S 0).fr = some b → (∀ (j : Nat) (y : Op2), l[j]? = some y → Li (listed.setIfInBounds i true) j → y.dst ≠ some q) → VR κ' b ((a.put o.dst v).tmps.getD q.dec undef)) ∧
    (a.put o.dst v).tmps.size = N ∧ (a.put o.dst v).defers = D := by
  have hi : i < listed.size := by rw [inv.sz]; exact hr.1
  have hds := (ok.ok i x o hx ho).d
  have other : ∀ q : Pa, x.dst ≠ some q → (a.put o.dst v).tmps.getD q.dec undef = a.tmps.getD q.dec undef := fun q hq => by
    cases hD : o.dst with
    | none => rfl
    | some dd =>
      cases hxd : x.dst with
      | none => rw [hD, hxd] at hds; exact hds.elim
      | some p =>
        rw [hD, hxd] at hds
        obtain ⟨rfl, _⟩ := hds
        show (a.tmps.setIfInBounds p.dec v).getD q.dec undef = _
        have hne : p.dec ≠ q.dec := fun e => hq (by rw [hxd, Yd e])
        rw [Array.getD_eq_getD_getElem?, Array.getD_eq_getD_getElem?, Array.getElem?_setIfInBounds_ne hne]
  have same : ∀ q : Pa, x.dst = some q → (a.put o.dst v).tmps.getD q.dec undef = v := fun q hq => by
    cases hD : o.dst with
    | none => rw [hD, hq] at hds; exact hds.elim
    | some dd =>
      rw [hD, hq] at hds
      obtain ⟨rfl, hlt⟩ := hds
      show (a.tmps.setIfInBounds q.dec v).getD q.dec undef = v
      have : q.dec < a.tmps.size := by rw [inv.n]; exact hlt
      simp [this]
  refine ⟨fun j y q b hj hy hl hb => ?_, fun q b hb hno => ?_, ?_, ?_⟩
  · rcases (Yx hi).1 hl with rfl | hl
    · rw [hx] at hj; injection hj with hj; subst hj
      rw [same q hy]; exact hv q b hy hb
    · rw [other q (fun e => by have := ok.dst i j x y q hx hj e hy; subst this; exact hr.2.1 hl)]
      exact (inv.s1 j y q b hj hy hl hb).mono hle
  · rw [other q (hno i x hx ((Yx hi).2 (.inl rfl)))]
    exact (inv.s0 q b hb (fun j y hj hl => hno j y hj ((Yx hi).2 (.inr hl)))).mono hle
  · have := inv.n
    cases hD : o.dst <;> simp [Act.put, this]
  · have := inv.df
    cases hD : o.dst <;> simp [Act.put, this]
theorem INV.closed (inv : INV Ck w₀ K ι N ops cl l S d h0 D listed κ c a w) (hr : Rdy ops listed i) : Fg ops (listed.setIfInBounds i true) := fun j oj hj hl e he hb => by
  have hi : i < listed.size := by rw [inv.sz]; exact hr.1
  refine (Yx hi).2 (.inr ?_)
  rcases (Yx hi).1 hl with rfl | hl
  · exact hr.2.2 oj hj e he hb
  · exact inv.cls j oj hj hl e he hb
end
end Go.Ev
namespace Go.Ev
def isK (x : Op2) : Bool := match x.op with | .k _ => true | _ => false
theorem Yf : ∀ {l : List Op2} {h h' : H}, E7 l h = some h' → h'.ro = h.ro ∧ h'.rw = h.rw ∧ h'.nx.dec = h.nx.dec + l.countP isK
  | [], h, h', he => by
    have he : some h = some h' := he
    injection he with he; subst he; exact ⟨rfl, rfl, rfl⟩
  | x :: l, h, h', he => by
    have he : Op1.rec (motive := fun _ => Option H) (fun _ _ _ => E7 l h) (fun _ => bd (nxSkip h) (E7 l)) (fun _ _ => E7 l h) (fun _ => E7 l h) x.op = some h' := he
    cases hop : x.op with
    | k ko =>
      rw [hop] at he
      obtain ⟨h1, hn, he⟩ := Qa (x := nxSkip h) he
      obtain ⟨ro, rw', nx⟩ := h
      obtain ⟨nx2, h2, hn⟩ := Qa (x := Pa.succ nx) hn
      injection hn with hn; subst hn
      obtain ⟨g1, g2, g3⟩ := Yf he
      have := Zg h2
      have e : isK x = true := by unfold isK; rw [hop]
      exact ⟨g1, g2, by rw [g3, List.countP_cons, e]; simp only [if_true]; omega⟩
    | l lo hi o =>
      rw [hop] at he
      have e : isK x = false := by unfold isK; rw [hop]
      obtain ⟨g1, g2, g3⟩ := Yf (l := l) he
      exact ⟨g1, g2, by rw [g3, List.countP_cons, e]; simp⟩
    | h bf ho =>
      rw [hop] at he
      have e : isK x = false := by unfold isK; rw [hop]
      obtain ⟨g1, g2, g3⟩ := Yf (l := l) he
      exact ⟨g1, g2, by rw [g3, List.countP_cons, e]; simp⟩
    | m o =>
      rw [hop] at he
      have e : isK x = false := by unfold isK; rw [hop]
      obtain ⟨g1, g2, g3⟩ := Yf (l := l) he
      exact ⟨g1, g2, by rw [g3, List.countP_cons, e]; simp⟩
section
variable {cl : Cl} {l : List Op2} {S : Nat → Dw}
theorem Trc.nkb (t : Trc cl l S) : ∀ k, k ≤ l.length → (S k).nk.dec ≤ (S 0).nk.dec + (l.take k).countP isK
  | 0, _ => by simp
  | k + 1, hk => by
    have ih := t.nkb k (by omega)
    rw [List.take_add_one, List.getElem?_eq_getElem (by omega : k < l.length), List.countP_append]
    have d := t k (l[k]'(by omega)) (by simp)
    cases d with
    | skip h1 h2 h3 h4 h5 h6 h7 => rw [h7]; omega
    | skipH h1 h2 h3 h4 h5 h6 h7 => rw [h7]; omega
    | light lo hi o u h1 h2 h3 h4 h5 h6 h7 h8 h9 h10 h11 => rw [h11]; omega
    | mark o v v' h1 h2 h3 h4 h5 h6 h7 h8 h9 => rw [h9]; omega
    | heavy bf ho hl hr u h1 h2 h3 h4 h4' h5 h6 h7 h8 h9 => rw [h9]; omega
    | alloc ko y h1 h2 hr h3 h4 h5 =>
      have := Zg h5
      have e : isK (l[k]'(by omega)) = true := by unfold isK; rw [h2]
      simp only [Option.toList_some, List.countP_cons, List.countP_nil, e, if_true]
      omega
theorem Trc.rank_inj (t : Trc cl l S) {i j : Nat} {x y : Op2} (hi : l[i]? = some x) (hj : l[j]? = some y) (hx : isH x = true) (hy : isH y = true) (e : (S i).c = (S j).c) : i = j := by
  have step : ∀ {i : Nat} {x : Op2}, l[i]? = some x → isH x = true → (S (i + 1)).c = (S i).c + 1 := fun {i x} hi hx => by
    rcases (t i x hi).zl with ⟨_, _, z3⟩ | ⟨_, _, z2, _⟩
    · rw [hx] at z3; cases z3
    · exact z2
  have li : i < l.length := (List.getElem?_eq_some_iff.1 hi).1
  have lj : j < l.length := (List.getElem?_eq_some_iff.1 hj).1
  rcases Nat.lt_trichotomy i j with h | h | h
  · have := t.cmono (i + 1) j h (by omega); have := step hi hx; omega
  · exact h
  · have := t.cmono (j + 1) i h (by omega); have := step hj hy; omega
end
section
variable {P : Program} {Ck : CkT} {w₀ : World} {K : Gd} {ι : Io} {N : Nat} {ops : Array Oper} {cl : Cl} {l : List Op2} {S : Nat → Dw} {d h0 : H} {D : List Deferred} {listed : Array Bool} {κ : Io} {c i : Nat} {a : Act} {w : World} {x : Op2} {o : Oper} {ro : Option Nat} {Q : Exit → Act → World → Prop}
structure Beg (l : List Op2) (S : Nat → Dw) (h0 : H) : Prop where
  c : (S 0).c = 0
  olds : (S 0).olds = []
  fl : (S 0).fl = []
  nk : (S 0).nk = h0.nx
  h : E7 l h0 = some (S 0).h
theorem Beg.name (b : Beg l S h0) (t : Trc cl l S) {f : Nat × Pa × AO} (hf : FA cl l S f) : h0.nx.dec ≤ f.2.1.dec ∧ f.2.1.dec < (S 0).h.nx.dec := by
  obtain ⟨a1, a2⟩ := t.nk_lt hf
  have h1 := t.nkb l.length (Nat.le_refl _)
  have h2 := t.nk (f.1 + 1) l.length (by omega) (Nat.le_refl _)
  have h3 := (Yf b.h).2.2
  rw [List.take_length, b.nk] at h1
  refine ⟨?_, by omega⟩
  obtain ⟨x, ko, y, g1, g2, g3, g4, g5, g6⟩ := hf
  have := t.nk 0 f.1 (Nat.zero_le _) (by omega)
  rw [b.nk] at this
  rw [g5]; exact this
theorem FA.notSkip {f : Nat × Pa × AO} (hf : FA cl l S f) (e : f.1 = i) (hx : l[i]? = some x) : Bh (S i).fr x.grd = some true ∧ ∃ ko, x.op = .k ko := by
  obtain ⟨y, ko, z, h1, h2, h3, _⟩ := hf
  rw [e] at h1 h2
  rw [hx] at h1; injection h1 with h1; subst h1
  exact ⟨h2, ko, h3⟩
theorem INV.now (inv : INV Ck w₀ K ι N ops cl l S d h0 D listed κ c a w) (ok : Eo P N l ops) (t : Trc cl l S) (b : Beg l S h0) (hr : Rdy ops listed i) (hx : l[i]? = some x) (hH : isH x = true) : c = (S i).c := by
  have hil : i < l.length := (List.getElem?_eq_some_iff.1 hx).1
  rcases Nat.lt_trichotomy c (S i).c with h | h | h
  · obtain ⟨j, y, g1, g2, g3, g4⟩ := t.stage b.c i (by omega) c h
    have hl : Li listed j := ok.hv j i y x g2 hx g3 hH g1 listed inv.cls hr.2.2
    have := (inv.hv j y g2 g3).1 hl
    omega
  · exact h
  · exact absurd ((inv.hv i x hx hH).2 h) hr.2.1
theorem INV.quiet (inv : INV Ck w₀ K ι N ops cl l S d h0 D listed κ c a w) (ok : Eo P N l ops) (hr : Rdy ops listed i) (hx : l[i]? = some x) (ho : ops[i]? = some o) (hH : isH x = false) (hno : ∀ f, FA cl l S f → f.1 ≠ i) {v : Value} {w' : World}
    (hv : ∀ q b, x.dst = some q → Q5 q (S (i + 1)).fr = some b → VR κ b v) (hs : SR Ck w₀ K κ (Hst (S l.length) d c) w') (hfl : ∀ f, FA cl l S f → Li listed f.1 → ¬ LDc l S c f.1 → FlOk Ck K κ (Hst (S l.length) d c) w' f) :
    INV Ck w₀ K ι N ops cl l S d h0 D (listed.setIfInBounds i true) κ c (a.put o.dst v) w' := by
  have hi : i < listed.size := by rw [inv.sz]; exact hr.1
  obtain ⟨p1, p2, p3, p4⟩ := inv.put ok hr hx ho (Io.le_refl κ) hv
  have back : ∀ f, FA cl l S f → (Li (listed.setIfInBounds i true) f.1 ↔ Li listed f.1) := fun f hf => by
    rw [Yx hi]
    exact ⟨fun h => h.resolve_left (hno f hf), .inr⟩
  refine ⟨by simp [inv.sz], inv.closed hr, inv.le, inv.old, hs, inv.cle, fun j y hj hy => ?_, fun f hf hl => inv.fa f hf ((back f hf).1 hl), fun f hf hl => inv.un f hf (fun h => hl ((back f hf).2 h)),
    fun f hf hl hn => hfl f hf ((back f hf).1 hl) hn, fun f g hf hg hlf hlg => inv.ap f g hf hg ((back f hf).1 hlf) ((back g hg).1 hlg), p1, p2, p3, p4⟩
  rw [Yx hi, inv.hv j y hj hy]
  refine ⟨fun h => h.resolve_left (fun e => ?_), .inr⟩
  subst e
  rw [hx] at hj; injection hj with hj; subst hj
  rw [hH] at hy; cases hy
theorem INV.skipH (inv : INV Ck w₀ K ι N ops cl l S d h0 D listed κ c a w) (ok : Eo P N l ops) (t : Trc cl l S) (b : Beg l S h0) (hr : Rdy ops listed i) (hx : l[i]? = some x) (ho : ops[i]? = some o) (hH : isH x = true) (hg : Bh (S i).fr x.grd = some false)
    (hset : Gk x.dst (.tu []) (S i).fr = some (S (i + 1)).fr) (hc : (S (i + 1)).c = (S i).c + 1) (hh : (S (i + 1)).h = (S i).h) : INV Ck w₀ K ι N ops cl l S d h0 D (listed.setIfInBounds i true) κ (c + 1) (a.put o.dst undef) w := by
  have hi : i < listed.size := by rw [inv.sz]; exact hr.1
  have hil : i < l.length := (List.getElem?_eq_some_iff.1 hx).1
  have hnow := inv.now ok t b hr hx hH
  have hst : Hst (S l.length) d (c + 1) = Hst (S l.length) d c := by
    rw [hnow, ← hc, t.now b.c b.olds (by omega), t.now b.c b.olds (by omega), hh]
  obtain ⟨p1, p2, p3, p4⟩ := inv.put ok hr hx ho (Io.le_refl κ) (v := undef) (fun q b' hq hb => by
    rw [(Un hset).2 q hq] at hb; injection hb with hb; subst hb; exact Bp)
  have hno : ∀ f, FA cl l S f → f.1 ≠ i := fun f hf e => by have := (hf.notSkip e hx).1; rw [hg] at this; cases this
  have back : ∀ f, FA cl l S f → (Li (listed.setIfInBounds i true) f.1 ↔ Li listed f.1) := fun f hf => by
    rw [Yx hi]
    exact ⟨fun h => h.resolve_left (hno f hf), .inr⟩
  have ld : ∀ k, LDc l S c k → LDc l S (c + 1) k := fun k ⟨j, y, bf, ho', g1, g2, g3, g4, g5⟩ => ⟨j, y, bf, ho', g1, g2, g3, g4, by omega⟩
  have hcl : c + 1 ≤ (S l.length).c := by rw [hnow, ← hc]; exact t.cmono (i + 1) l.length hil (Nat.le_refl _)
  refine ⟨by simp [inv.sz], inv.closed hr, inv.le, inv.old, by rw [hst]; exact inv.sr, hcl, fun j y hj hy => ?_, fun f hf hl => inv.fa f hf ((back f hf).1 hl), fun f hf hl => inv.un f hf (fun h => hl ((back f hf).2 h)),
    fun f hf hl hn => by rw [hst]; exact inv.fl f hf ((back f hf).1 hl) (fun h => hn (ld _ h)), fun f g hf hg hlf hlg hnf hng => inv.ap f g hf hg ((back f hf).1 hlf) ((back g hg).1 hlg) (fun h => hnf (ld _ h)) (fun h => hng (ld _ h)), p1, p2, p3, p4⟩
  rw [Yx hi, inv.hv j y hj hy]
  constructor
  · rintro (e | h)
    · subst e; omega
    · omega
  · intro h
    by_cases e : (S j).c = c
    · exact .inl (t.rank_inj hj hx hy hH (by omega))
    · exact .inr (by omega)
theorem INV.range (inv : INV Ck w₀ K ι N ops cl l S d h0 D listed κ c a w) (ok : Eo P N l ops) (t : Trc cl l S) (b : Beg l S h0) (hr : Rdy ops listed i) (hx : l[i]? = some x) {lo hi : Nat} {lo' : LOp} (hop : x.op = .l lo hi lo') (h1 : lo ≤ (S i).c) (h2 : (S i).c ≤ hi) : lo ≤ c ∧ c ≤ hi := by
  have hil : i < l.length := (List.getElem?_eq_some_iff.1 hx).1
  constructor
  · rcases Nat.lt_or_ge c lo with h | h
    · obtain ⟨j, y, g1, g2, g3, g4⟩ := t.stage b.c i (by omega) c (by omega)
      have hrk := t.rank b.c j (by omega)
      have hl : Li listed j := (ok.rng i x lo hi lo' hx hop j y g2 g3).1 (by omega) listed inv.cls hr.2.2
      have := (inv.hv j y g2 g3).1 hl
      omega
    · exact h
  · rcases Nat.lt_or_ge hi c with h | h
    · obtain ⟨j, y, g1, g2, g3, g4⟩ := t.stage b.c l.length (Nat.le_refl _) hi (by have := inv.cle; omega)
      have hrk := t.rank b.c j (by omega)
      have hl : Li listed j := (inv.hv j y g2 g3).2 (by omega)
      exact absurd ((ok.rng i x lo hi lo' hx hop j y g2 g3).2 (by omega) listed inv.cls (fun oj hoj e he hb => inv.cls j oj hoj hl e he hb)) hr.2.1
    · exact h
theorem INV.alloc (inv : INV Ck w₀ K ι N ops cl l S d h0 D listed κ c a w) (ok : Eo P N l ops) (t : Trc cl l S) (b : Beg l S h0) (hr : Rdy ops listed i) (hx : l[i]? = some x) (ho : ops[i]? = some o) {ko : KOp} {y : AO × (Pa → AV)} (hg : Bh (S i).fr x.grd = some true) (hop : x.op = .k ko)
    (hy : kE ko (S i).fr (S i).h = some y) (hset : Gk x.dst (y.2 (S i).nk) (S i).fr = some (S (i + 1)).fr) {X : Sem Next} (hq : Gm Ck P κ X w y) :
    ∃ v w', X.run P w = .ok (.value v) w' ∧ INV' Ck w₀ K ι N ops cl l S d h0 D (listed.setIfInBounds i true) (a.put o.dst v) w' := by
  have hi : i < listed.size := by rw [inv.sz]; exact hr.1
  have hil : i < l.length := (List.getElem?_eq_some_iff.1 hx).1
  have hme : FA cl l S (i, (S i).nk, y.1) := ⟨x, ko, y, hx, hg, hop, hy, rfl, rfl⟩
  have hH : isH x = false := by unfold isH; rw [hop]
  obtain ⟨n1, n2⟩ := b.name t hme
  have hnone : κ (S i).nk = none := inv.un _ hme hr.2.1
  obtain ⟨obj, v, w₁, sz, m, r1, r2, r3, r4, r5, r6, r7⟩ := hq
  let p : Pl := ⟨w.heap.size, 0, sz, m⟩
  have hnx : (S i).nk.dec < (Hst (S l.length) d c).nx.dec := by
    have : ∃ k, k ≤ l.length ∧ (S k).c = c := by
      have key : ∀ k, k ≤ l.length → c ≤ (S k).c → ∃ k', k' ≤ l.length ∧ (S k').c = c := by
        intro k
        induction k with
        | zero => intro _ h; exact ⟨0, Nat.zero_le _, by have := b.c; omega⟩
        | succ k ih =>
          intro hk h
          by_cases e : c ≤ (S k).c
          · exact ih (by omega) e
          · rcases (t k (l[k]'(by omega)) (by simp)).zl with ⟨_, z2, _⟩ | ⟨_, _, z2, _⟩
            · omega
            · exact ⟨k + 1, hk, by omega⟩
      exact key l.length (Nat.le_refl _) inv.cle
    obtain ⟨k, k1, k2⟩ := this
    rw [← k2, t.now b.c b.olds k1]
    have := t.hnx k k1
    have n2 : (S i).nk.dec < (S 0).h.nx.dec := n2
    omega
  obtain ⟨e1, e2⟩ := inv.sr.extend hnone hnx (p := p) rfl obj r2 r3 r4 r5
  have hle : κ.le (κ.set (S i).nk p) := e1
  have hold : ∀ cb, cb < w.heap.size → w₁.heap[cb]? = w.heap[cb]? := fun cb hc => by rw [r2, Array.getElem?_push]; simp [Nat.ne_of_lt hc]
  obtain ⟨p1, p2, p3, p4⟩ := inv.put ok hr hx ho hle (v := v) (fun q b' hq hb => by
    rw [(Un hset).2 q hq] at hb; injection hb with hb; subst hb; exact r7 _ _ (Qw _ _ _))
  have hKn : K p.cb = none := by
    cases hk : K p.cb with
    | none => rfl
    | some ob => have := (Array.getElem?_eq_some_iff.1 (inv.sr.gd _ _ hk)).1; exact absurd this (Nat.lt_irrefl _)
  have old : ∀ f, FA cl l S f → f.1 ≠ i → (κ.set (S i).nk p) f.2.1 = κ f.2.1 := fun f hf hne => Ql (t.names hf hme hne)
  have oldLi : ∀ f, FA cl l S f → f.1 ≠ i → (Li (listed.setIfInBounds i true) f.1 ↔ Li listed f.1) := fun f hf hne => by
    rw [Yx hi]; exact ⟨fun h => h.resolve_left hne, .inr⟩
  refine ⟨v, w₁, r1, κ.set (S i).nk p, c, ⟨by simp [inv.sz], inv.closed hr, Io.le_trans inv.le hle, fun z hz hn => ?_, e2, inv.cle, fun j z hj hz => ?_, fun f hf hl => ?_, fun f hf hl => ?_, fun f hf hl hn => ?_, fun f g hf hg hlf hlg hnf hng hne q r hq hr' => ?_, p1, p2, p3, p4⟩⟩
  · have : z ≠ (S i).nk := fun e => by subst e; have n1 : h0.nx.dec ≤ (S i).nk.dec := n1; omega
    rw [Ql this]; exact inv.old z hz hn
  · rw [Yx hi, inv.hv j z hj hz]
    refine ⟨fun h => h.resolve_left (fun e => ?_), .inr⟩
    subst e
    rw [hx] at hj; injection hj with hj; subst hj
    rw [hH] at hz; cases hz
  · by_cases e : f.1 = i
    · have := hf.uniq hme e
      subst this
      refine ⟨p, Qw _ _ _, hKn, fun t' zs m' he => ?_⟩
      have he : y.1 = .cells t' zs m' := he
      rw [he] at r6
      obtain ⟨_, _, _, _, _, _, _, _, _, _, b6, _⟩ := r6
      exact b6
    · obtain ⟨q, q1, q2⟩ := inv.fa f hf ((oldLi f hf e).1 hl)
      exact ⟨q, hle _ _ q1, q2⟩
  · have e : f.1 ≠ i := fun e => hl ((Yx hi).2 (.inl e))
    rw [old f hf e]
    exact inv.un f hf (fun h => hl ((Yx hi).2 (.inr h)))
  · by_cases e : f.1 = i
    · have := hf.uniq hme e
      subst this
      refine ⟨p, obj, Qw _ _ _, by rw [r2]; simp [p], hKn, r6.mono hle, fun z q hz hq => ?_⟩
      cases hg' : Q5 z (Hst (S l.length) d c).rw with
      | none => rw [hg'] at hz; cases hz
      | some ob =>
        obtain ⟨q', _, q1, _⟩ := inv.sr.rw z ob hg'
        have := hle _ _ q1
        rw [hq] at this; injection this with this; subst this
        have := inv.sr.lt z q q1
        show q.cb ≠ w.heap.size
        omega
    · obtain ⟨q, ob, q1, q2, q3, q4, q5⟩ := (inv.fl f hf ((oldLi f hf e).1 hl) hn).ex
      refine ⟨q, ob, hle _ _ q1, (hold _ (inv.sr.lt _ _ q1)).trans q2, q3, q4.mono hle, fun z r hz hr' => ?_⟩
      cases hg' : Q5 z (Hst (S l.length) d c).rw with
      | none => rw [hg'] at hz; cases hz
      | some ob' =>
        obtain ⟨r', _, k1, _⟩ := inv.sr.rw z ob' hg'
        have := hle _ _ k1
        rw [hr'] at this; injection this with this; subst this
        exact q5 z r hz k1
  · by_cases ef : f.1 = i
    · have := hf.uniq hme ef
      subst this
      have eg : g.1 ≠ i := fun e => hne e.symm
      rw [Qw] at hq; injection hq with hq; subst hq
      rw [old g hg eg] at hr'
      have := inv.sr.lt _ _ hr'
      show w.heap.size ≠ r.cb
      omega
    · by_cases eg : g.1 = i
      · have := hg.uniq hme eg
        subst this
        rw [Qw] at hr'; injection hr' with hr'; subst hr'
        rw [old f hf ef] at hq
        have := inv.sr.lt _ _ hq
        show q.cb ≠ w.heap.size
        omega
      · rw [old f hf ef] at hq; rw [old g hg eg] at hr'
        exact inv.ap f g hf hg ((oldLi f hf ef).1 hlf) ((oldLi g hg eg).1 hlg) hnf hng hne q r hq hr'
end
end Go.Ev
namespace Go.Ev
theorem Du : ∀ {fl : Fls} {h h' : H}, E6 fl h = some h' → h'.nx = h.nx
  | [], h, h', hl => by
    have hl : some h = some h' := hl
    injection hl with hl; subst hl; rfl
  | f :: fl, h, h', hl => by
    obtain ⟨h1, hput, hl⟩ := Qa (x := R4 f.2.1 f.2.2 h) hl
    rw [Du hl, (Xm hput).2.1]
theorem mkdF_spec {fl : Fls} {v v' : AV} (h : mkdF fl v = some v') : ∃ y o n c e z f t zs m, v = .sl y o n c e z ∧ v' = v ∧ f ∈ fl ∧ f.2.1 = y ∧ f.2.2 = .cells t zs m ∧ Zt zs = true := by
  cases v <;> try (cases h; done)
  rename_i y o n c e z
  have key : ∀ {fl : Fls}, lf (M := Option AV) none (fun f _ ih => Vd (Pa.eq f.2.1 y) (match f.2.2 with | .cells _ zs _ => Vd (Zt zs) (some (AV.sl y o n c e z)) none | _ => none) ih) fl = some v' → ∃ f t zs m, v' = .sl y o n c e z ∧ f ∈ fl ∧ f.2.1 = y ∧ f.2.2 = .cells t zs m ∧ Zt zs = true := by
    intro fl
    induction fl with
    | nil => intro h; cases h
    | cons f fl ih =>
      intro h
      have h : Vd (Pa.eq f.2.1 y) (match f.2.2 with | .cells _ zs _ => Vd (Zt zs) (some (AV.sl y o n c e z)) none | _ => none) (lf (M := Option AV) none (fun f _ ih => Vd (Pa.eq f.2.1 y) (match f.2.2 with | .cells _ zs _ => Vd (Zt zs) (some (AV.sl y o n c e z)) none | _ => none) ih) fl) = some v' := h
      cases hq : Pa.eq f.2.1 y with
      | true =>
        rw [hq, Ve] at h
        cases hf : f.2.2 with
        | cells t zs m =>
          rw [hf] at h
          obtain ⟨h1, h2⟩ := Qx h
          injection h2 with h2
          exact ⟨f, t, zs, m, h2.symm, by simp, Xs hq, hf, h1⟩
        | _ => rw [hf] at h; cases h
      | false =>
        rw [hq, Q9] at h
        obtain ⟨g, t, zs, m, g1, g2, g3⟩ := ih h
        exact ⟨g, t, zs, m, g1, by simp [g2], g3⟩
  obtain ⟨f, t, zs, m, g1, g2, g3, g4, g5⟩ := key h
  exact ⟨y, o, n, c, e, z, f, t, zs, m, rfl, g1, g2, g3, g4, g5⟩
section
variable {P : Program} {Ck : CkT} {w₀ : World} {K : Gd} {ι : Io} {N : Nat} {ops : Array Oper} {cl : Cl} {l : List Op2} {S : Nat → Dw} {d h0 : H} {D : List Deferred} {listed : Array Bool} {κ : Io} {c i : Nat} {a : Act} {w : World} {x : Op2} {o : Oper} {ro : Option Nat} {Q : Exit → Act → World → Prop}
theorem INV.heavy (hcl : ClS P Ck w₀ cl) (inv : INV Ck w₀ K ι N ops cl l S d h0 D listed κ c a w) (ok : Eo P N l ops) (t : Trc cl l S) (b : Beg l S h0) (hr : Rdy ops listed i) (hx : l[i]? = some x) (ho : ops[i]? = some o) {bf : List Nat} {hop' : HOp} {hl hrr : H} {u : AV}
    (hg : Bh (S i).fr x.grd = some true) (hop : x.op = .h bf hop') (hland : R9 bf (S i).fl (S i).h = some (hl, (S (i + 1)).fl)) (hev : hE cl hop' (S i).fr hl = .one (u, hrr)) (hh : (S (i + 1)).h = ⟨(S i).h.ro, hrr.rw, hrr.nx⟩)
    (hset : Gk x.dst u (S i).fr = some (S (i + 1)).fr) (hc : (S (i + 1)).c = (S i).c + 1) : o.wpIn (F0 ro) 0 P a w (INV' Ck w₀ K ι N ops cl l S d h0 D (listed.setIfInBounds i true)) Q := by
  have hi : i < listed.size := by rw [inv.sz]; exact hr.1
  have hil : i < l.length := (List.getElem?_eq_some_iff.1 hx).1
  have hH : isH x = true := by unfold isH; rw [hop]
  have hnow := inv.now ok t b hr hx hH
  have hst : Hst (S l.length) d c = (S i).h := by rw [hnow, t.now b.c b.olds (by omega)]
  have hst1 : Hst (S l.length) d (c + 1) = (S (i + 1)).h := by rw [hnow, ← hc, t.now b.c b.olds (by omega)]
  obtain ⟨a1, a2, a3⟩ := t.fl b.fl (fun j y bf ho hj hy k hk => (ok.bf j y bf ho hj hy k hk).1) i (by omega)
  have sr : SR Ck w₀ K κ (S i).h w := by rw [← hst]; exact inv.sr
  have nld : ∀ {k}, ¬ LDk l S i k → ¬ LDc l S c k := fun {k} h h' => h ((t.ldc (by omega)).2 (by rw [← hnow]; exact h'))
  have flok : ∀ f, FA cl l S f → Li listed f.1 → ¬ LDc l S c f.1 → FlOk Ck K κ (S i).h w f := fun f h1 h2 h3 => by have := inv.fl f h1 h2 h3; rw [hst] at this; exact this
  have lis : ∀ f p, FA cl l S f → κ f.2.1 = some p → Li listed f.1 := fun f p hf hp => by
    by_cases h : Li listed f.1
    · exact h
    · rw [inv.un f hf h] at hp; cases hp
  have hap : Rq κ (S i).fl := fun f hf g hg hne p q hp hq =>
    inv.ap f g (a1 f hf).2.1 (a1 g hg).2.1 (lis f p (a1 f hf).2.1 hp) (lis g q (a1 g hg).2.1 hq) (nld (a1 f hf).2.2) (nld (a1 g hg).2.2) hne p q hp hq
  obtain ⟨s1, _, l3, l4, l5⟩ := Gb hland sr (fun f hf hfb => flok f (a1 f hf).2.1 ((ok.bf i x bf hop' hx hop f.1 hfb).2 listed inv.cls hr.2.2) (nld (a1 f hf).2.2)) hap a3
  let F : Nat × Pa × AO → Prop := fun f => FA cl l S f ∧ Li listed f.1 ∧ ¬ LDc l S c f.1 ∧ f.1 ∉ bf
  have hF : ∀ f, F f → FlOk Ck K κ hl w f := fun f ⟨f1, f2, f3, f4⟩ => by
    obtain ⟨p, ob, q1, q2, q3, q4, q5⟩ := (flok f f1 f2 f3).ex
    refine ⟨p, ob, q1, q2, q3, q4, fun y q hy hq => ?_⟩
    rcases l5 y hy with hy | ⟨g, hg', hgb, rfl⟩
    · exact q5 y q hy hq
    · exact inv.ap g f (a1 g hg').2.1 f1 (lis g q (a1 g hg').2.1 hq) f2 (nld (a1 g hg').2.2) f3 (fun e => f4 (e ▸ hgb)) q p hq q1
  have s2 := s1.plus hF
  obtain ⟨fr', hf1, hf2⟩ := inv.frame ok t hr hx
  rw [hop] at hf2
  have hev' : hE cl hop' fr' hl = .one (u, hrr) := by rw [hE_cong (fr := fr') (fr' := (S i).fr) hf2]; exact hev
  have hnx0 : h0.nx.dec ≤ hl.nx.dec ∧ (S 0).h.nx.dec ≤ hl.nx.dec := by
    have h1 := (Yf b.h).2.2
    have h2 := t.hnx i (by omega)
    rw [l3]; omega
  have hS : RA (hE cl hop' fr' hl) (fun r => ∀ ι' w' v, Ext hl r.2 κ ι' → SR Ck w₀ (K.plus κ F w) ι' r.2 w' → VR ι' r.1 v → INV' Ck w₀ K ι N ops cl l S d h0 D (listed.setIfInBounds i true) (a.put o.dst v) w') := by
    rw [hev']
    intro κ' w' v hext s' hv
    have hext : Ext hl hrr κ κ' := hext
    have s' : SR Ck w₀ (K.plus κ F w) κ' hrr w' := s'
    have hle := hext.le
    obtain ⟨p1, p2, p3, p4⟩ := inv.put ok hr hx ho hle (v := v) (fun q b' hq hb => by
      rw [(Un hset).2 q hq] at hb; injection hb with hb; subst hb; exact hv)
    have hno : ∀ f, FA cl l S f → f.1 ≠ i := fun f hf e => by obtain ⟨_, ko, hk⟩ := hf.notSkip e hx; rw [hop] at hk; cases hk
    have back : ∀ f, FA cl l S f → (Li (listed.setIfInBounds i true) f.1 ↔ Li listed f.1) := fun f hf => by
      rw [Yx hi]
      exact ⟨fun h => h.resolve_left (hno f hf), .inr⟩
    have ld : ∀ k, LDc l S c k → LDc l S (c + 1) k := fun k ⟨j, y, bf, ho', g1, g2, g3, g4, g5⟩ => ⟨j, y, bf, ho', g1, g2, g3, g4, by omega⟩
    have hcl' : c + 1 ≤ (S l.length).c := by rw [hnow, ← hc]; exact t.cmono (i + 1) l.length hil (Nat.le_refl _)
    have ldi : ∀ k, k ∈ bf → LDc l S (c + 1) k := fun k hk => ⟨i, x, bf, hop', hx, hg, hop, hk, by omega⟩
    have same : ∀ f p, FA cl l S f → Li listed f.1 → κ' f.2.1 = some p → κ f.2.1 = some p := fun f p hf hl' hp => by
      obtain ⟨q, q1, _⟩ := inv.fa f hf hl'
      have := hle _ _ q1
      rw [hp] at this; injection this with this; subst this; exact q1
    refine ⟨κ', c + 1, ⟨by simp [inv.sz], inv.closed hr, Io.le_trans inv.le hle, fun z hz hn => hext.old z (by omega) (inv.old z hz hn), ?_, hcl', fun j y hj hy => ?_, fun f hf hl' => ?_, fun f hf hl' => ?_, fun f hf hl' hn => ?_, fun f g hf hg' hlf hlg hnf hng hne p q hp hq => ?_, p1, p2, p3, p4⟩⟩
    · rw [hst1, hh, ← l4]
      exact s1.unplus hle s'
    · rw [Yx hi, inv.hv j y hj hy]
      constructor
      · rintro (e | h)
        · subst e; omega
        · omega
      · intro h
        by_cases e : (S j).c = c
        · exact .inl (t.rank_inj hj hx hy hH (by omega))
        · exact .inr (by omega)
    · obtain ⟨p, q1, q2⟩ := inv.fa f hf ((back f hf).1 hl')
      exact ⟨p, hle _ _ q1, q2⟩
    · have hb := b.name t hf
      exact hext.old f.2.1 (by omega) (inv.un f hf (fun h => hl' ((back f hf).2 h)))
    · have hL := (back f hf).1 hl'
      have hFf : F f := ⟨hf, hL, fun h => hn (ld _ h), fun h => hn (ldi _ h)⟩
      obtain ⟨p, ob, q1, q2, q3, q4, q5⟩ := (hF f hFf).ex
      have hKp : K.plus κ F w p.cb = some ob := (Ff hFf q1 q3).trans q2
      refine ⟨p, ob, hle _ _ q1, s'.gd _ _ hKp, q3, q4.mono hle, fun y q hy hq e => ?_⟩
      rw [hst1, hh] at hy
      have hy : (Q5 y hrr.rw).isSome = true := hy
      cases hgy : Q5 y hrr.rw with
      | none => rw [hgy] at hy; cases hy
      | some ob' =>
        obtain ⟨q', _, k1, _, k3, _⟩ := s'.rw y ob' hgy
        rw [hq] at k1; injection k1 with k1; subst k1
        rw [e, hKp] at k3; cases k3
    · have hLf := (back f hf).1 hlf
      have hLg := (back g hg').1 hlg
      exact inv.ap f g hf hg' hLf hLg (fun h => hnf (ld _ h)) (fun h => hng (ld _ h)) hne p q (same f p hf hLf hp) (same g q hg' hLg hq)
  have hok := (ok.ok i x o hx ho).o
  have hnd := hok.nd
  rw [hop] at hok
  rcases hok with hok | hok | hok
  · exact (heavy0 s2 hf1 hok).wp hnd hS
  · exact heavyC hcl s2 hf1 hok hS
  · obtain ⟨g, f, ar, cc, rfl, e1, e2, e3, e4⟩ := hok
    exact Hg hcl s2 hf1 e1 e2 e3 e4 hS
theorem INV.step (hcl : ClS P Ck w₀ cl) (inv : INV Ck w₀ K ι N ops cl l S d h0 D listed κ c a w) (ok : Eo P N l ops) (t : Trc cl l S) (b : Beg l S h0) (hr : Rdy ops listed i) :
    wpOpIn (F0 ro) 0 P ops Q i (INV' Ck w₀ K ι N ops cl l S d h0 D (listed.setIfInBounds i true)) a w := by
  have hil : i < l.length := by rw [ok.len]; exact hr.1
  have hx : l[i]? = some l[i] := by simp
  generalize l[i] = x at hx
  have ho : ops[i]? = some (ops[i]'hr.1) := by simp
  generalize ops[i]'hr.1 = o at ho
  have hok := ok.ok i x o hx ho
  have hnd := hok.o.nd
  have val : ∀ {v : Value} {w' : World}, (execOp a.eval o).run P w = .ok (.value v) w' → INV' Ck w₀ K ι N ops cl l S d h0 D (listed.setIfInBounds i true) (a.put o.dst v) w' → o.wpIn (F0 ro) 0 P a w (INV' Ck w₀ K ι N ops cl l S d h0 D (listed.setIfInBounds i true)) Q := fun h1 h2 => by
    refine ⟨V8 o, ?_⟩
    rw [Y3 hnd, h1]
    exact h2
  unfold wpOpIn
  simp only [ho]
  have dd := t i x hx
  cases dd with
  | skip h1 h2 h3 h4 h5 =>
    rw [inv.wanted ok t hr hx ho h1, if_neg (by decide)]
    refine ⟨V8 o, κ, c, inv.quiet ok hr hx ho h2 (fun f hf e => ?_) (fun q b' hq hb => ?_) inv.sr inv.fl⟩
    · have := (hf.notSkip e hx).1; rw [h1] at this; cases this
    · rw [(Un h3).2 q hq] at hb; injection hb with hb; subst hb; exact Bp
  | skipH h1 h2 h3 h4 h5 =>
    rw [inv.wanted ok t hr hx ho h1, if_neg (by decide)]
    exact ⟨V8 o, κ, c + 1, inv.skipH ok t b hr hx ho h2 h1 h3 h4 h5⟩
  | light lo hi lo' u h1 h2 h3 h4 h5 h6 h7 h8 h9 h10 h11 h12 h13 =>
    rw [inv.wanted ok t hr hx ho h1, if_pos rfl]
    obtain ⟨r1, r2⟩ := inv.range ok t b hr hx h2 h4 h5
    have hu := t.light b.c b.olds (d := d) hx h3 h4 h5 h6 h13 h8 r1 r2 inv.cle
    obtain ⟨fr', hf1, hf2⟩ := inv.frame ok t hr hx
    rw [h2] at hf2
    have hok1 := hok.o
    rw [h2] at hok1
    obtain ⟨nx, g1, v, rfl, hv⟩ := lightOk (P := P) inv.sr hf1 (o := o) (lo := lo') hok1 ((lE_cong hf2).trans hu)
    refine val g1 ⟨κ, c, inv.quiet ok hr hx ho (by unfold isH; rw [h2]) (fun f hf e => ?_) (fun q b' hq hb => ?_) inv.sr inv.fl⟩
    · obtain ⟨_, ko, hk⟩ := hf.notSkip e hx; rw [h2] at hk; cases hk
    · rw [(Un h7).2 q hq] at hb; injection hb with hb; subst hb; exact hv
  | alloc ko y h1 h2 hrng h3 h4 h5 =>
    rw [inv.wanted ok t hr hx ho h1, if_pos rfl]
    obtain ⟨fr', hf1, hf2⟩ := inv.frame ok t hr hx
    rw [h2] at hf2
    have hok1 := hok.o
    rw [h2] at hok1
    have hq : Gm Ck P κ (execOp a.eval o) w y := Dq (h := (S i).h) hf1 (ko := ko) hok1 (by cases ko <;> first | rfl | cases hrng) ((kE_cong hf2).trans h3)
    obtain ⟨v, w', g1, g2⟩ := inv.alloc ok t b hr hx ho h1 h2 h3 h4 hq
    exact val g1 g2
  | heavy bf hop' hl hrr u h1 h2 h3 h4 h4' h5 h6 =>
    rw [inv.wanted ok t hr hx ho h1, if_pos rfl]
    exact inv.heavy hcl ok t b hr hx ho h1 h2 h3 h4 h4' h5 h6
  | mark od v v' h1 h2 h3 h4 h5 =>
    rw [inv.wanted ok t hr hx ho h1, if_pos rfl]
    obtain ⟨y, oo, n, cc, e, z, f, tt, zs, m, rfl, rfl, hf, rfl, hfc, hmk⟩ := mkdF_spec h4
    obtain ⟨fr', hf1, hf2⟩ := inv.frame ok t hr hx
    rw [h2] at hf2
    have hok1 := hok.o
    rw [h2] at hok1
    have hev : ev fr' od = some (.sl f.2.1 oo n cc e z) := (hf2 od (by simp [ods1])).trans h3
    obtain ⟨a1, a2, a3⟩ := t.fl b.fl (fun j y bf ho hj hy k hk => (ok.bf j y bf ho hj hy k hk).1) i (by omega)
    have hFA := (a1 f hf).2.1
    have hX : ∃ X, OdR od X := by obtain ⟨X, s, e, _, _, _, hX⟩ := hok1; exact ⟨X, hX⟩
    obtain ⟨X, hX⟩ := hX
    have hvr := Qs hX hf1 hev
    obtain ⟨p, hp⟩ : ∃ p, κ f.2.1 = some p := by rw [VR] at hvr; obtain ⟨p, off, c', hp, _⟩ := hvr; exact ⟨p, hp⟩
    have hL : Li listed f.1 := by
      by_cases h : Li listed f.1
      · exact h
      · rw [inv.un f hFA h] at hp; cases hp
    obtain ⟨p', q1, q2, q3⟩ := inv.fa f hFA hL
    rw [hp] at q1; injection q1 with q1; subst q1
    have hby : p.by' = true := (q3 tt zs m hfc).trans hmk
    obtain ⟨vv, w', g1, g2, g3, g4, g5, g6⟩ := Hh inv.sr rfl hok1 (fun X hX => Qs hX hf1 hev) hp hby q2
    refine val g1 ⟨κ, c, inv.quiet ok hr hx ho (by unfold isH; rw [h2]) (fun f' hf' e' => ?_) (fun q b' hq hb => ?_) g3 (fun f' hf' hl' hn' => ?_)⟩
    · obtain ⟨_, ko, hk⟩ := hf'.notSkip e' hx; rw [h2] at hk; cases hk
    · rw [(Un h5).2 q hq] at hb; injection hb with hb; subst hb; exact g2
    · obtain ⟨r, ob, k1, k2, k3, k4, k5⟩ := (inv.fl f' hf' hl' hn').ex
      by_cases hcb : r.cb = p.cb
      · obtain ⟨ob', j1, j2⟩ := g6 r f'.2.2 ob hcb (by rw [inv.sr.one _ _ _ _ k1 hp hcb]; exact hby) k2 k4
        exact ⟨r, ob', k1, j1, k3, j2, k5⟩
      · exact ⟨r, ob, k1, (g5 _ hcb).trans k2, k3, k4, k5⟩
def unl (ops : Array Oper) (listed : Array Bool) : Nat := (List.range ops.size).countP (fun j => !listed.getD j false)
theorem Rr {i : Nat} (hs : listed.size = ops.size) : i ∈ Region.ready .any ops listed ↔ Rdy ops listed i := by
  unfold Region.ready Rdy Li
  rw [List.mem_filter, List.mem_range]
  constructor
  · rintro ⟨h1, h2⟩
    rw [Bool.and_eq_true] at h2
    obtain ⟨h2, h3⟩ := h2
    refine ⟨h1, fun h => ?_, fun o ho e he hb => ?_⟩
    · have hi : i < listed.size := by omega
      rw [Array.getD_eq_getD_getElem?] at h h2
      simp [hi] at h h2
      rw [h] at h2; cases h2
    · rw [ho] at h3
      simp only [Option.map_some, Option.getD_some, Array.all_eq_true'] at h3
      have := h3 e (by simpa using he)
      rw [hb] at this
      simpa using this
  · rintro ⟨h1, h2, h3⟩
    refine ⟨h1, ?_⟩
    rw [Bool.and_eq_true]
    constructor
    · have hi : i < listed.size := by omega
      rw [Array.getD_eq_getD_getElem?] at h2 ⊢
      simp [hi] at h2 ⊢
      exact h2
    · have ho : ops[i]? = some (ops[i]'h1) := by simp
      rw [ho]
      simp only [Option.map_some, Option.getD_some, Array.all_eq_true']
      intro e he
      cases hb : Region.binds .any e with
      | false => rfl
      | true => have := h3 _ ho e (by simpa using he) hb; simp [this]
theorem Dv (ok : Eo P N l ops) (hs : listed.size = ops.size) : ∀ n i, i < n → i < ops.size → ¬ Li listed i → ∃ j, Rdy ops listed j
  | 0, i, h, _, _ => by omega
  | n + 1, i, h, hi, hn => by
    by_cases hall : ∀ o, ops[i]? = some o → ∀ e ∈ o.after.toList, Region.binds .any e = true → Li listed e.on
    · exact ⟨i, hi, hn, hall⟩
    · have ho : ops[i]? = some (ops[i]'hi) := by simp
      have : ∃ e ∈ (ops[i]'hi).after.toList, Region.binds .any e = true ∧ ¬ Li listed e.on := by
        apply Classical.byContradiction
        intro hc
        refine hall (fun o ho' e he hb => ?_)
        rw [ho] at ho'; injection ho' with ho'; subst ho'
        apply Classical.byContradiction
        intro hl
        exact hc ⟨e, he, hb, hl⟩
      obtain ⟨e, he, hb, hl⟩ := this
      have := ok.edge i _ ho e he hb
      exact Dv ok hs n e.on (by omega) (by omega) hl
theorem unl_set {i : Nat} (hs : listed.size = ops.size) (hi : i < ops.size) (hn : ¬ Li listed i) : unl ops (listed.setIfInBounds i true) < unl ops listed := by
  unfold unl
  have hmem : i ∈ List.range ops.size := List.mem_range.2 hi
  have key : ∀ (m : List Nat), i ∈ m → m.Nodup → m.countP (fun j => !(listed.setIfInBounds i true).getD j false) < m.countP (fun j => !listed.getD j false) := by
    intro m
    induction m with
    | nil => intro h; simp at h
    | cons k m ih =>
      intro h hnd
      obtain ⟨n1, n2⟩ := List.nodup_cons.1 hnd
      rw [List.countP_cons, List.countP_cons]
      have hsz : i < listed.size := by omega
      by_cases e : k = i
      · subst e
        have e1 : (listed.setIfInBounds k true).getD k false = true := (Yx hsz).2 (.inl rfl)
        have e2 : listed.getD k false = false := by cases hh : listed.getD k false with | false => rfl | true => exact absurd hh hn
        have same : m.countP (fun j => !(listed.setIfInBounds k true).getD j false) = m.countP (fun j => !listed.getD j false) := by
          refine List.countP_congr (fun j hj => ?_)
          have hjk : j ≠ k := fun e => n1 (e ▸ hj)
          have : (listed.setIfInBounds k true).getD j false = listed.getD j false := by
            rw [Array.getD_eq_getD_getElem?, Array.getD_eq_getD_getElem?, Array.getElem?_setIfInBounds_ne (Ne.symm hjk)]
          rw [this]
        rw [same, e1, e2]; simp
      · have h' : i ∈ m := (List.mem_cons.1 h).resolve_left (Ne.symm e)
        have := ih h' n2
        have e1 : (listed.setIfInBounds i true).getD k false = listed.getD k false := by
          rw [Array.getD_eq_getD_getElem?, Array.getD_eq_getD_getElem?, Array.getElem?_setIfInBounds_ne (Ne.symm e)]
        rw [e1]; omega
  exact key _ hmem List.nodup_range
theorem INV.any (hcl : ClS P Ck w₀ cl) (ok : Eo P N l ops) (t : Trc cl l S) (b : Beg l S h0) (hQ : ∀ listed κ c a w, INV Ck w₀ K ι N ops cl l S d h0 D listed κ c a w → (∀ i, i < ops.size → Li listed i) → Q .normal a w) :
    ∀ (Ji : Nat) (listed : Array Bool) (a : Act) (w : World), unl ops listed ≤ Ji → INV' Ck w₀ K ι N ops cl l S d h0 D listed a w → wpAnyIn (F0 ro) 0 P .any ops Q Ji listed a w
  | 0, listed, a, w, hu, ⟨κ, c, inv⟩ => by
    have hall : ∀ i, i < ops.size → Li listed i := fun i hi => by
      apply Classical.byContradiction
      intro hn
      have := unl_set inv.sz hi hn
      omega
    refine ⟨?_, hQ _ _ _ _ _ inv hall⟩
    cases hr : Region.ready .any ops listed with
    | nil => rfl
    | cons j m =>
      have := (Rr inv.sz).1 (show j ∈ Region.ready .any ops listed by rw [hr]; simp)
      exact absurd (hall j this.1) this.2.1
  | Ji + 1, listed, a, w, hu, ⟨κ, c, inv⟩ => by
    refine ⟨fun hnil => ?_, fun i hi => ?_⟩
    · have hall : ∀ i, i < ops.size → Li listed i := fun i hi => by
        apply Classical.byContradiction
        intro hn
        obtain ⟨j, hj⟩ := Dv ok inv.sz (i + 1) i (by omega) hi hn
        have := (Rr inv.sz).2 hj
        rw [hnil] at this; simp at this
      exact hQ _ _ _ _ _ inv hall
    · have hr := (Rr inv.sz).1 hi
      have hlt := unl_set inv.sz hr.1 hr.2.1
      exact wpOpIn_mono (fun a' w' h => INV.any hcl ok t b hQ Ji _ a' w' (by omega) h) (inv.step hcl ok t b hr)
theorem Ia {h : H} {fr : Fm} {id : Nat} (hcl : ClS P Ck w₀ cl) (ok : Eo P N l ops) (s : SR Ck w₀ K ι h w) (hf : FR ι fr a.tmps) (hN : a.tmps.size = N) (hS : RA (drwE cl l fr h) (Nx Ck w₀ K ι h N a (Q .normal))) : (Code.region id ops true).wpIn (F0 ro) 0 P Q a w := by
  obtain ⟨h', hk, hS⟩ := Q0 hS
  obtain ⟨sn, hrun, hS⟩ := Q0 hS
  obtain ⟨hfin, hland, hS⟩ := Q0 hS
  obtain ⟨S, g1, g2, g3⟩ := Hj hrun
  have t : Trc cl l S := fun k x hk => by have := g3 k x hk; rwa [Nat.zero_add] at this
  have b : Beg l S h := ⟨by rw [g1], by rw [g1], by rw [g1], by rw [g1], by rw [g1]; exact hk⟩
  have hS0 : (S 0).h = h' := by rw [g1]
  obtain ⟨k1, k2, k3⟩ := Yf hk
  have s' : SR Ck w₀ K ι h' { w with drawn := w.drawn + 1 } := by
    have s1 : SR Ck w₀ K ι h { w with drawn := w.drawn + 1 } := s.same rfl rfl rfl rfl
    exact ⟨s1.os, s1.tape, s1.output, s1.gd, fun x a hx => s1.rw x a (by rw [← k2]; exact hx), fun x a hx => s1.ro x a (by rw [← k1]; exact hx), fun x y p q hx hy => s1.inj x y p q (by rw [← k2]; exact hx) (by rw [← k2]; exact hy),
      fun x y p q hx hy => s1.injo x y p q (by rw [← k1]; exact hx) (by rw [← k1]; exact hy), fun x hx => s1.new x (by omega), s1.lt, s1.one⟩
  have hrep : ∀ j, ¬ Li (Array.replicate ops.size false) j := fun j hj => by
    unfold Li at hj
    rw [Array.getD_eq_getD_getElem?, Array.getElem?_replicate] at hj
    split at hj <;> cases hj
  refine wpIn_region_any ok.mix (INV.any (Ck := Ck) (w₀ := w₀) (K := K) (ι := ι) (d := h') (D := a.defers) hcl ok t b (fun listed κ c a' w' inv hall => ?_) ops.size _ a _ ?_ ⟨ι, 0, ?_⟩)
  ·
    have hc : c = (S l.length).c := by
      rcases Nat.lt_or_ge c (S l.length).c with hlt | hge
      · obtain ⟨j, y, e1, e2, e3, e4⟩ := t.stage b.c l.length (Nat.le_refl _) c hlt
        have := (inv.hv j y e2 e3).1 (hall j (by rw [← ok.len]; exact (List.getElem?_eq_some_iff.1 e2).1))
        omega
      · have := inv.cle; omega
    have hst : Hst (S l.length) h' c = (S l.length).h := by rw [hc, t.now b.c b.olds (Nat.le_refl _)]
    obtain ⟨a1, a2, a3⟩ := t.fl b.fl (fun j y bf ho hj hy k hk => (ok.bf j y bf ho hj hy k hk).1) l.length (Nat.le_refl _)
    have nld : ∀ {k}, ¬ LDk l S l.length k → ¬ LDc l S c k := fun {k} hh h'' => hh ((t.ldc (Nat.le_refl _)).2 (by rw [← hc]; exact h''))
    have li : ∀ f, FA cl l S f → Li listed f.1 := fun f hf => hall f.1 (by rw [← ok.len]; exact (t.nk_lt hf).1)
    have sr := inv.sr
    rw [hst] at sr
    rw [← g2] at hland hS
    have sfin := Gp hland sr (fun f hf => by have := inv.fl f (a1 f hf).2.1 (li f (a1 f hf).2.1) (nld (a1 f hf).2.2); rw [hst] at this; exact this)
      (fun f hf g hg hne p q hp hq => inv.ap f g (a1 f hf).2.1 (a1 g hg).2.1 (li f (a1 f hf).2.1) (li g (a1 g hg).2.1) (nld (a1 f hf).2.2) (nld (a1 g hg).2.2) hne p q hp hq) a3
    have hnx : h.nx.dec ≤ hfin.nx.dec := by
      rw [Du hland]
      have := t.hnx l.length (Nat.le_refl _)
      rw [hS0] at this
      omega
    refine hS κ a' w' ⟨inv.le, hnx, inv.old⟩ sfin (fun p b' hp => ?_) inv.n inv.df
    by_cases hw : ∃ (j : Nat) (y : Op2), l[j]? = some y ∧ y.dst = some p
    · obtain ⟨j, y, hj, hy⟩ := hw
      have hjl : j < l.length := (List.getElem?_eq_some_iff.1 hj).1
      exact inv.s1 j y p b' hj hy (hall j (by rw [← ok.len]; exact hjl)) (by rw [← t.frj ok.dst hj hy l.length hjl (Nat.le_refl _)]; exact hp)
    · exact inv.s0 p b' (by rw [← t.fr0 l.length (Nat.le_refl _) p (fun k z _ hkz hz => hw ⟨k, z, hkz, hz⟩)]; exact hp) (fun k z hk _ hz => hw ⟨k, z, hk, hz⟩)
  · unfold unl
    have := List.countP_le_length (p := fun j => !(Array.replicate ops.size false).getD j false) (l := List.range ops.size)
    simpa using this
  · have hst0 : Hst (S l.length) h' 0 = h' := by have := t.now b.c b.olds (d := h') (Nat.zero_le _); rw [b.c, hS0] at this; exact this
    refine ⟨by simp, fun j oj _ hl => absurd hl (hrep j), Io.le_refl ι, fun x _ hx => hx, by rw [hst0]; exact s', Nat.zero_le _, fun j x _ _ => ⟨fun hl => absurd hl (hrep j), fun hh => by omega⟩, fun f _ hl => absurd hl (hrep f.1), fun f hf _ => s.new f.2.1 (b.name t hf).1,
      fun f _ hl => absurd hl (hrep f.1), fun f g _ _ hl => absurd hl (hrep f.1), fun j x q b' _ _ hl => absurd hl (hrep j), fun q b' hq _ => ?_, hN, rfl⟩
    rw [g1] at hq
    exact hf q b' hq
end
end Go.Ev
namespace Go.Ev
theorem Uo {p : Nat → Prop} (h : ∃ n, p n) : ∃ n, p n ∧ ∀ m, p m → n ≤ m := by
  obtain ⟨n, hn⟩ := h
  induction n using Nat.strongRecOn with
  | _ n ih =>
    by_cases h : ∃ m, m < n ∧ p m
    · obtain ⟨m, h1, h2⟩ := h
      exact ih m h1 h2
    · refine ⟨n, hn, fun m hm => ?_⟩
      rcases Nat.lt_or_ge m n with hlt | hge
      · exact absurd ⟨m, hlt, hm⟩ h
      · exact hge
open Classical in
noncomputable def Rt (p : Nat → Prop) : Nat := if h : ∃ n, p n then (Uo h).choose else 0
theorem Fh {p : Nat → Prop} (h : ∃ n, p n) : p (Rt p) := by
  unfold Rt; rw [dif_pos h]; exact (Uo h).choose_spec.1
theorem leastN_le {p : Nat → Prop} {n : Nat} (h : p n) : Rt p ≤ n := by
  have hh : ∃ n, p n := ⟨n, h⟩
  unfold Rt; rw [dif_pos hh]; exact (Uo hh).choose_spec.2 n h
def exX : Ex → Exit
  | .nm => .normal | .ex id => .exit id | .rt => .ret
def MR (ι : Io) : List Pa → List Deferred → Prop
  | [], l => l = []
  | x :: r, l => ∃ p s, l = ({ target := .collected p.cb, args := #[] } : Deferred) :: s ∧ ι x = some p ∧ MR ι r s
theorem MR.mono {ι κ : Io} (hl : ι.le κ) : ∀ {m : List Pa} {l : List Deferred}, MR ι m l → MR κ m l
  | [], _, h => h
  | x :: r, _, ⟨p, s, h1, h2, h3⟩ => ⟨p, s, h1, hl _ _ h2, h3.mono hl⟩
inductive CkC (P : Program) (N : Nat) : AC → Code → Prop
  | skip : CkC P N .skip .skip
  | reg {l id ops} : RgOk P N ops 0 l → CkC P N (.reg l) (.region id ops false)
  | drw {l id ops} : Eo P N l ops → CkC P N (.drw l) (.region id ops true)
  | seq {a b A B} : CkC P N a A → CkC P N b B → CkC P N (.seq a b) (.seq A B)
  | cnd {x X a b A B} : OdR x X → CkC P N a A → CkC P N b B → CkC P N (.cnd x a b) (.cond X A B)
  | blk {id a A} : CkC P N a A → CkC P N (.blk id a) (.block id A)
  | lp {a A} : CkC P N a A → CkC P N (.lp a) (.loop A)
  | ext {id} : CkC P N (.ext id) (.exit id)
  | ret : CkC P N .ret .ret
  | rf {f F ps PS a A b B} : OdR f F → PS.toList = ps.map Pa.dec → (∀ p ∈ ps, p.dec < N) → CkC P N a A → CkC P N b B → CkC P N (.rf f ps a b) (.rangeFunc F PS A B)
  | gc {ks fs a A} : CkC P N a A → CkC P N (.gc ks fs a) A
  | bad {A} : CkC P N .bad A
section
variable {P : Program} {w₀ w : World} {K : Gd} {ι : Io} {h : H} {fr : Fm} {a : Act} {N : Nat} {ro : Option Nat}
def C9 (P : Program) (w₀ : World) (K : Gd) (ι : Io) (h : H) (N : Nat) (Q : Exit → Act → World → Prop) (o : So) : Prop :=
  ∀ ι' a' w', Ext h o.h ι ι' → SR (CkC P) w₀ K ι' o.h w' → FR ι' o.fr a'.tmps → a'.tmps.size = N → MR ι' o.mks a'.defers → Q (exX o.ex) a' w'
theorem C9.mono {Q : Exit → Act → World → Prop} {o : So} {ι' : Io} {h1 : H} (hq : C9 P w₀ K ι h N Q o) (he : Ext h h1 ι ι') : C9 P w₀ K ι' h1 N Q o := fun ι'' a'' w'' g1 g2 g3 g4 g5 => hq ι'' a'' w'' (he.trans g1) g2 g3 g4 g5
theorem SR.dropW {Ck : CkT} (s : SR Ck w₀ K ι h w) {x : Pa} {ob : AO} {p : Pl} {h' : H} {w' : World} (hx : Q5 x h.rw = some ob) (hp : ι x = some p) (hd : Gr x h = some h') (e1 : w'.os = w.os) (e2 : w'.tape = w.tape) (e3 : w'.output = w.output)
    (e4 : w'.heap.size = w.heap.size) (e5 : ∀ c, c ≠ p.cb → w'.heap[c]? = w.heap[c]?) : SR Ck w₀ K ι h' w' := by
  obtain ⟨p', o, q1, q2, q3, q4⟩ := s.rw x ob hx
  rw [hp] at q1; injection q1 with q1; subst q1
  obtain ⟨_, d1, d2, d3⟩ := Jp hd
  have live : ∀ y b, Q5 y h'.rw = some b → y ≠ x ∧ Q5 y h.rw = some b := fun y b hy => by
    rw [d3 y] at hy
    by_cases e : y = x
    · simp [e] at hy
    · exact ⟨e, by simpa [e] using hy⟩
  have liveS : ∀ y, (Q5 y h'.rw).isSome = true → (Q5 y h.rw).isSome = true := fun y hy => by
    cases hg : Q5 y h'.rw with
    | none => rw [hg] at hy; cases hy
    | some b => rw [(live y b hg).2]; rfl
  refine ⟨e1.trans s.os, e2.trans s.tape, e3.trans s.output, fun c q hc => ?_, fun y b hy => ?_, by rw [d1]; exact s.ro, fun y z q r hy hz => s.inj y z q r (liveS y hy) (liveS z hz), by rw [d1]; exact s.injo, by rw [d2]; exact s.new, fun y q hq => by rw [e4]; exact s.lt y q hq, s.one⟩
  · have : c ≠ p.cb := fun e => by subst e; rw [q3] at hc; cases hc
    exact (e5 c this).trans (s.gd c q hc)
  · obtain ⟨hne, hy⟩ := live y b hy
    obtain ⟨q, c, r1, r2, r3, r4⟩ := s.rw y b hy
    have ne : q.cb ≠ p.cb := fun he => hne (s.inj y x q p (by rw [hy]; rfl) (by rw [hx]; rfl) r1 hp he)
    exact ⟨q, c, r1, (e5 _ ne).trans r2, r3, r4⟩
theorem Hk {x : Pa} {h' : H} (hd : Gr x h = some h') : h'.nx = h.nx := (Jp hd).2.2.1
theorem Ib {cl : Cl} {fv : AV} {ar : List AV} {S : Ou → Prop} (hS : RA (callF cl fv ar h) S) : ∃ g first cap, fv = .f g first cap ∧ RA (cl (.fn g) (first ++ (ar ++ cap)) h) S := by
  cases fv <;> try exact hS.elim
  rename_i g first cap
  obtain ⟨l1, h1, hS⟩ := Q0 hS
  obtain ⟨l2, h2, hS⟩ := Q0 hS
  have h1 := Zn h1
  have h2 := Zn h2
  subst h1
  subst h2
  exact ⟨g, first, cap, rfl, hS⟩
theorem Gc {α : Type} {t : Tr α} : ∀ {ks : List Pa} {t' : Tr α}, keepT ks t = some t' → ∀ y b, Q5 y t' = some b → Q5 y t = some b
  | [], t', h, y, b, hy => by
    have h : some .e = some t' := h
    injection h with h; subst h
    rw [Xi] at hy; cases hy
  | x :: ks, t', h, y, b, hy => by
    obtain ⟨r, hr, h⟩ := Qa (x := keepT ks t) h
    obtain ⟨v, hv, h⟩ := Qa (x := Q5 x t) h
    rw [V6 _ _ _ _ h y] at hy
    by_cases e : y = x
    · subst e; simp at hy; subst hy; exact hv
    · simp only [e, if_false] at hy; exact Gc hr y b hy
theorem SR.keep {Ck : CkT} (s : SR Ck w₀ K ι h w) {ks : List Pa} {h' : H} (hn : keepH ks h = some h') : SR Ck w₀ K ι h' w ∧ h'.nx = h.nx := by
  obtain ⟨ro, rw', nx⟩ := h
  obtain ⟨rw2, e1, hn⟩ := Qa (x := keepT ks rw') hn
  injection hn with hn; subst hn
  have hold := Gc e1
  have hsome : ∀ y, (Q5 y rw2).isSome → (Q5 y rw').isSome := fun y hy => by
    cases hg : Q5 y rw2 with
    | none => rw [hg] at hy; cases hy
    | some b => rw [hold y b hg]; rfl
  exact ⟨⟨s.os, s.tape, s.output, s.gd, fun y b hy => s.rw y b (hold y b hy), s.ro, fun y z q r hy hz => s.inj y z q r (hsome y hy) (hsome z hz), s.injo, s.new, s.lt, s.one⟩, rfl⟩
theorem Bt {nf : Nat} {cl : Cl} (hcl : ClS P (CkC P) w₀ cl) : ∀ {x : AC} {A : Code}, CkC P N x A → ∀ {ι : Io} {h : H} {fr : Fm} {mk : List Pa} {a : Act} {w : World} {Q : Exit → Act → World → Prop}, SR (CkC P) w₀ K ι h w → FR ι fr a.tmps → a.tmps.size = N → MR ι mk a.defers →
    RA (xEn nf cl ro.isSome x fr h mk) (C9 P w₀ K ι h N Q) → A.wpIn (F0 ro) 0 P Q a w := by
  intro x A hck
  induction hck with
  | skip =>
    intro ι h fr mk a w Q s hf hN hm hS
    exact wpIn_skip (hS ι a w (Ext.same rfl) s hf hN hm)
  | @reg l id ops hok =>
    intro ι h fr mk a w Q s hf hN hm hS
    refine wpIn_region ?_
    have hS := Yw (x := regE cl l fr h) (f := fun s => .one (⟨.nm, s.fr, s.h, mk⟩ : So)) hS
    have := Dt (ro := ro) (Q := Q) hcl hok s hf hN (hS.mono fun st hst ι' a' w' g1 g2 g3 g4 g5 => hst ι' a' w' g1 g2 g3 g4 (by rw [g5]; exact hm.mono g1.le))
    rw [Nat.sub_zero, ← List.range_eq_range'] at this
    exact this
  | @drw l id ops hok =>
    intro ι h fr mk a w Q s hf hN hm hS
    have hS := Yw (x := drwE cl l fr h) (f := fun s => .one (⟨.nm, s.fr, s.h, mk⟩ : So)) hS
    exact Ia hcl hok s hf hN (hS.mono fun st hst ι' a' w' g1 g2 g3 g4 g5 => hst ι' a' w' g1 g2 g3 g4 (by rw [g5]; exact hm.mono g1.le))
  | @seq a' b' A B ha hb iha ihb =>
    intro ι h fr mk a w Q s hf hN hm hS
    have hS := Yw (x := xEn nf cl ro.isSome a' fr h mk) (f := So.rec (motive := fun _ => Rs So) fun ex fr h mk => Ex.rec (motive := fun _ => Rs So) (xEn nf cl ro.isSome b' fr h mk) (fun k => .one ⟨.ex k, fr, h, mk⟩) (.one ⟨.rt, fr, h, mk⟩) ex) hS
    refine wpIn_seq (iha s hf hN hm (hS.mono fun o ho ι' a'' w' g1 g2 g3 g4 g5 => ?_))
    obtain ⟨ex, fr', h', mk'⟩ := o
    cases ex with
    | nm => exact ihb g2 g3 g4 g5 (RA.mono ho fun o' h'' => h''.mono g1)
    | ex id => exact ho ι' a'' w' g1 g2 g3 g4 g5
    | rt => exact ho ι' a'' w' g1 g2 g3 g4 g5
  | @cnd x X a' b' A B hx ha hb iha ihb =>
    intro ι h fr mk a w Q s hf hN hm hS
    obtain ⟨v, hv, hS⟩ := Q0 hS
    have hvr := Qs hx hf hv
    cases v <;> try exact hS.elim
    rename_i t
    rw [VR] at hvr
    cases t with
    | true => exact wpIn_cond_true hvr (iha s hf hN hm hS)
    | false => exact wpIn_cond_false hvr (ihb s hf hN hm hS)
  | @gc ks fs a' A ha iha =>
    intro ι h fr mk a w Q s hf hN hm hS
    obtain ⟨fr', hfr, hS⟩ := Q0 hS
    obtain ⟨h', hh, hS⟩ := Q0 hS
    obtain ⟨s', e⟩ := s.keep hh
    exact iha s' (fun p u hp => hf p u (Gc hfr p u hp)) hN hm (RA.mono hS fun o ho => ho.mono (Ext.same e))
  | @blk id a' A ha iha =>
    intro ι h fr mk a w Q s hf hN hm hS
    have hS := Yw (x := xEn nf cl ro.isSome a' fr h mk) (f := So.rec (motive := fun _ => Rs So) fun ex fr h mk => Ex.rec (motive := fun _ => Rs So) (.one ⟨.nm, fr, h, mk⟩) (fun k => Vd (Nat.beq k id) (.one ⟨.nm, fr, h, mk⟩) (.one ⟨.ex k, fr, h, mk⟩)) (.one ⟨.rt, fr, h, mk⟩) ex) hS
    refine wpIn_block (iha s hf hN hm (hS.mono fun o ho ι' a'' w' g1 g2 g3 g4 g5 => ?_))
    obtain ⟨ex, fr', h', mk'⟩ := o
    cases ex with
    | nm => exact ho ι' a'' w' g1 g2 g3 g4 g5
    | ex k =>
      have ho : RA (Vd (Nat.beq k id) (.one (⟨.nm, fr', h', mk'⟩ : So)) (.one ⟨.ex k, fr', h', mk'⟩)) (C9 P w₀ K ι h N Q) := ho
      cases hk : Nat.beq k id with
      | true =>
        rw [hk, Ve] at ho
        have ho2 : C9 P w₀ K ι h N Q ⟨.nm, fr', h', mk'⟩ := ho
        have := Nat.eq_of_beq_eq_true hk
        subst this
        have := ho2 ι' a'' w' g1 g2 g3 g4 g5
        simpa [exX, Exit.inBlock] using this
      | false =>
        rw [hk, Q9] at ho
        have hne : ¬ k = id := fun e => by subst e; rw [Nat.beq_refl] at hk; cases hk
        have := ho ι' a'' w' g1 g2 g3 g4 g5
        simpa [exX, Exit.inBlock, hne] using this
    | rt => exact ho ι' a'' w' g1 g2 g3 g4 g5
  | @lp a' A ha iha =>
    intro ι h fr mk a w Q s hf hN hm hS
    let J : Nat → Act → World → Prop := fun m a1 w1 => ∃ ι1 h1 fr1 mk1, Ext h h1 ι ι1 ∧ SR (CkC P) w₀ K ι1 h1 w1 ∧ FR ι1 fr1 a1.tmps ∧ a1.tmps.size = N ∧ MR ι1 mk1 a1.defers ∧
      RA (x_lp m a' (xEn nf cl ro.isSome a') fr1 h1 mk1) (C9 P w₀ K ι h N Q)
    have hJ0 : ∀ a1 w1, ¬ J 0 a1 w1 := fun a1 w1 ⟨_, _, _, _, _, _, _, _, _, hz⟩ => hz
    have hstart : J nf a w := ⟨ι, h, fr, mk, Ext.same rfl, s, hf, hN, hm, hS⟩
    refine wpIn_loop (fun a1 w1 => ∃ m, J m a1 w1) (fun a1 w1 => Rt (fun m => J m a1 w1)) ⟨_, hstart⟩ (fun a1 w1 hI => ?_)
    have hJ : J (Rt fun m => J m a1 w1) a1 w1 := Fh hI
    generalize (Rt fun m => J m a1 w1) = m at hJ
    cases m with
    | zero => exact absurd hJ (hJ0 a1 w1)
    | succ m =>
      obtain ⟨ι1, h1, fr1, mk1, e1, s1, f1, n1, m1, r1⟩ := hJ
      have r1 := Yw (x := xEn nf cl ro.isSome a' fr1 h1 mk1) (f := So.rec (motive := fun _ => Rs So) fun ex fr h mk => Ex.rec (motive := fun _ => Rs So) (x_lp m a' (xEn nf cl ro.isSome a') fr h mk) (fun k => .one ⟨.ex k, fr, h, mk⟩) (.one ⟨.rt, fr, h, mk⟩) ex) r1
      refine iha s1 f1 n1 m1 (r1.mono fun o ho ι' a'' w' g1 g2 g3 g4 g5 => ?_)
      obtain ⟨ex, fr', h', mk'⟩ := o
      cases ex with
      | nm =>
        have hj : J m a'' w' := ⟨ι', h', fr', mk', e1.trans g1, g2, g3, g4, g5, ho⟩
        have hex : ∃ m, J m a'' w' := ⟨m, hj⟩
        refine ⟨hex, ?_⟩
        exact Nat.lt_succ_of_le (leastN_le hj)
      | ex id => exact ho ι' a'' w' (e1.trans g1) g2 g3 g4 g5
      | rt => exact ho ι' a'' w' (e1.trans g1) g2 g3 g4 g5
  | ext =>
    intro ι h fr mk a w Q s hf hN hm hS
    exact wpIn_exit (hS ι a w (Ext.same rfl) s hf hN hm)
  | ret =>
    intro ι h fr mk a w Q s hf hN hm hS
    exact wpIn_ret (hS ι a w (Ext.same rfl) s hf hN hm)
  | bad =>
    intro ι h fr mk a w Q s hf hN hm hS
    exact hS.elim
  | @rf f F ps PS a' A b' B hF hPS hps ha hb iha ihb =>
    intro ι h fr mk a w Q s hf hN hm hS
    cases ro with
    | some l => exact hS.elim
    | none =>
    obtain ⟨fv, hfv, hS⟩ := Q0 hS
    obtain ⟨h1, hn1, hS⟩ := Q0 hS
    obtain ⟨h2, hn2, hS⟩ := Q0 hS
    have hS := Yw hS
    obtain ⟨g, first, cap, rfl, hS2⟩ := Ib hS
    have hvr := Qs hF hf hfv
    let p1 : Pl := ⟨w.heap.size, 0, 0, false⟩
    obtain ⟨a1, s1⟩ := s.alloc hn1 p1 rfl (.deferred (some [])) (show _ = _ from rfl)
    have ext1 : Ext h h1 ι (ι.set h.nx p1) := Ext.set a1 (by have := N6 hn1; omega)
    refine wpIn_rangeFunc (fun fn _ => ?_)
    let rec0 : Loop := { state := .ready, pending := none, fn := fn, tmps := a.tmps, params := PS, assign := A, body := B, defers := w.heap.size }
    let w1 : World := { w with heap := w.heap.push (.deferred (some [])) }
    let p2 : Pl := ⟨w1.heap.size, 0, 0, false⟩
    have hbr : BR (CkC P) ((ι.set h.nx p1).set h1.nx p2) p2 (.loop fr ps a' b' .ready .nm) (.loop rec0) :=
      ⟨rec0, rfl, rfl, rfl, (hf.mono a1).mono (Xz (s1.new h1.nx (Nat.le_refl _))), hPS, fun p hp => by show p.dec < a.tmps.size; rw [hN]; exact hps p hp, by show CkC P a.tmps.size a' A; rw [hN]; exact ha, by show CkC P a.tmps.size b' B; rw [hN]; exact hb⟩
    obtain ⟨a2, s2⟩ := s1.alloc (w := w1) hn2 p2 rfl (.loop rec0) hbr
    have ext2 : Ext h1 h2 (ι.set h.nx p1) ((ι.set h.nx p1).set h1.nx p2) := Ext.set a2 (by have := N6 hn2; omega)
    let w2 : World := { w1 with heap := w1.heap.push (.loop rec0) }
    have hx1 : ((ι.set h.nx p1).set h1.nx p2) h1.nx = some p2 := Qw _ _ _
    have hx0 : ((ι.set h.nx p1).set h1.nx p2) h.nx = some p1 := a2 _ _ (Qw _ _ _)
    rw [VR] at hvr
    obtain ⟨first', cap', hval, hfirst, hcap⟩ := hvr
    have hargs : VRs ((ι.set h.nx p1).set h1.nx p2) (first ++ ([.y h1.nx] ++ cap)) (first'.toList ++ ([.func (.yield w1.heap.size) #[] #[]] ++ cap'.toList)) :=
      ((hfirst.mono a1).mono a2).append (VRs.append (by rw [VRs]; exact ⟨_, [], rfl, by rw [VR]; exact ⟨p2, hx1, rfl⟩, by rw [VRs]⟩) ((hcap.mono a1).mono a2))
    have hRA : RA (cl (.fn g) (first ++ ([.y h1.nx] ++ cap)) h2) (B7 (CkC P) w₀ K ((ι.set h.nx p1).set h1.nx p2) h2 (rangePost (F0 none) 0 P w1.heap.size Q { a with defers := [{ target := .collected w.heap.size, args := #[] }] ++ a.defers })) := by
      refine hS2.mono fun o ho ι' w' v g1 g2 g3 => ?_
      obtain ⟨lo, hlo, ho⟩ := Q0 ho
      cases lo <;> try exact ho.elim
      rename_i lfr lps lasg lbody lst lpend
      have hx1' := g1.le _ _ hx1
      obtain ⟨q, ob, q1, q2, q3, q4⟩ := g2.rw _ _ hlo
      rw [hx1'] at q1; injection q1 with q1; subst q1
      obtain ⟨r, rfl, r1, r2, r3, r4, r5, r6⟩ := q4
      have hlast : ∀ (hst : lst ≠ .busy), RA (Fx (ob (Gr h1.nx o.2) fun h' => .one h') fun h' => .one (⟨lpend, fr, h', h.nx :: mk⟩ : So)) (C9 P w₀ K ι h N Q) := fun hst => by cases lst <;> first | exact ho | exact absurd rfl hst
      have hnb : lst ≠ .busy := fun e => by subst e; exact ho
      have ho := Yw (hlast hnb)
      obtain ⟨h', hd, ho⟩ := Q0 ho
      let w4 : World := { w' with heap := w'.heap.setIfInBounds p2.cb (.loop { r with state := .exhausted }) }
      have hend : (Instr.endLoop p2.cb).run P w' = .ok r.pending w4 := by
        have hne : (r.state == .busy) = false := by rw [r1]; cases lst <;> first | rfl | exact absurd rfl hnb
        simp only [Instr.endLoop, Instr.getLoop, Sem.run_bind, Vo q2 (by intros; simp), Result.andThen_ok, Sem.run_pure, hne, Bool.false_eq_true, if_false, N7 q2 (by intros; simp)]
        rfl
      have s4 : SR (CkC P) w₀ K ι' h' w4 := g2.dropW hlo hx1' hd rfl rfl rfl (by simp [w4]) (fun c hc => by show (w'.heap.setIfInBounds p2.cb _)[c]? = _; simp [Ne.symm hc])
      have ext4 : Ext h h' ι ι' := (ext1.trans (ext2.trans g1)).trans (Ext.same (Hk hd))
      have hfin : Q (exX lpend) { a with defers := [{ target := .collected w.heap.size, args := #[] }] ++ a.defers } w4 :=
        ho ι' { a with defers := [{ target := .collected w.heap.size, args := #[] }] ++ a.defers } w4 ext4 s4 (hf.mono ext4.le) hN ⟨p1, a.defers, rfl, g1.le _ _ hx0, hm.mono ext4.le⟩
      refine ⟨r.pending, w4, hend, ?_⟩
      rw [r2]
      cases lpend with
      | nm => exact hfin
      | ex id => exact wpIn_exit hfin
      | rt => exact wpIn_ret hfin
    obtain ⟨c1, c2⟩ := (hcl K _ h2 w2 _ _ s2 hargs).1 g _ hRA
    have he : (Instr.enterLoop fn a.tmps PS A B (F0 none).round).run P w = .ok (w1.heap.size, [{ target := .collected w.heap.size, args := #[] }]) w2 := by
      simp only [Instr.enterLoop, F0, Fence.wide, Sem.run_bind, run_newObj, Result.andThen_ok, Sem.run_pure]
      rfl
    have hres : (resolve a.eval (rangeCall F w1.heap.size) 0).run P w2 = .ok { target := .fn (.func g.dec) cap', args := first' ++ #[.func (.yield w1.heap.size) #[] #[]] } w2 := by
      have hcst : a.eval (.const (.func (.yield w1.heap.size) #[] #[])) = .func (.yield w1.heap.size) #[] #[] := rfl
      simp only [rangeCall, resolve, hval, Deferred.ofValue, List.map_toArray, List.map_cons, List.map_nil, hcst, Sem.run_pure]
    have e : first' ++ #[Value.func (.yield w1.heap.size) #[] #[]] ++ cap' = (first'.toList ++ ([Value.func (.yield w1.heap.size) #[] #[]] ++ cap'.toList)).toArray := by apply Array.ext'; simp
    have hinv : (invoke (.fn (.func g.dec) cap') (first' ++ #[Value.func (.yield w1.heap.size) #[] #[]])).run P w2 = .ok (.enter g.dec (first'.toList ++ ([Value.func (.yield w1.heap.size) #[] #[]] ++ cap'.toList)).toArray) w2 := by
      rw [← c1, ← e]
      rfl
    exact ⟨_, _, _, _, _, _, _, _, he, hres, fun f' _ => trivial, hinv, G2 none 0, N9 c2⟩
end
end Go.Ev
namespace Go.Ev
theorem Ea : ∀ {ps : List Pa} {vs : List AV} {fr fr' : Fm}, setPs ps vs fr = some fr' → ps.length = vs.length ∧ ∀ q b, Q5 q fr' = some b → (∃ i : Nat, ps[i]? = some q ∧ vs[i]? = some b) ∨ Q5 q fr = some b
  | [], vs, fr, fr', h => by
    cases vs with
    | nil =>
      have h : some fr = some fr' := h
      injection h with h; subst h
      exact ⟨rfl, fun q b hb => .inr hb⟩
    | cons v vs => cases h
  | p :: ps, vs, fr, fr', h => by
    cases vs with
    | nil => cases h
    | cons v vs =>
      obtain ⟨f1, h1, h⟩ := Qa (x := Nu (some v) p fr) h
      obtain ⟨g1, g2⟩ := Ea h
      refine ⟨by simp [g1], fun q b hb => ?_⟩
      rcases g2 q b hb with ⟨i, e1, e2⟩ | hb
      · exact .inl ⟨i + 1, by simpa using e1, by simpa using e2⟩
      · rw [V6 _ _ _ _ h1 q] at hb
        by_cases e : q = p
        · subst e; simp at hb; subst hb; exact .inl ⟨0, rfl, rfl⟩
        · simp only [e, if_false] at hb; exact .inr hb
def RsOk (P : Program) : List Rv → List ResultVar → Prop
  | [], l => l = []
  | .t p :: r, l => ∃ s, l = .tmp p.dec :: s ∧ RsOk P r s
  | .c p n :: r, l => ∃ t d s, l = .cell p.dec t :: s ∧ P.underlying t = some d ∧ LdOk P t d n ∧ RsOk P r s
structure CfOk (P : Program) (c : CF) (fn : Func) : Prop where
  ps : ∀ (i : Nat) (p : Pa), c.ps[i]? = some p → p.dec = i
  np : c.ps.length ≤ fn.ntmps
  rs : RsOk P c.rs fn.results.toList
  body : ∃ b, fn.body = some b ∧ CkC P fn.ntmps c.body b
structure CtOk (P : Program) (ct : Tr CF) : Prop where
  fn : ∀ (g : Pa) (c : CF), Q5 g ct = some c → ∃ fn, P.funcs[g.dec]? = some fn ∧ (fn.name == "runtime.NumGoroutine") = false ∧ fn.body.isNone = false ∧ (c.pr = 0 → CfOk P c fn)
section
variable {P : Program} {w₀ w : World} {K : Gd} {ι : Io} {h : H} {fr : Fm} {a : Act} {N : Nat}
def resV (tmps : Array Value) : ResultVar → Sem Value
  | .tmp t => pure (tmps.getD t undef)
  | .cell a t => do loadVar t (← asAddr (tmps.getD a undef))
theorem Ic (fn : Func) (tmps : Array Value) : results fn tmps = (do let vs ← fn.results.mapM (resV tmps); pure (if h : vs.size = 1 then vs[0] else .tuple vs)) := by
  unfold results
  congr 2
theorem Fi (s : SR (CkC P) w₀ K ι h w) {tmps : Array Value} (hf : FR ι fr tmps) : ∀ {l : List Rv} {L : List ResultVar} {vs : List AV}, RsOk P l L → Gq (rvE fr h) l = some vs →
    ∃ us : List Value, (L.mapM (resV tmps)).run P w = .ok us w ∧ VRs ι vs us
  | [], L, vs, hok, hm => by
    have hok : L = [] := hok
    subst hok
    injection hm with hm; subst hm
    exact ⟨[], rfl, by rw [VRs]⟩
  | .t p :: l, L, vs, hok, hm => by
    obtain ⟨S, rfl, hok⟩ := hok
    obtain ⟨v, hv, hm⟩ := Qa (x := rvE fr h (.t p)) hm
    obtain ⟨r, hr, hm⟩ := Qa (x := Gq (rvE fr h) l) hm
    injection hm with hm; subst hm
    obtain ⟨us, g1, g2⟩ := Fi s hf hok hr
    refine ⟨tmps.getD p.dec undef :: us, ?_, by rw [VRs]; exact ⟨_, _, rfl, hf p v hv, g2⟩⟩
    have h0 : (resV tmps (.tmp p.dec)).run P w = .ok (tmps.getD p.dec undef) w := rfl
    simp only [List.mapM_cons, Sem.run_bind, Sem.run_pure, Result.andThen_ok, h0, g1]
  | .c p n :: l, L, vs, hok, hm => by
    obtain ⟨t, d, S, rfl, h1, h2, hok⟩ := hok
    obtain ⟨v, hv, hm⟩ := Qa (x := rvE fr h (.c p n)) hm
    obtain ⟨r, hr, hm⟩ := Qa (x := Gq (rvE fr h) l) hm
    injection hm with hm; subst hm
    obtain ⟨us, g1, g2⟩ := Fi s hf hok hr
    obtain ⟨u, hu, hv⟩ := Qa (x := Q5 p fr) hv
    have hvr := hf p u hu
    obtain ⟨v', e1, e2⟩ := Rh s hvr hv h1 h2
    cases u <;> try (cases hv; done)
    rw [VR] at hvr
    obtain ⟨q, hq, hvr⟩ := hvr
    refine ⟨v' :: us, ?_, by rw [VRs]; exact ⟨_, _, rfl, e2, g2⟩⟩
    rw [hvr] at e1
    have e1 : (loadVar t ⟨q.cb, _, none⟩).run P w = .ok v' w := e1
    have h0 : (resV tmps (.cell p.dec t)).run P w = .ok v' w := by simp only [resV, Sem.run_bind, hvr, asAddr, Sem.run_pure, Result.andThen_ok, e1]
    simp only [List.mapM_cons, Sem.run_bind, Sem.run_pure, Result.andThen_ok, h0, g1]
theorem res_spec (s : SR (CkC P) w₀ K ι h w) {tmps : Array Value} (hf : FR ι fr tmps) {l : List Rv} {fn : Func} {u : AV} (hok : RsOk P l fn.results.toList) (hr : resE fr h l = some u) : ∃ v, (results fn tmps).run P w = .ok v w ∧ VR ι u v := by
  obtain ⟨vs, hvs, hr⟩ := Qa (x := Gq (rvE fr h) l) hr
  obtain ⟨us, g1, g2⟩ := Fi s hf hok hvs
  have hlen := g2.len
  have hrun : (results fn tmps).run P w = .ok (if h : us.toArray.size = 1 then us.toArray[0] else .tuple us.toArray) w := by
    rw [Ic, Array.mapM_eq_mapM_toList]
    simp only [Sem.run_bind, Sem.run_map, g1, Result.andThen_ok, Sem.run_pure]
  refine ⟨_, hrun, ?_⟩
  cases vs with
  | nil =>
    injection hr with hr; subst hr
    have : us = [] := List.eq_nil_of_length_eq_zero (by simpa using hlen)
    subst this
    rw [VR]
    exact ⟨#[], by simp, by rw [VRs]⟩
  | cons v r =>
    cases r with
    | nil =>
      injection hr with hr; subst hr
      rw [VRs] at g2
      obtain ⟨x, y, rfl, e1, e2⟩ := g2
      rw [VRs] at e2; subst e2
      simpa using e1
    | cons v2 r =>
      injection hr with hr; subst hr
      have hne : us.toArray.size ≠ 1 := by simp at hlen ⊢; omega
      rw [dif_neg hne, VR]
      exact ⟨us.toArray, rfl, by simpa using g2⟩
theorem Ru {fn : Func} {tmps : Array Value} {R : Ending → World → Prop} : ∀ {mk : List Pa} {ds : List Deferred} {h h' : H} {w : World}, MR ι mk ds → SR (CkC P) w₀ K ι h w → Ng mk h = some h' →
    (∀ w', SR (CkC P) w₀ K ι h' w' → ∃ v, (results fn tmps).run P w' = .ok v w' ∧ R (.returned v) w') → LeavesInM (F0 none) 0 P fn tmps R ds .returning w
  | [], ds, h, h', w, hm, s, hk, hR => by
    have hm : ds = [] := hm
    subst hm
    have hk : some h = some h' := hk
    injection hk with hk; subst hk
    exact hR w s
  | x :: mk, ds, h, h', w, hm, s, hk, hR => by
    obtain ⟨p, S, rfl, hp, hm⟩ := hm
    obtain ⟨ob, hob, hk⟩ := Qa (x := Q5 x h.rw) hk
    cases ob <;> try (cases hk; done)
    have hk : bd (Gr x h) (Ng mk) = some h' := hk
    obtain ⟨h1, hd, hk⟩ := Qa hk
    obtain ⟨q, o, q1, q2, q3, q4⟩ := s.rw x _ hob
    rw [hp] at q1; injection q1 with q1; subst q1
    have q4 : o = .deferred (some []) := q4
    subst q4
    have htake : (Instr.takeDeferred p.cb).run P w = .ok [] { w with heap := w.heap.setIfInBounds p.cb (.deferred none) } := by
      simp only [Instr.takeDeferred, Sem.run_bind, Vo q2 (by intros; simp), Result.andThen_ok, N7 q2 (by intros; simp), Sem.run_pure]
    refine ⟨by simp, .inl ⟨p.cb, _, rfl, htake, ?_⟩⟩
    exact Ru hm (s.dropW hob hp hd rfl rfl rfl (by simp) (fun c hc => by show (w.heap.setIfInBounds p.cb _)[c]? = _; simp [Ne.symm hc])) hk hR
theorem Eb : ∀ {mk : List Pa} {h h' : H}, Ng mk h = some h' → h'.nx = h.nx
  | [], h, h', hk => by
    have hk : some h = some h' := hk
    injection hk with hk; subst hk; rfl
  | x :: mk, h, h', hk => by
    obtain ⟨ob, hob, hk⟩ := Qa (x := Q5 x h.rw) hk
    cases ob <;> try (cases hk; done)
    have hk : bd (Gr x h) (Ng mk) = some h' := hk
    obtain ⟨h1, hd, hk⟩ := Qa hk
    rw [Eb hk, Hk hd]
theorem Ec {cl : Cl} (hcl : ClS P (CkC P) w₀ cl) (s : SR (CkC P) w₀ K ι h w) {g : Pa} {c : CF} {fn : Func} (hfn : P.funcs[g.dec]? = some fn) (hc : CfOk P c fn) {ar : List AV} {vs : List Value} (hv : VRs ι ar vs) {R : Ending → World → Prop}
    (hS : RA (fnE cl c ar h) (B7 (CkC P) w₀ K ι h R)) : CallsIn Fence.wide 0 P g.dec vs.toArray w R := by
  obtain ⟨fr, hfr, hS⟩ := Q0 hS
  have hS := Yw (x := xE cl false c.body fr h []) (f := fun s => Ex.casesOn (motive := fun _ => Rs Ou) s.ex (ob (Ng s.mks s.h) fun h => ob (resE s.fr h c.rs) fun v => .one (v, h)) (fun _ => .z) (ob (Ng s.mks s.h) fun h => ob (resE s.fr h c.rs) fun v => .one (v, h))) hS
  obtain ⟨b, hb, hck⟩ := hc.body
  obtain ⟨l1, l2⟩ := Ea hfr
  have hlen := hv.len
  have hsz : (vs.toArray ++ Array.replicate (fn.ntmps - vs.toArray.size) undef).size = fn.ntmps := by
    have := hc.np
    simp; omega
  have hfr0 : FR ι fr (vs.toArray ++ Array.replicate (fn.ntmps - vs.toArray.size) undef) := fun q u hq => by
    rcases l2 q u hq with ⟨i, e1, e2⟩ | hq
    · have hd := hc.ps i q e1
      obtain ⟨v, e3, e4⟩ := hv.get e2
      have hi : i < vs.length := (List.getElem?_eq_some_iff.1 e3).1
      have : (vs.toArray ++ Array.replicate (fn.ntmps - vs.toArray.size) undef).getD q.dec undef = v := by
        rw [hd, Array.getD_eq_getD_getElem?, Array.getElem?_append_left (by simpa using hi), List.getElem?_toArray, e3]; rfl
      rw [this]; exact e4
    · rw [Xi] at hq; cases hq
  have fin : ∀ {so : So} {ι' : Io} {a' : Act} {w' : World}, RA (ob (Ng so.mks so.h) fun h => ob (resE so.fr h c.rs) fun v => .one ((v, h) : Ou)) (B7 (CkC P) w₀ K ι h R) → Ext h so.h ι ι' → SR (CkC P) w₀ K ι' so.h w' → FR ι' so.fr a'.tmps → MR ι' so.mks a'.defers →
      LeavesInM (F0 none) 0 P fn a'.tmps R a'.defers .returning w' := fun {so ι' a' w'} hr he hs hf hm => by
    obtain ⟨h', hk, hr⟩ := Q0 hr
    obtain ⟨u, hu, hr⟩ := Q0 hr
    refine Ru hm hs hk (fun w'' s'' => ?_)
    obtain ⟨v, e1, e2⟩ := res_spec s'' hf hc.rs hu
    exact ⟨v, e1, hr ι' w'' v (he.trans (Ext.same (Eb hk))) s'' e2⟩
  refine callsIn_of_wp_marks hfn hb trivial ?_ rfl
  refine Bt (ro := none) (nf := F1) hcl hck s hfr0 hsz (show MR ι [] [] from rfl) (hS.mono fun so ho ι' a' w' g1 g2 g3 g4 g5 => ?_)
  obtain ⟨ex, fr', h', mk'⟩ := so
  cases ex with
  | nm => exact fin (so := ⟨.nm, fr', h', mk'⟩) ho g1 g2 g3 g5
  | ex id => exact ho.elim
  | rt => exact fin (so := ⟨.rt, fr', h', mk'⟩) ho g1 g2 g3 g5
end
end Go.Ev
namespace Go.Ev
section
variable {P : Program} {w₀ w : World} {K : Gd} {ι : Io} {h h' : H} {fr : Fm} {a : Act} {N : Nat}
theorem Dx : ∀ {ps : List Pa} {vs : List AV} {us : List Value} {fr fr' : Fm} {tmps : Array Value}, setPs ps vs fr = some fr' → VRs ι vs us → FR ι fr tmps → (∀ p ∈ ps, p.dec < tmps.size) →
    FR ι fr' (((ps.map Pa.dec).zip us).foldl (fun (tmps : Array Value) (x : Nat × Value) => tmps.setIfInBounds x.1 x.2) tmps) ∧ (((ps.map Pa.dec).zip us).foldl (fun (tmps : Array Value) (x : Nat × Value) => tmps.setIfInBounds x.1 x.2) tmps).size = tmps.size ∧ us.length = ps.length
  | [], vs, us, fr, fr', tmps, h, hv, hf, hb => by
    cases vs with
    | nil =>
      have h : some fr = some fr' := h
      injection h with h; subst h
      rw [VRs] at hv; subst hv
      exact ⟨hf, rfl, rfl⟩
    | cons v vs => cases h
  | p :: ps, vs, us, fr, fr', tmps, h, hv, hf, hb => by
    cases vs with
    | nil => cases h
    | cons v vs =>
      obtain ⟨f1, h1, h⟩ := Qa (x := Nu (some v) p fr) h
      rw [VRs] at hv
      obtain ⟨u, us', rfl, e1, e2⟩ := hv
      have hlt := hb p (by simp)
      have hf1 : FR ι f1 (tmps.setIfInBounds p.dec u) := fun q b hq => by
        rw [V6 _ _ _ _ h1 q] at hq
        by_cases e : q = p
        · subst e; simp at hq; subst hq; simpa [hlt] using e1
        · simp only [e, if_false] at hq
          have hne : p.dec ≠ q.dec := fun he => e (Yd he.symm)
          have h0 := hf q b hq
          rw [Array.getD_eq_getD_getElem?] at h0 ⊢
          rw [Array.getElem?_setIfInBounds_ne hne]; exact h0
      obtain ⟨g1, g2, g3⟩ := Dx h e2 hf1 (fun q hq => by simpa using hb q (by simp [hq]))
      refine ⟨g1, ?_, by simp [g3]⟩
      show (((ps.map Pa.dec).zip us').foldl _ (tmps.setIfInBounds p.dec u)).size = _
      rw [g2]; simp
theorem U6 {l : Nat} {r : Loop} (hl : w.heap[l]? = some (.loop r)) : (Instr.getLoop l).run P w = .ok r w := by
  simp only [Instr.getLoop, Sem.run_bind, Vo hl (by intros; simp), Result.andThen_ok, Sem.run_pure]
theorem Bu (s : SR (CkC P) w₀ K ι h w) {x : Pa} {p : Pl} (hp : ι x = some p) {ex : Ex} {S : Ou → Prop} (hS : RA (F2 x ex h) S) :
    ∃ h' w' u v, S (u, h') ∧ (Instr.endRound p.cb (exOf ex)).run P w = .ok v w' ∧ h'.nx = h.nx ∧ SR (CkC P) w₀ K ι h' w' ∧ VR ι u v := by
  obtain ⟨lo, hlo, hS⟩ := Q0 hS
  cases lo <;> try exact hS.elim
  rename_i fr ps asg body st pend
  obtain ⟨q, o, q1, q2, q3, q4⟩ := s.rw x _ hlo
  rw [hp] at q1; injection q1 with q1; subst q1
  obtain ⟨r, rfl, r1, r2, r3, r4, r5, r6, r7⟩ := q4
  have key : ∀ {st' : LS} {pend' : Ex} {b : Bool} {jump : Option Code}, jump = exOf pend' → (if jump.isNone then LoopState.ready else .done) = stOf st' → jump.isNone = b → RA (ob (R4 x (.loop fr ps asg body st' pend') h) fun h => .one ((.b b, h) : Ou)) S →
      ∃ h' w' u v, S (u, h') ∧ (Instr.endRound p.cb jump).run P w = .ok v w' ∧ h'.nx = h.nx ∧ SR (CkC P) w₀ K ι h' w' ∧ VR ι u v := by
    intro st' pend' b jump hj hst hb hS
    obtain ⟨h', hput, hS⟩ := Q0 hS
    obtain ⟨e1, e2, e3⟩ := Xm hput
    obtain ⟨w', g1, g2⟩ := s.setObj (P := P) (h' := h') (o' := .loop { r with state := if jump.isNone then .ready else .done, pending := jump }) (a' := .loop fr ps asg body st' pend') hlo hp q2 (by intros; simp)
      ⟨_, rfl, hst, hj, r3, r4, r5, r6, r7⟩ e1 e2 e3
    refine ⟨h', w', _, .bool jump.isNone, hS, ?_, e2, g2, by rw [VR, hb]⟩
    simp only [Instr.endRound, Sem.run_bind, U6 q2, Result.andThen_ok, g1, Sem.run_pure]
  cases ex with
  | nm => exact key (st' := .ready) (pend' := .nm) (b := true) rfl rfl rfl hS
  | ex id => exact key (st' := .done) (pend' := .ex id) (b := false) rfl rfl rfl hS
  | rt => exact key (st' := .done) (pend' := .rt) (b := false) rfl rfl rfl hS
theorem Ed {cl : Cl} (hcl : ClS P (CkC P) w₀ cl) (s : SR (CkC P) w₀ K ι h w) {x : Pa} {p : Pl} (hp : ι x = some p) {ar : List AV} {vs : List Value} (hv : VRs ι ar vs) {R : Ending → World → Prop} (hS : RA (yieldE cl x ar h) (B7 (CkC P) w₀ K ι h R)) :
    ∃ l f tmps asg body, (Instr.yield p.cb vs.toArray).run P w = .ok (.round l f tmps asg body) w ∧ RoundIn Fence.wide 0 P l f tmps asg body w R := by
  obtain ⟨lo, hlo, hS⟩ := Q0 hS
  cases lo <;> try exact hS.elim
  rename_i fr ps asg body st pend
  cases st <;> try exact hS.elim
  obtain ⟨fr1, hfr1, hS⟩ := Q0 hS
  obtain ⟨q, o, q1, q2, q3, q4⟩ := s.rw x _ hlo
  rw [hp] at q1; injection q1 with q1; subst q1
  obtain ⟨r, rfl, r1, r2, r3, r4, r5, r6, r7⟩ := q4
  obtain ⟨g1, g2, g3⟩ := Dx hfr1 hv r3 r5
  let tmps1 : Array Value := (r.params.zip vs.toArray).foldl (fun tmps (t, a) => tmps.setIfInBounds t a) r.tmps
  have ht : tmps1 = ((ps.map Pa.dec).zip vs).foldl (fun (tmps : Array Value) (x : Nat × Value) => tmps.setIfInBounds x.1 x.2) r.tmps := by
    show (r.params.zip vs.toArray).foldl (fun tmps (t, a) => tmps.setIfInBounds t a) r.tmps = _
    rw [← Array.foldl_toList, Array.toList_zip, r4]
  have hrun : (Instr.yield p.cb vs.toArray).run P w = .ok (.round p.cb r.fn tmps1 r.assign r.body) w := by
    have hsz : ¬ (vs.toArray.size ≠ r.params.size) := by
      have : r.params.size = ps.length := by have := congrArg List.length r4; simpa using this
      rw [this]; simp [g3]
    simp only [Instr.yield, Sem.run_bind, U6 q2, Result.andThen_ok, if_neg hsz, Sem.run_pure]
    rfl
  refine ⟨p.cb, r.fn, tmps1, r.assign, r.body, hrun, roundIn_of_wpIn trivial ?_⟩
  have hS := Yw hS
  have hf1 : FR ι fr1 tmps1 := by rw [ht]; exact g1
  have hN1 : tmps1.size = r.tmps.size := by rw [ht]; exact g2
  refine Bt (ro := some p.cb) (nf := F1) hcl r6 (a := { tmps := tmps1, defers := [] }) s hf1 hN1 (show MR ι [] [] from rfl) (hS.mono fun so ho ι1 a1 w1 e1 s1 f1 n1 m1 => ?_)
  obtain ⟨ex, fr2, h2, mk2⟩ := so
  cases ex with
  | ex id => exact ho.elim
  | rt => exact ho.elim
  | nm =>
  obtain ⟨lo2, hlo2, ho⟩ := Q0 ho
  cases lo2 <;> try exact ho.elim
  rename_i fr' ps' asg' body' st' pend'
  cases st' <;> try exact ho.elim
  obtain ⟨h3, hput, ho⟩ := Q0 ho
  have ho := Yw ho
  have hp1 := e1.le _ _ hp
  obtain ⟨q', o', k1, k2, k3, k4⟩ := s1.rw x _ hlo2
  rw [hp1] at k1; injection k1 with k1; subst k1
  obtain ⟨r', rfl, t1, t2, t3, t4, t5, t6, t7⟩ := k4
  obtain ⟨d1, d2, d3⟩ := Xm hput
  obtain ⟨w3, b1, b2⟩ := s1.setObj (P := P) (h' := h3) (o' := .loop { r' with state := .busy }) (a' := .loop fr' ps' asg' body' .busy pend') hlo2 hp1 k2 (by intros; simp) ⟨_, rfl, rfl, t2, t3, t4, t5, t6, t7⟩ d1 d2 d3
  have hbegin : (Instr.beginRound p.cb).run P w1 = .ok () w3 := by
    have t1 : r'.state = .ready := t1
    simp only [Instr.beginRound, Sem.run_bind, U6 k2, Result.andThen_ok, b1, t1, Sem.run_pure]
  refine ⟨w3, hbegin, ?_⟩
  have n1 : a1.tmps.size = r.tmps.size := n1
  have m1 : MR ι1 mk2 a1.defers := m1
  have ext3 : Ext h h3 ι ι1 := e1.trans (Ext.same d2)
  refine Bt (ro := some p.cb) (nf := F1) hcl r7 b2 f1 n1 m1 (ho.mono fun so ho ι2 a2 w2 e2 s2 f2 n2 m2 => ?_)
  obtain ⟨ex, fr4, h4, mk4⟩ := so
  obtain ⟨h', w', u, v, y1, y2, y3, y4, y5⟩ := Bu (P := P) s2 (e2.le _ _ hp1) ho
  have hR : R (.returned v) w' := y1 ι2 w' v (ext3.trans (e2.trans (Ext.same y3))) y4 y5
  cases ex with
  | nm => exact ⟨v, w', y2, hR⟩
  | ex id => exact ⟨v, w', y2, hR⟩
  | rt => exact ⟨v, w', y2, hR⟩
def PrS (P : Program) (w₀ : World) (ct : Tr CF) (pr : Pr) : Prop := ∀ (g : Pa) (c : CF) (k : Nat), Q5 g ct = some c → c.pr = k + 1 → ∀ (K : Gd) (ι : Io) (h : H) (w : World) (ar : List AV) (vs : List Value), SR (CkC P) w₀ K ι h w → VRs ι ar vs →
  ∀ R : Ending → World → Prop, RA (pr k ar h) (B7 (CkC P) w₀ K ι h R) → CallsIn Fence.wide 0 P g.dec vs.toArray w R
theorem Da {g : Nat} {fn : Func} {vs : Array Value} (hf : P.funcs[g]? = some fn) (h1 : (fn.name == "runtime.NumGoroutine") = false) (h2 : fn.body.isNone = false) : (callFunc g vs).run P w = .ok (.enter g vs) w := by
  simp only [callFunc, Sem.run_bind, run_program, Result.andThen_ok, hf, h1, h2, Bool.false_eq_true, if_false, Sem.run_pure]
theorem Ee {ct : Tr CF} {pr : Pr} (hct : CtOk P ct) (hpr : PrS P w₀ ct pr) : ∀ n, ClS P (CkC P) w₀ (clE ct pr n)
  | 0 => fun K ι h w ar vs s hv => ⟨fun g R hS => hS.elim, fun x p R hp hS => hS.elim⟩
  | n + 1 => fun K ι h w ar vs s hv => by
    have ih := Ee hct hpr n
    refine ⟨fun g R hS => ?_, fun x p R hp hS => ?_⟩
    · have hS : RA (ob (Q5 g ct) fun c => Nat.casesOn (motive := fun _ => Rs Ou) c.pr (fnE (clE ct pr n) c ar h) (fun k => pr k ar h)) (B7 (CkC P) w₀ K ι h R) := hS
      obtain ⟨c, hc, hS⟩ := Q0 hS
      obtain ⟨fn, f1, f2, f3, f4⟩ := hct.fn g c hc
      refine ⟨Da f1 f2 f3, ?_⟩
      cases hk : c.pr with
      | zero =>
        rw [hk] at hS
        exact Ec ih s f1 (f4 hk) hv hS
      | succ k =>
        rw [hk] at hS
        exact hpr g c k hc hk K ι h w ar vs s hv R hS
    · have hS : RA (yieldE (clE ct pr n) x ar h) (B7 (CkC P) w₀ K ι h R) := hS
      exact Ed ih s hp hv hS
end
end Go.Ev
namespace Go.Ev
open Go.RowKit
theorem SR.start {P : Program} (W : World) (nx : Pa) : SR (CkC P) W (fun c => W.heap[c]?) (fun _ => none) ⟨.e, .e, nx⟩ W :=
  have none : ∀ (x : Pa) (a : AO), Q5 x (.e : Tr AO) ≠ some a := fun x a hx => by rw [Xi] at hx; cases hx
  have noneS : ∀ (x : Pa), (Q5 x (.e : Tr AO)).isSome ≠ true := fun x hx => by rw [Xi] at hx; cases hx
  ⟨rfl, rfl, rfl, fun c o h => h, fun x a hx => absurd hx (none x a), fun x a hx => absurd hx (none x a), fun x y p q hx => absurd hx (noneS x), fun x y p q hx => absurd hx (noneS x), fun _ _ => rfl, fun x p h => (by cases h), fun x y p q h => (by cases h)⟩
theorem SR.below {P : Program} {W w : World} {ι : Io} {h : H} (s : SR (CkC P) W (fun c => W.heap[c]?) ι h w) : Below W.heap.size W w := by
  refine ⟨s.os, s.tape, s.output, ?_, fun k hk => ?_⟩
  · rcases Nat.lt_or_ge w.heap.size W.heap.size with hlt | hge
    · have hk : w.heap.size < W.heap.size := hlt
      have := s.gd w.heap.size W.heap[w.heap.size] (by simp [hk])
      have := (Array.getElem?_eq_some_iff.1 this).1
      omega
    · exact hge
  · have := s.gd k W.heap[k] (by simp [hk])
    rw [this]; simp [hk]
theorem run_of {P : Program} {W : World} {g : Nat} {vs : List Value} {nx : Pa} {X : Rs Ou} (hc : ∀ R : Ending → World → Prop, RA X (B7 (CkC P) W (fun c => W.heap[c]?) (fun _ => none) ⟨.e, .e, nx⟩ R) → CallsIn Fence.wide 0 P g vs.toArray W R) {S : AV → Prop}
    (hS : RA X fun o => S o.1) {R : Value → Prop} (hR : ∀ ι u v, S u → VR ι u v → R v) : Calls P g vs.toArray W fun e W' => (∃ v, e = .returned v ∧ R v) ∧ Below W.heap.size W W' :=
  callsIn_wide.1 (hc (fun e W' => (∃ v, e = .returned v ∧ R v) ∧ Below W.heap.size W W') (hS.mono fun o ho ι' w' v he hs hvr => ⟨⟨v, rfl, hR ι' o.1 v ho hvr⟩, hs.below⟩))
theorem run_sound {P : Program} {ct : Tr CF} {pr : Pr} (hct : CtOk P ct) (W : World) (hpr : PrS P W ct pr) {n : Nat} {g : Pa} {c : CF} {fn : Func} (hf : P.funcs[g.dec]? = some fn) (hok : CfOk P c fn) {ar : List AV} {vs : List Value} {nx : Pa} (hv : VRs (fun _ => none) ar vs) {S : AV → Prop}
    (hS : RA (fnE (clE ct pr n) c ar ⟨.e, .e, nx⟩) fun o => S o.1) {R : Value → Prop} (hR : ∀ ι u v, S u → VR ι u v → R v) :
    Calls P g.dec vs.toArray W fun e W' => (∃ v, e = .returned v ∧ R v) ∧ Below W.heap.size W W' :=
  run_of (fun R h => Ec (Ee hct hpr n) (SR.start W nx) hf hok hv h) hS hR
end Go.Ev
namespace Go.Ev
open Go.RowKit
section
variable {P : Program} {Ck : CkT} {w₀ w w' : World} {K : Gd} {ι : Io} {h : H}
theorem SR.leave (s : SR Ck w₀ K ι h w) (hb : Below w.heap.size w w') : SR Ck w₀ K ι h w' := by
  have blk : ∀ {k : Nat} {o : Obj}, w.heap[k]? = some o → w'.heap[k]? = some o := fun {k o} hk => by
    rw [hb.block k (Array.getElem?_eq_some_iff.1 hk).1]; exact hk
  refine ⟨hb.os.trans s.os, hb.tape.trans s.tape, hb.output.trans s.output, fun c o hc => blk (s.gd c o hc), ?_, s.ro, s.inj, s.injo, s.new, fun x p hx => Nat.lt_of_lt_of_le (s.lt x p hx) hb.size, s.one⟩
  intro x a hx
  obtain ⟨p, o, h1, h2, h3, h4⟩ := s.rw x a hx
  exact ⟨p, o, h1, blk h2, h3, h4⟩
theorem SR.row (s : SR Ck w₀ K ι h w) {x : Pa} {o n c : Nat} {ex : Bool} {v : Value} {l : List AV} (hv : VR ι (.sl x o n c ex 1) v) (hr : rdE x o n h = some l) :
    ∃ A c' us, v = .slice A n c' ∧ n ≤ c' ∧ c' ≤ maxLen ∧ VRs ι l us ∧ us.length = n ∧ (0 < n → ∃ b off, A = some ⟨b, off, none⟩ ∧ b < w.heap.size ∧ ∀ (j : Nat) u, us[j]? = some u → w.cell? ⟨b, off + j, none⟩ = some u) := by
  rw [VR] at hv
  obtain ⟨p, off, c', h1, rfl, ⟨h2, h3⟩, h4, h5, h6, h7⟩ := hv
  obtain ⟨q, us, g1, g2, g3, g4⟩ := s.cells hr
  rw [h1] at g1; injection g1 with g1; subst g1
  refine ⟨_, c', us, rfl, Nat.le_trans h4 h2, h3, g2, g3, fun hn => ⟨p.cb, off, rfl, s.lt x p h1, fun j u hu => ?_⟩⟩
  rcases h7 with rfl | ⟨h7, _⟩
  · exact g4 j u hu
  · omega
end
theorem Ef {α β : Type} {f : α → Option β} {a : α} {l : List α} {r : List β} (h : Gq f (a :: l) = some r) : ∃ b s, f a = some b ∧ Gq f l = some s ∧ r = b :: s := by
  obtain ⟨b, h1, h⟩ := Qa (x := f a) h
  obtain ⟨s, h2, h⟩ := Qa (x := Gq f l) h
  injection h with h
  exact ⟨b, s, h1, h2, h.symm⟩
theorem ofU8_ok {a : AV} {n : Nat} (h : ofU8 a = some n) : a = .i .u8 (n : Int) ∧ n < 256 := by
  unfold ofU8 at h
  split at h
  · rename_i m
    obtain ⟨k, h1, h⟩ := Qa h
    cases m with
    | ofNat m =>
      have h1 : some m = some k := h1
      injection h1 with h1; subst h1
      cases hb : Nat.blt m 256 with
      | false => rw [hb] at h; cases h
      | true =>
        rw [hb] at h
        have h : some m = some n := h
        injection h with h; subst h
        rw [Nat.blt_eq] at hb
        exact ⟨rfl, hb⟩
    | negSucc m => cases h1
  · cases h
theorem Hl {ι : Io} : ∀ {l : List AV} {ns : List Nat} {us : List Value}, Gq ofU8 l = some ns → VRs ι l us → us = ns.map (fun n => Value.int .u8 ((UInt8.ofNat n).toNat : Int)) ∧ ∀ n ∈ ns, n < 256
  | [], ns, us, h, hv => by
    have h : some [] = some ns := h
    injection h with h; subst h
    rw [VRs] at hv; subst hv
    exact ⟨rfl, fun n hn => by simp at hn⟩
  | a :: l, ns, us, h, hv => by
    obtain ⟨n, ms, h1, h2, rfl⟩ := Ef h
    obtain ⟨rfl, hn⟩ := ofU8_ok h1
    rw [VRs] at hv
    obtain ⟨v, vs, rfl, e1, e2⟩ := hv
    rw [VR] at e1; subst e1
    obtain ⟨i1, i2⟩ := Hl h2 e2
    refine ⟨by rw [List.map_cons, i1]; congr 2; simp [Nat.mod_eq_of_lt hn], fun k hk => ?_⟩
    simp at hk
    rcases hk with rfl | hk
    · exact hn
    · exact i2 k hk
theorem strs_of {ι : Io} : ∀ {l : List AV} {ns : List (List Nat)} {us : List Value}, Gq asS l = some ns → VRs ι l us → us = ns.map (fun s => Value.string (Xa s)) ∧ ∀ s ∈ ns, ∀ b ∈ s, b < 256
  | [], ns, us, h, hv => by
    have h : some [] = some ns := h
    injection h with h; subst h
    rw [VRs] at hv; subst hv
    exact ⟨rfl, fun n hn => by simp at hn⟩
  | a :: l, ns, us, h, hv => by
    obtain ⟨n, ms, h1, h2, rfl⟩ := Ef h
    have ha : a = .s n := by
      unfold asS at h1
      split at h1
      · injection h1 with h1; subst h1; rfl
      · cases h1
    subst ha
    rw [VRs] at hv
    obtain ⟨v, vs, rfl, e1, e2⟩ := hv
    rw [VR] at e1
    obtain ⟨rfl, hb⟩ := e1
    obtain ⟨i1, i2⟩ := strs_of h2 e2
    refine ⟨by rw [List.map_cons, i1], fun k hk => ?_⟩
    simp at hk
    rcases hk with rfl | hk
    · exact hb
    · exact i2 k hk
theorem Hm : ∀ {tb : Mm} {l r : List Nat}, findM tb l = some r → (l, r) ∈ tb
  | [], l, r, h => by cases h
  | e :: tb, l, r, h => by
    have h : Vd (eqL e.1 l) (some e.2) (findM tb l) = some r := h
    cases hb : eqL e.1 l with
    | false => rw [hb] at h; exact List.mem_cons_of_mem _ (Hm h)
    | true =>
      rw [hb] at h
      have h : some e.2 = some r := h
      injection h with h
      rw [F6] at hb; have hb := eq_of_beq hb
      rw [← hb, ← h]; simp
theorem ag_bytes {ι : Io} {r : List Nat} (hr : ∀ b ∈ r, b < 256) : VR ι (.ag (lf [] (fun b _ ih => AV.i .u8 (.ofNat b) :: ih) r)) (.agg (r.map fun n => Value.int .u8 ((UInt8.ofNat n).toNat : Int)).toArray) := by
  rw [VR]
  refine ⟨_, rfl, ?_⟩
  have key : ∀ r : List Nat, (∀ b ∈ r, b < 256) → VRs ι (lf [] (fun b _ ih => AV.i .u8 (.ofNat b) :: ih) r) (r.map fun n => Value.int .u8 ((UInt8.ofNat n).toNat : Int)) := by
    intro r
    induction r with
    | nil => intro _; show VRs ι [] []; rw [VRs]
    | cons b r ih =>
      intro hr
      show VRs ι (AV.i .u8 (.ofNat b) :: lf [] (fun b _ ih => AV.i .u8 (.ofNat b) :: ih) r) _
      rw [VRs]
      refine ⟨_, _, rfl, ?_, ih fun k hk => hr k (by simp [hk])⟩
      rw [VR]
      congr 1
      have := hr b (by simp)
      simp [Nat.mod_eq_of_lt this]
  simpa using key r hr
end Go.Ev
namespace Go.Ev
noncomputable section
section
variable {P : Program} {t : TypeId}
def Xb (P : Program) (t : TypeId) (f : TypeDesc → Bool) : Bool := match P.underlying t with | some d => f d | none => false
theorem V9 {f : TypeDesc → Bool} (h : Xb P t f = true) : ∃ d, P.underlying t = some d ∧ f d = true := by
  unfold Xb at h
  cases hu : P.underlying t with
  | none => rw [hu] at h; cases h
  | some d => rw [hu] at h; exact ⟨d, rfl, h⟩
def cSz (P : Program) (t : TypeId) (f : Nat → Bool) : Bool := match P.info? t with | some i => f i.size | none => false
theorem Eg {f : Nat → Bool} (h : cSz P t f = true) : ∃ z, SZ P t z ∧ f z = true := by
  unfold cSz at h
  unfold SZ
  cases hu : P.info? t with
  | none => rw [hu] at h; cases h
  | some d => rw [hu] at h; exact ⟨_, rfl, h⟩
def cBy (P : Program) (t : TypeId) (f : Nat → Bool) : Bool := match P.info? t with | some i => f i.bytes | none => false
theorem cBy_ok {f : Nat → Bool} (h : cBy P t f = true) : ∃ z, BY P t z ∧ f z = true := by
  unfold cBy at h
  unfold BY
  cases hu : P.info? t with
  | none => rw [hu] at h; cases h
  | some d => rw [hu] at h; exact ⟨_, rfl, h⟩
def cZr (P : Program) (t : TypeId) (f : Value → Bool) : Bool := match (P.info? t).bind (·.zero) with | some v => f v | none => false
theorem Rw {f : Value → Bool} (h : cZr P t f = true) : ∃ v, ZR P t v ∧ f v = true := by
  unfold cZr at h
  unfold ZR
  cases hu : (P.info? t).bind (·.zero) with
  | none => rw [hu] at h; cases h
  | some d => rw [hu] at h; exact ⟨_, rfl, h⟩
theorem Fj {z : Nat} (h : cSz P t (Nat.beq z) = true) : SZ P t z := by
  obtain ⟨y, h1, h2⟩ := Eg h
  rw [Nat.eq_of_beq_eq_true h2]; exact h1
def Ep (f : TypeId → Bool) (d : TypeDesc) : Bool := match d with | .slice e => f e | _ => false
theorem isSl_ok {f : TypeId → Bool} {d : TypeDesc} (h : Ep f d = true) : ∃ e, d = .slice e ∧ f e = true := by cases d <;> first | exact ⟨_, rfl, h⟩ | cases h
def isMp (f : TypeId → TypeId → Bool) (d : TypeDesc) : Bool := match d with | .map k e => f k e | _ => false
theorem isMp_ok {f : TypeId → TypeId → Bool} {d : TypeDesc} (h : isMp f d = true) : ∃ k e, d = .map k e ∧ f k e = true := by cases d <;> first | exact ⟨_, _, rfl, h⟩ | cases h
def isAr (f : Nat → TypeId → Bool) (d : TypeDesc) : Bool := match d with | .array n e => f n e | _ => false
theorem isAr_ok {f : Nat → TypeId → Bool} {d : TypeDesc} (h : isAr f d = true) : ∃ n e, d = .array n e ∧ f n e = true := by cases d <;> first | exact ⟨_, _, rfl, h⟩ | cases h
def isPt (f : TypeId → Bool) (d : TypeDesc) : Bool := match d with | .pointer e => f e | _ => false
theorem isPt_ok {f : TypeId → Bool} {d : TypeDesc} (h : isPt f d = true) : ∃ e, d = .pointer e ∧ f e = true := by cases d <;> first | exact ⟨_, rfl, h⟩ | cases h
def isSt (f : Array Field → Bool) (d : TypeDesc) : Bool := match d with | .struct fs => f fs | _ => false
theorem isSt_ok {f : Array Field → Bool} {d : TypeDesc} (h : isSt f d = true) : ∃ fs, d = .struct fs ∧ f fs = true := by cases d <;> first | exact ⟨_, rfl, h⟩ | cases h
def isIn (f : IntKind → Bool) (d : TypeDesc) : Bool := match d with | .int k => f k | _ => false
theorem isIn_ok {f : IntKind → Bool} {d : TypeDesc} (h : isIn f d = true) : ∃ k, d = .int k ∧ f k = true := by cases d <;> first | exact ⟨_, rfl, h⟩ | cases h
def isTx (d : TypeDesc) : Bool := match d with | .string => true | _ => false
theorem isTx_ok {d : TypeDesc} (h : isTx d = true) : d = .string := by cases d <;> first | rfl | cases h
def isBo (d : TypeDesc) : Bool := match d with | .bool => true | _ => false
theorem isBo_ok {d : TypeDesc} (h : isBo d = true) : d = .bool := by cases d <;> first | rfl | cases h
def isIf (d : TypeDesc) : Bool := match d with | .interface _ => true | _ => false
theorem isIf_ok {d : TypeDesc} (h : isIf d = true) : ∃ m, d = .interface m := by cases d <;> first | exact ⟨_, rfl⟩ | cases h
theorem notIf {d : TypeDesc} (h : isIf d = false) : ∀ ms, d ≠ .interface ms := by intro ms e; subst e; cases h
def isFn (d : TypeDesc) : Bool := match d with | .func .. => true | _ => false
theorem isFn_ok {d : TypeDesc} (h : isFn d = true) : ∃ a b c, d = .func a b c := by cases d <;> first | exact ⟨_, _, _, rfl⟩ | cases h
def isIt (d : TypeDesc) : Bool := match d with | .int _ => true | _ => false
def isU8 (d : TypeDesc) : Bool := match d with | .int .u8 => true | _ => false
theorem isU8_ok {d : TypeDesc} (h : isU8 d = true) : d = .int .u8 := by
  cases d with
  | int k => cases k <;> first | rfl | cases h
  | _ => cases h
theorem cTx (h : Xb P t isTx = true) : P.underlying t = some .string := by obtain ⟨d, h1, h2⟩ := V9 h; rw [h1, isTx_ok h2]
theorem cBo (h : Xb P t isBo = true) : P.underlying t = some .bool := by obtain ⟨d, h1, h2⟩ := V9 h; rw [h1, isBo_ok h2]
theorem cU8 (h : Xb P t isU8 = true) : P.underlying t = some (.int .u8) := by obtain ⟨d, h1, h2⟩ := V9 h; rw [h1, isU8_ok h2]
theorem cSl {f : TypeId → Bool} (h : Xb P t (Ep f) = true) : ∃ e, P.underlying t = some (.slice e) ∧ f e = true := by
  obtain ⟨d, h1, h2⟩ := V9 h
  obtain ⟨e, rfl, h3⟩ := isSl_ok h2
  exact ⟨e, h1, h3⟩
theorem cMp {f : TypeId → TypeId → Bool} (h : Xb P t (isMp f) = true) : ∃ k e, P.underlying t = some (.map k e) ∧ f k e = true := by
  obtain ⟨d, h1, h2⟩ := V9 h
  obtain ⟨k, e, rfl, h3⟩ := isMp_ok h2
  exact ⟨k, e, h1, h3⟩
theorem cAr {f : Nat → TypeId → Bool} (h : Xb P t (isAr f) = true) : ∃ n e, P.underlying t = some (.array n e) ∧ f n e = true := by
  obtain ⟨d, h1, h2⟩ := V9 h
  obtain ⟨k, e, rfl, h3⟩ := isAr_ok h2
  exact ⟨k, e, h1, h3⟩
theorem cPt {f : TypeId → Bool} (h : Xb P t (isPt f) = true) : ∃ e, P.underlying t = some (.pointer e) ∧ f e = true := by
  obtain ⟨d, h1, h2⟩ := V9 h
  obtain ⟨e, rfl, h3⟩ := isPt_ok h2
  exact ⟨e, h1, h3⟩
theorem cSt {f : Array Field → Bool} (h : Xb P t (isSt f) = true) : ∃ fs, P.underlying t = some (.struct fs) ∧ f fs = true := by
  obtain ⟨d, h1, h2⟩ := V9 h
  obtain ⟨e, rfl, h3⟩ := isSt_ok h2
  exact ⟨e, h1, h3⟩
theorem cIn {f : IntKind → Bool} (h : Xb P t (isIn f) = true) : ∃ k, P.underlying t = some (.int k) ∧ f k = true := by
  obtain ⟨d, h1, h2⟩ := V9 h
  obtain ⟨e, rfl, h3⟩ := isIn_ok h2
  exact ⟨e, h1, h3⟩
end
def Rx {α β : Type} (f : α → β → Bool) : List α → List β → Bool
  | [], m => (match m with | [] => true | _ :: _ => false)
  | a :: l, m => (match m with | [] => false | b :: m => f a b && Rx f l m)
theorem J6 {α β : Type} {f : α → β → Bool} {m : List β} (h : Rx f [] m = true) : m = [] := by cases m with | nil => rfl | cons b m => cases h
theorem Ja {α β : Type} {f : α → β → Bool} {a : α} {l : List α} {m : List β} (h : Rx f (a :: l) m = true) : ∃ b r, m = b :: r ∧ f a b = true ∧ Rx f l r = true := by
  cases m with
  | nil => cases h
  | cons b m =>
    have h : (f a b && Rx f l m) = true := h
    rw [Bool.and_eq_true] at h
    exact ⟨b, m, rfl, h.1, h.2⟩
def cBytes (l : List Nat) (b : ByteArray) : Bool := Rx (fun n x => Nat.beq n x.toNat && Nat.blt n 256) l b.data.toList
theorem cBytes_ok {l : List Nat} {b : ByteArray} (h : cBytes l b = true) : b = Xa l ∧ ∀ n ∈ l, n < 256 := by
  have key : ∀ {l : List Nat} {m : List UInt8}, Rx (fun n (x : UInt8) => Nat.beq n x.toNat && Nat.blt n 256) l m = true → m = l.map UInt8.ofNat ∧ ∀ n ∈ l, n < 256 := by
    intro l
    induction l with
    | nil => intro m h; exact ⟨J6 h, fun n hn => by simp at hn⟩
    | cons n l ih =>
      intro m h
      obtain ⟨x, r, rfl, h1, h2⟩ := Ja h
      obtain ⟨i1, i2⟩ := ih h2
      rw [Bool.and_eq_true] at h1
      have e1 := Nat.eq_of_beq_eq_true h1.1
      have e2 : n < 256 := by have := h1.2; rw [Nat.blt_eq] at this; exact this
      refine ⟨by rw [i1, e1]; simp, fun k hk => ?_⟩
      simp at hk
      rcases hk with rfl | hk
      · exact e2
      · exact i2 k hk
  obtain ⟨h1, h2⟩ := key h
  refine ⟨?_, h2⟩
  obtain ⟨⟨d⟩⟩ := b
  have h1 : d = l.map UInt8.ofNat := h1
  rw [h1]; rfl
def cV : Nat → AV → Value → Bool
  | 0, _, _ => false
  | n + 1, a, v => match a with
    | .b x => (match v with | .bool y => bEq x y | _ => false)
    | .i k m => (match v with | .int k' m' => kEq k k' && eqI m m' | _ => false)
    | .s l => (match v with | .string b => cBytes l b | _ => false)
    | .pn => (match v with | .pointer none => true | _ => false)
    | .sln => (match v with | .slice none x y => Nat.beq x 0 && Nat.beq y 0 | _ => false)
    | .mn => (match v with | .map none => true | _ => false)
    | .fn0 => (match v with | .nilFunc => true | _ => false)
    | .ifn => (match v with | .nilIface => true | _ => false)
    | .f g a c => (match v with | .func (.func f) A C => Nat.beq g.dec f && (Rx (cV n) a A.toList && Rx (cV n) c C.toList) | _ => false)
    | .ag l => (match v with | .agg A => Rx (cV n) l A.toList | _ => false)
    | .tu l => (match v with | .tuple A => Rx (cV n) l A.toList | _ => false)
    | _ => false
theorem Uv {f : AV → Value → Bool} (hf : ∀ a v, f a v = true → ∀ ι, VR ι a v) : ∀ {l : List AV} {m : List Value}, Rx f l m = true → ∀ ι, VRs ι l m
  | [], m, h, ι => by rw [VRs]; exact J6 h
  | a :: l, m, h, ι => by
    obtain ⟨b, r, h0, h1, h2⟩ := Ja h
    rw [VRs]
    exact ⟨b, r, h0, hf a b h1 ι, Uv hf h2 ι⟩
theorem Uw {x y : Bool} (h : bEq x y = true) : x = y := by cases x <;> cases y <;> first | rfl | cases h
theorem cV_ok : ∀ (n : Nat) (a : AV) (v : Value), cV n a v = true → ∀ ι, VR ι a v
  | 0, _, _, h => by cases h
  | n + 1, a, v, h => fun ι => by
    have ih := cV_ok n
    cases a <;> try (cases h; done)
    all_goals cases v <;> try (cases h; done)
    · have h := Uw h; subst h; rw [VR]
    · have h : (kEq _ _ && eqI _ _) = true := h
      rw [Bool.and_eq_true, Rf] at h
      have h1 := Jx h.1
      have h2 := eq_of_beq h.2
      subst h1; subst h2; rw [VR]
    · have h := cBytes_ok h
      rw [VR]
      exact ⟨by rw [h.1], h.2⟩
    · rename_i a
      cases a <;> first | (cases h; done) | rw [VR]
    · rename_i a x y
      cases a <;> try (cases h; done)
      have h : (Nat.beq x 0 && Nat.beq y 0) = true := h
      rw [Bool.and_eq_true] at h
      have h1 := Nat.eq_of_beq_eq_true h.1
      have h2 := Nat.eq_of_beq_eq_true h.2
      subst h1; subst h2; rw [VR]
    · rename_i a
      cases a <;> first | (cases h; done) | rw [VR]
    · rename_i g a c f A C
      cases f <;> try (cases h; done)
      have h : (Nat.beq g.dec _ && (Rx (cV n) a A.toList && Rx (cV n) c C.toList)) = true := h
      rw [Bool.and_eq_true, Bool.and_eq_true] at h
      have h1 := Nat.eq_of_beq_eq_true h.1
      subst h1
      rw [VR]
      exact ⟨A, C, rfl, Uv ih h.2.1 ι, Uv ih h.2.2 ι⟩
    · rw [VR]
    · rw [VR]
    · rw [VR]; exact ⟨_, rfl, Uv ih h ι⟩
    · rw [VR]; exact ⟨_, rfl, Uv ih h ι⟩
def cVal (a : AV) (v : Value) : Bool := cV 8 a v
theorem Ry {a : AV} {v : Value} (h : cVal a v = true) : ∀ ι, VR ι a v := cV_ok 8 a v h
def cVals (l : List AV) (v : Value) : Bool := Rx cVal l v.cells.toList
theorem Bv {l : List AV} {v : Value} (h : cVals l v = true) : ∀ ι, VRs ι l v.cells.toList := Uv (fun a v h => Ry h) h
def cOd (x : Od) (X : Operand) : Bool := match x with
  | .t p => (match X with | .tmp t => Nat.beq p.dec t | _ => false)
  | .c a => (match X with | .const v => cVal a v | .func f => cVal a (.func (.func f) #[] #[]) | _ => false)
theorem Q4 {x : Od} {X : Operand} (h : cOd x X = true) : OdR x X := by
  cases x with
  | t p => cases X <;> first | (cases h; done) | exact Nat.eq_of_beq_eq_true h
  | c a => cases X <;> first | (cases h; done) | exact Ry h
def cOds (l : List Od) (L : List Operand) : Bool := Rx cOd l L
theorem U7 : ∀ {l : List Od} {L : List Operand}, cOds l L = true → OdsR l L
  | [], L, h => J6 h
  | x :: l, L, h => by
    obtain ⟨b, r, h0, h1, h2⟩ := Ja h
    exact ⟨b, r, h0, Q4 h1, U7 h2⟩
def cOpt (x : Option Od) (X : Option Operand) : Bool := match x with
  | none => (match X with | none => true | some _ => false)
  | some x => (match X with | some X => cOd x X | none => false)
theorem J7 {x : Option Od} {X : Option Operand} (h : cOpt x X = true) : H3 x X := by
  cases x with
  | none => cases X <;> first | rfl | cases h
  | some x => cases X <;> first | (cases h; done) | exact ⟨_, rfl, Q4 h⟩
def cPs (pl : Nat → Nat → Nat → Bool) (n : Nat) (l : List (Nat × Nat × Od)) (L : List (Nat × Operand)) : Bool := Rx (fun p q => pl q.1 p.1 p.2.1 && (Nat.ble (p.1 + p.2.1) n && cOd p.2.2 q.2)) l L
theorem Eh {pl : Nat → Nat → Nat → Bool} {place : Nat → Nat → Nat → Prop} {n : Nat} (hp : ∀ i a b, pl i a b = true → place i a b) : ∀ {l : List (Nat × Nat × Od)} {L : List (Nat × Operand)}, cPs pl n l L = true → PsR place n l L
  | [], L, h => J6 h
  | p :: l, L, h => by
    obtain ⟨q, r, h0, h1, h2⟩ := Ja h
    rw [Bool.and_eq_true, Bool.and_eq_true] at h1
    exact ⟨q.1, q.2, r, h0, hp _ _ _ h1.1, Nat.le_of_ble_eq_true h1.2.1, Q4 h1.2.2, Eh hp h2⟩
def nth {α : Type} : List α → Nat → Option α
  | [], _ => none
  | a :: l, i => (match i with | 0 => some a | i + 1 => nth l i)
theorem Hn {α : Type} : ∀ (l : List α) (i : Nat), nth l i = l[i]?
  | [], i => by simp [nth]
  | a :: l, 0 => rfl
  | a :: l, i + 1 => by rw [List.getElem?_cons_succ]; exact Hn l i
theorem nthA {α : Type} {l : Array α} {i : Nat} {x : α} (h : nth l.toList i = some x) : l[i]? = some x := by rw [Hn] at h; simpa using h
def cFd (fs : Array Field) (i : Nat) (f : Field → Bool) : Bool := match nth fs.toList i with | some x => f x | none => false
theorem cFd_ok {fs : Array Field} {i : Nat} {f : Field → Bool} (h : cFd fs i f = true) : ∃ x, fs[i]? = some x ∧ f x = true := by
  unfold cFd at h
  cases hn : nth fs.toList i with
  | none => rw [hn] at h; cases h
  | some x => rw [hn] at h; exact ⟨x, nthA hn, h⟩
def cStPl (P : Program) (fs : Array Field) (i off sz : Nat) : Bool := cFd fs i fun f => Nat.beq f.offset off && cSz P f.type (Nat.beq sz)
theorem cStPl_ok {P : Program} {fs : Array Field} (i off sz : Nat) (h : cStPl P fs i off sz = true) : StPl P fs i off sz := by
  obtain ⟨f, h1, h2⟩ := cFd_ok h
  rw [Bool.and_eq_true] at h2
  exact ⟨f, h1, Nat.eq_of_beq_eq_true h2.1, Fj h2.2⟩
def cArPl (z i off sz : Nat) : Bool := Nat.beq off (i * z) && Nat.beq sz z
theorem Bw {z : Nat} (i off sz : Nat) (h : cArPl z i off sz = true) : ArPl z i off sz := by
  unfold cArPl at h
  rw [Bool.and_eq_true] at h
  exact ⟨Nat.eq_of_beq_eq_true h.1, Nat.eq_of_beq_eq_true h.2⟩
def cKy (P : Program) (kt : TypeId) (g : Tg0) : Bool := match g with
  | .n => Xb P kt (isIn fun _ => true)
  | .x => Xb P kt isTx
  | .b => Xb P kt isBo
  | .g n => Xb P kt (isAr fun m e => Nat.beq m n && (cSz P e (Nat.beq 1) && Xb P e scalB))
  | _ => false
theorem Dy {P : Program} {kt : TypeId} {g : Tg0} (h : cKy P kt g = true) : Bk P kt g := by
  cases g <;> try (cases h; done)
  · exact cTx h
  · exact cBo h
  · obtain ⟨k, h1, _⟩ := cIn h; exact ⟨k, h1⟩
  · obtain ⟨m, e, h1, h2⟩ := cAr h
    rw [Bool.and_eq_true, Bool.and_eq_true] at h2
    obtain ⟨d, h3, h4⟩ := V9 h2.2.2
    have := Nat.eq_of_beq_eq_true h2.1
    subst this
    exact ⟨e, d, h1, Fj h2.2.1, h3, h4⟩
def cEq (P : Program) (t : TypeId) (g : Tg0) : Bool := match g with
  | .b => Xb P t isBo
  | .p => Xb P t (isPt fun e => cSz P e fun z => Y2 (Nat.beq z 0))
  | .s => Xb P t (Ep fun _ => true)
  | .m => Xb P t (isMp fun _ _ => true)
  | .f => Xb P t isFn
  | .i => Xb P t isIf
  | _ => true
theorem notB0 {z : Nat} (h : Y2 (Nat.beq z 0) = true) : z ≠ 0 := by intro e; subst e; cases h
theorem cEq_ok {P : Program} {t : TypeId} {g : Tg0} (h : cEq P t g = true) : EqOk P t g := by
  cases g <;> try exact trivial
  · exact cBo h
  · obtain ⟨e, h1, h2⟩ := cPt h
    obtain ⟨z, h3, h4⟩ := Eg h2
    exact ⟨e, z, h1, h3, notB0 h4⟩
  · obtain ⟨e, h1, _⟩ := cSl h; exact ⟨e, h1⟩
  · obtain ⟨k, e, h1, _⟩ := cMp h; exact ⟨k, e, h1⟩
  · obtain ⟨d, h1, h2⟩ := V9 h; obtain ⟨a, b, c, rfl⟩ := isFn_ok h2; exact ⟨a, b, c, h1⟩
  · obtain ⟨d, h1, h2⟩ := V9 h; obtain ⟨m, rfl⟩ := isIf_ok h2; exact ⟨m, h1⟩
def cLn (P : Program) (t : TypeId) (g : Tg0) : Bool := match g with
  | .x => Xb P t isTx | .s => Xb P t (Ep fun _ => true) | .m => Xb P t (isMp fun _ _ => true) | _ => false
theorem cLn_ok {P : Program} {t : TypeId} {g : Tg0} (h : cLn P t g = true) : LnOk P t g := by
  cases g <;> try (cases h; done)
  · exact cTx h
  · obtain ⟨e, h1, _⟩ := cSl h; exact ⟨e, h1⟩
  · obtain ⟨k, e, h1, _⟩ := cMp h; exact ⟨k, e, h1⟩
def cLd (P : Program) (t : TypeId) (n : Option Nat) : Bool := Xb P t fun d => match n with | none => Y2 (F7 d) | some z => F7 d && cSz P t (Nat.beq z)
theorem Zv {b : Bool} (h : Y2 b = true) : b = false := by cases b <;> first | rfl | cases h
theorem cLd_ok {P : Program} {t : TypeId} {n : Option Nat} (h : cLd P t n = true) : ∃ d, P.underlying t = some d ∧ LdOk P t d n := by
  obtain ⟨d, h1, h2⟩ := V9 h
  refine ⟨d, h1, ?_⟩
  cases n with
  | none => exact Zv h2
  | some z =>
    have h2 : (F7 d && cSz P t (Nat.beq z)) = true := h2
    rw [Bool.and_eq_true] at h2
    exact ⟨h2.1, Fj h2.2⟩
def noG (k : Tg0) : Bool := match k with | .g _ => false | _ => true
def cFlds (P : Program) : Nat → List Tg0 → List Field → Bool
  | _, [], l => (match l with | [] => true | _ :: _ => false)
  | i, k :: ks, l => (match l with | f :: r => decide (f.name ≠ "_") && (Nat.beq f.offset i && (cKy P f.type k && (noG k && cFlds P (i + 1) ks r))) | [] => false)
theorem Ho {P : Program} : ∀ {ks : List Tg0} {i : Nat} {l : List Field}, cFlds P i ks l = true → FldOk P i ks l
  | [], i, l, h => by cases l <;> first | rfl | cases h
  | k :: ks, i, l, h => by
    cases l with
    | nil => cases h
    | cons f r =>
      have h : (decide (f.name ≠ "_") && (Nat.beq f.offset i && (cKy P f.type k && (noG k && cFlds P (i + 1) ks r)))) = true := h
      simp only [Bool.and_eq_true] at h
      obtain ⟨h1, h2, h3, h4, h5⟩ := h
      exact ⟨f, r, rfl, of_decide_eq_true h1, Nat.eq_of_beq_eq_true h2, Dy h3, (fun n e => by subst e; cases h4), Ho h5⟩
end
end Go.Ev
