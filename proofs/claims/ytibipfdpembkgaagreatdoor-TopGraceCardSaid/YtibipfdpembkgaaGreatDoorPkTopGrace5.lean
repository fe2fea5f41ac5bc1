import Derived.Test.YtibipfdpembkgaaGreatDoorPkTopGrace4
set_option linter.unusedSimpArgs false
set_option linter.unusedVariables false
set_option linter.unusedSectionVars false
set_option maxRecDepth 100000
set_option maxHeartbeats 40000000
namespace Go.Ev
noncomputable section
structure Kn where
  eq : List Nat
  tb : List (String × Nat × Pa × Option (Option Nat))
def Id (P : Program) (E : Kn) : Prop := (∀ t ∈ E.eq, P.stoodInHeld t = false ∧ P.eqGuardType P.depth t = false) ∧ ∀ e ∈ E.tb, TblOk P e.1 e.2
def cBin (a b : BinOp) : Bool := Nat.beq a.ctorIdx b.ctorIdx
theorem cBin_ok {a b : BinOp} (h : cBin a b = true) : a = b := by cases a <;> cases b <;> first | rfl | cases h
def cUn (a b : UnOp) : Bool := Nat.beq a.ctorIdx b.ctorIdx
theorem cUn_ok {a b : UnOp} (h : cUn a b = true) : a = b := by cases a <;> cases b <;> first | rfl | cases h
def yes (_ : TypeDesc) : Bool := true
def Ub (t : Nat) (l : List Nat) : Bool := Hx t l
theorem Ei {t : Nat} : ∀ {l : List Nat}, Hx t l = true → t ∈ l
  | [], h => by cases h
  | a :: l, h => by
    have h : orB (Nat.beq a t) (Hx t l) = true := h
    cases hb : Nat.beq a t with
    | true => rw [Nat.eq_of_beq_eq_true hb]; simp
    | false => rw [hb] at h; exact List.mem_cons_of_mem _ (Ei h)
def cBlt (c : Call) (f : Builtin → Bool) : Bool := match c.callee with | .builtin b => f b | _ => false
theorem cBlt_ok {c : Call} {f : Builtin → Bool} (h : cBlt c f = true) : ∃ b, c.callee = .builtin b ∧ f b = true := by
  unfold cBlt at h
  cases hc : c.callee with
  | builtin b => rw [hc] at h; exact ⟨b, rfl, h⟩
  | _ => rw [hc] at h; cases h
def isLen (b : Builtin) : Bool := match b with | .len => true | _ => false
def isCap (b : Builtin) : Bool := match b with | .cap => true | _ => false
def isMax (b : Builtin) : Bool := match b with | .max => true | _ => false
def isMin (b : Builtin) : Bool := match b with | .min => true | _ => false
def isApp (b : Builtin) : Bool := match b with | .append => true | _ => false
def isCopy (b : Builtin) : Bool := match b with | .copy => true | _ => false
def isClear (b : Builtin) : Bool := match b with | .clear => true | _ => false
def isDel (b : Builtin) : Bool := match b with | .delete => true | _ => false
theorem Ej {c : Call} {f : Builtin → Bool} {b : Builtin} (hf : ∀ x, f x = true → x = b) (h : cBlt c f = true) : c.callee = .builtin b := by obtain ⟨x, h1, h2⟩ := cBlt_ok h; rw [h1, hf x h2]
def cT0 (c : Call) (f : TypeId → Bool) : Bool := match c.argTypes.toList with | t :: _ => f t | [] => false
theorem Ek {c : Call} {f : TypeId → Bool} (h : cT0 c f = true) : ∃ t, c.argTypes[0]? = some t ∧ f t = true := by
  unfold cT0 at h
  cases hl : c.argTypes.toList with
  | nil => rw [hl] at h; cases h
  | cons t r =>
    rw [hl] at h
    exact ⟨t, by rw [← Array.getElem?_toList, hl]; rfl, h⟩
def cA1 (c : Call) (x : Od) : Bool := match c.args.toList with | [X] => cOd x X | _ => false
theorem cA1_ok {c : Call} {x : Od} (h : cA1 c x = true) : ∃ X, c.args.toList = [X] ∧ OdR x X := by
  unfold cA1 at h
  split at h
  · rename_i X hl; exact ⟨X, hl, Q4 h⟩
  · cases h
def cA2 (c : Call) (x y : Od) : Bool := match c.args.toList with | [X, Y] => cOd x X && cOd y Y | _ => false
theorem El {c : Call} {x y : Od} (h : cA2 c x y = true) : ∃ X Y, c.args.toList = [X, Y] ∧ OdR x X ∧ OdR y Y := by
  unfold cA2 at h
  split at h
  · rename_i X Y hl
    rw [Bool.and_eq_true] at h
    exact ⟨X, Y, hl, Q4 h.1, Q4 h.2⟩
  · cases h
def allF (fs : List Field) (f : Field → Bool) : Bool := fs.all f
theorem allF_ok {fs : Array Field} {f : Field → Bool} (h : allF fs.toList f = true) (i : Nat) (x : Field) (hi : fs[i]? = some x) : f x = true :=
  List.all_eq_true.1 h x (by rw [← Array.getElem?_toList] at hi; exact List.mem_of_getElem? hi)
def cBuild (P : Program) (t : TypeId) (z : List AV) (ps : List (Nat × Nat × Od)) (parts : List (Nat × Operand)) : Bool :=
  cZr P t (cVals z) && Xb P t fun d => match d with
    | .struct fs => allF fs.toList (fun f => cSz P f.type fun _ => true) && cPs (cStPl P fs) z.length ps parts
    | .array _ e => cSz P e fun sz => cPs (cArPl sz) z.length ps parts
    | _ => false
def cArr (P : Program) (t : TypeId) (f : Nat → TypeId → Bool) : Bool := Xb P t fun d => match d with
  | .array n e => f n e
  | .pointer a => Xb P a (isAr f)
  | _ => false
theorem cArr_ok {P : Program} {t : TypeId} {f : Nat → TypeId → Bool} (h : cArr P t f = true) : ∃ n e, ArrOk P t n e ∧ f n e = true := by
  obtain ⟨d, h1, h2⟩ := V9 h
  cases d <;> try (cases h2; done)
  · obtain ⟨n, e, h3, h4⟩ := cAr h2; exact ⟨n, e, .inr ⟨_, h1, h3⟩, h4⟩
  · exact ⟨_, _, .inl h1, h2⟩
def osB (x y : Option Od) : Bool := match x with | some _ => (match y with | some _ => true | none => false) | none => true
theorem osB_ok {x y : Option Od} (h : osB x y = true) : x.isSome = true → y.isSome = true := by cases x <;> cases y <;> first | (cases h; done) | (intro _; rfl) | (intro h; cases h; done)
def Fk {α : Type} (x : Option α) : Bool := match x with | none => true | some _ => false
theorem Dz {α : Type} {x : Option α} (h : Fk x = true) : x = none := by cases x <;> first | rfl | cases h
def cL (P : Program) (E : Kn) (lo : LOp) (op : Op) : Bool := match lo with
  | .mv x => (match op with | .move X => cOd x X | .assign X => cOd x X | _ => false)
  | .cvs x => (match op with | .convert s d X => Xb P s yes && (Xb P d isTx && cOd x X) | _ => false)
  | .pick c a b => (match op with | .pick C A B => cOd c C && (cOd a A && cOd b B) | _ => false)
  | .build z ps => (match op with | .build t parts => cBuild P t z ps parts.toList | _ => false)
  | .bin o g x y => (match op with | .binOp o' t X Y _ => cBin o o' && (cEq P t g && (cOd x X && cOd y Y)) | _ => false)
  | .eqa ne ks x y => (match op with | .binOp o' t X Y _ => cBin o' (if ne then .neq else .eql) && (Hx t E.eq && (Xb P t (isSt fun fs => cFlds P 0 ks fs.toList) && (cOd x X && cOd y Y))) | _ => false)
  | .un o x => (match op with | .unOp o' _ X => cUn o o' && cOd x X | _ => false)
  | .cvi k x => (match op with | .convert s d X => Xb P s yes && (Xb P d (isIn (kEq k)) && cOd x X) | _ => false)
  | .bts x => (match op with | .convert s d X => Xb P s (Ep fun e => Xb P e isU8) && (Xb P d isTx && cOd x X) | _ => false)
  | .idxs x i => (match op with | .index t X I => Xb P t isTx && (cOd x X && cOd i I) | _ => false)
  | .idxa x i n z agg => (match op with | .index t X I => Xb P t (isAr fun m e => Nat.beq m n && (Xb P e (fun d => bEq (F7 d) agg) && cSz P e (Nat.beq z))) && (cOd x X && cOd i I) | _ => false)
  | .fld x off n agg => (match op with | .field t X f => Xb P t (isSt fun fs => cFd fs f fun fd => Nat.beq fd.offset off && (Xb P fd.type (fun d => bEq (F7 d) agg) && cSz P fd.type (Nat.beq n))) && cOd x X | _ => false)
  | .ext x i => (match op with | .extract X j => Nat.beq i j && cOd x X | _ => false)
  | .mkf g a c => (match op with | .makeFunc (.func f) A C => Nat.beq g.dec f && (cOds a A.toList && cOds c C.toList) | _ => false)
  | .mki t x => (match op with | .makeInterface t' X => Nat.beq t t' && (Xb P t' (fun d => Y2 (isIf d)) && cOd x X) | _ => false)
  | .nilc x => (match op with | .nilCheck X => cOd x X | _ => false)
  | .len g x => (match op with | .call c => cBlt c isLen && (cT0 c (fun t => cLn P t g) && cA1 c x) | _ => false)
  | .cap x => (match op with | .call c => cBlt c isCap && (cT0 c (fun t => Xb P t (Ep fun _ => true)) && cA1 c x) | _ => false)
  | .slc g x lo hi mx z => (match op with | .slice t X Lo Hi Mx => (match g with | .x => Fk mx && (Fk Mx && (Xb P t isTx && (cOd x X && (cOpt lo Lo && cOpt hi Hi)))) | .s => Xb P t (Ep fun e => cSz P e (Nat.beq z)) && (osB mx hi && (cOd x X && (cOpt lo Lo && (cOpt hi Hi && cOpt mx Mx)))) | _ => false) | _ => false)
  | .sla x lo hi mx n z => (match op with | .slice t X Lo Hi Mx => cArr P t (fun m e => Nat.beq m n && cSz P e (Nat.beq z)) && (Nat.ble n 65536 && (osB mx hi && (cOd x X && (cOpt lo Lo && (cOpt hi Hi && cOpt mx Mx))))) | _ => false)
  | .fa x off => (match op with | .fieldAddr t X f => Xb P t (isSt fun fs => cFd fs f fun fd => Nat.beq fd.offset off && cSz P fd.type (fun z => Y2 (Nat.beq z 0))) && cOd x X | _ => false)
  | .ia x i z => (match op with | .indexAddr t X I => Xb P t (Ep fun e => cSz P e (Nat.beq z)) && (cOd x X && cOd i I) | _ => false)
  | .iap x i n z => (match op with | .indexAddr t X I => Xb P t (isAr fun m e => Nat.beq m n && cSz P e (Nat.beq z)) && (cOd x X && cOd i I) | _ => false)
  | .maxi a b => (match op with | .call c => cBlt c isMax && cA2 c a b | _ => false)
  | .mini a b => (match op with | .call c => cBlt c isMin && cA2 c a b | _ => false)
  | .load n x => (match op with | .load t X => cLd P t n && cOd x X | _ => false)
  | .lkp g m k zero ok => (match op with | .lookup t M K' ok' => bEq ok ok' && (Xb P t (isMp fun kt e => cKy P kt g && cZr P e (cVal zero)) && (cOd m M && cOd k K')) | _ => false)
  | .entry x => (match op with | .entry X => cOd x X | _ => false)
  | .ta x t ok zero => (match op with | .typeAssert X _ t' ok' => Nat.beq t t' && (bEq ok ok' && (Xb P t' (fun d => Y2 (isIf d)) && (cOd x X && (Y2 ok || cZr P t' (cVal zero))))) | _ => false)
theorem Q3 {a b : Bool} (h : (a && b) = true) : a = true ∧ b = true := by rw [Bool.and_eq_true] at h; exact h
theorem cL_ok {P : Program} {E : Kn} (hE : Id P E) {lo : LOp} {op : Op} (h : cL P E lo op = true) : LOk P lo op := by
  cases lo with
  | mv x => cases op <;> first | (cases h; done) | exact .mv (Q4 h) | exact .asg (Q4 h)
  | cvs x =>
    cases op <;> try (cases h; done)
    obtain ⟨h1, h2⟩ := Q3 h; obtain ⟨h2, h3⟩ := Q3 h2
    obtain ⟨d, h1, _⟩ := V9 h1
    exact .cvs h1 (cTx h2) (Q4 h3)
  | pick c a b =>
    cases op <;> try (cases h; done)
    obtain ⟨h1, h2⟩ := Q3 h; obtain ⟨h2, h3⟩ := Q3 h2
    exact .pick (Q4 h1) (Q4 h2) (Q4 h3)
  | build z ps =>
    cases op <;> try (cases h; done)
    obtain ⟨h1, h2⟩ := Q3 h
    obtain ⟨vz, h3, h4⟩ := Rw h1
    obtain ⟨d, h5, h6⟩ := V9 h2
    cases d <;> try (cases h6; done)
    · obtain ⟨e, h7, h8⟩ := Eg h6
      exact .buildA h5 h3 (Bv h4) h7 (Eh Bw h8)
    · obtain ⟨h7, h8⟩ := Q3 h6
      exact .buildS h5 h3 (Bv h4) (fun i f hi => by obtain ⟨z, h9, _⟩ := Eg (allF_ok h7 i f hi); exact ⟨z, h9⟩) (Eh cStPl_ok h8)
  | bin o g x y =>
    cases op <;> try (cases h; done)
    obtain ⟨h1, h2⟩ := Q3 h; obtain ⟨h2, h3⟩ := Q3 h2; obtain ⟨h3, h4⟩ := Q3 h3
    have h1 := cBin_ok h1; subst h1
    exact .bin (cEq_ok h2) (Q4 h3) (Q4 h4)
  | eqa ne ks x y =>
    cases op <;> try (cases h; done)
    obtain ⟨h1, h2⟩ := Q3 h; obtain ⟨h2, h3⟩ := Q3 h2; obtain ⟨h3, h4⟩ := Q3 h3; obtain ⟨h4, h5⟩ := Q3 h4
    have h1 := cBin_ok h1; subst h1
    obtain ⟨fs, h6, h7⟩ := cSt h3
    obtain ⟨e1, e2⟩ := hE.1 _ (Ei h2)
    exact .eqa h6 e1 e2 (Ho h7) (Q4 h4) (Q4 h5)
  | un o x =>
    cases op <;> try (cases h; done)
    obtain ⟨h1, h2⟩ := Q3 h
    have h1 := cUn_ok h1; subst h1
    exact .un (Q4 h2)
  | cvi k x =>
    cases op <;> try (cases h; done)
    obtain ⟨h1, h2⟩ := Q3 h; obtain ⟨h2, h3⟩ := Q3 h2
    obtain ⟨d, h1, _⟩ := V9 h1
    obtain ⟨k', h4, h5⟩ := cIn h2
    have h5 := Jx h5; subst h5
    exact .cvi h1 h4 (Q4 h3)
  | bts x =>
    cases op <;> try (cases h; done)
    obtain ⟨h1, h2⟩ := Q3 h; obtain ⟨h2, h3⟩ := Q3 h2
    obtain ⟨e, h4, h5⟩ := cSl h1
    exact .bts h4 (cU8 h5) (cTx h2) (Q4 h3)
  | idxs x i =>
    cases op <;> try (cases h; done)
    obtain ⟨h1, h2⟩ := Q3 h; obtain ⟨h2, h3⟩ := Q3 h2
    exact .idxs (cTx h1) (Q4 h2) (Q4 h3)
  | idxa x i n z agg =>
    cases op <;> try (cases h; done)
    obtain ⟨h1, h2⟩ := Q3 h; obtain ⟨h2, h3⟩ := Q3 h2
    obtain ⟨m, e, h4, h5⟩ := cAr h1
    obtain ⟨h5, h6⟩ := Q3 h5; obtain ⟨h6, h7⟩ := Q3 h6
    have h5 := Nat.eq_of_beq_eq_true h5; subst h5
    obtain ⟨d, h8, h9⟩ := V9 h6
    exact .idxa h4 h8 (Uw h9) (Fj h7) (Q4 h2) (Q4 h3)
  | fld x off n agg =>
    cases op <;> try (cases h; done)
    obtain ⟨h1, h2⟩ := Q3 h
    obtain ⟨fs, h3, h4⟩ := cSt h1
    obtain ⟨fd, h5, h6⟩ := cFd_ok h4
    obtain ⟨h6, h7⟩ := Q3 h6; obtain ⟨h7, h8⟩ := Q3 h7
    obtain ⟨d, h9, h10⟩ := V9 h7
    exact .fld h3 h5 (Nat.eq_of_beq_eq_true h6) h9 (Uw h10) (Fj h8) (Q4 h2)
  | ext x i =>
    cases op <;> try (cases h; done)
    obtain ⟨h1, h2⟩ := Q3 h
    have h1 := Nat.eq_of_beq_eq_true h1; subst h1
    exact .ext (Q4 h2)
  | mkf g a c =>
    cases op <;> try (cases h; done)
    rename_i fn A C
    cases fn <;> try (cases h; done)
    obtain ⟨h1, h2⟩ := Q3 h; obtain ⟨h2, h3⟩ := Q3 h2
    exact .mkf (Nat.eq_of_beq_eq_true h1) (U7 h2) (U7 h3)
  | mki t x =>
    cases op <;> try (cases h; done)
    obtain ⟨h1, h2⟩ := Q3 h; obtain ⟨h2, h3⟩ := Q3 h2
    have h1 := Nat.eq_of_beq_eq_true h1; subst h1
    obtain ⟨d, h4, h5⟩ := V9 h2
    exact .mki h4 (notIf (Zv h5)) (Q4 h3)
  | nilc x =>
    cases op <;> try (cases h; done)
    exact .nilc (Q4 h)
  | len g x =>
    cases op <;> try (cases h; done)
    obtain ⟨h1, h2⟩ := Q3 h; obtain ⟨h2, h3⟩ := Q3 h2
    obtain ⟨t, h4, h5⟩ := Ek h2
    obtain ⟨X, h6, h7⟩ := cA1_ok h3
    exact .len (cLn_ok h5) (Ej (fun x hx => by cases x <;> first | rfl | cases hx) h1) h4 h6 h7
  | cap x =>
    cases op <;> try (cases h; done)
    obtain ⟨h1, h2⟩ := Q3 h; obtain ⟨h2, h3⟩ := Q3 h2
    obtain ⟨t, h4, h5⟩ := Ek h2
    obtain ⟨X, h6, h7⟩ := cA1_ok h3
    obtain ⟨e, h8, _⟩ := cSl h5
    exact .cap h8 (Ej (fun x hx => by cases x <;> first | rfl | cases hx) h1) h4 h6 h7
  | slc g x lo hi mx z =>
    cases op <;> try (cases h; done)
    cases g <;> try (cases h; done)
    · obtain ⟨h1, h2⟩ := Q3 h; obtain ⟨h2, h3⟩ := Q3 h2; obtain ⟨h3, h4⟩ := Q3 h3; obtain ⟨h4, h5⟩ := Q3 h4; obtain ⟨h5, h6⟩ := Q3 h5
      have h1 := Dz h1; subst h1
      have h2 := Dz h2; subst h2
      exact .slcS (cTx h3) (Q4 h4) (J7 h5) (J7 h6)
    · obtain ⟨h1, h2⟩ := Q3 h; obtain ⟨h2, h3⟩ := Q3 h2; obtain ⟨h3, h4⟩ := Q3 h3; obtain ⟨h4, h5⟩ := Q3 h4; obtain ⟨h5, h6⟩ := Q3 h5
      obtain ⟨e, h7, h8⟩ := cSl h1
      exact .slcV h7 (Fj h8) (osB_ok h2) (Q4 h3) (J7 h4) (J7 h5) (J7 h6)
  | sla x lo hi mx n z =>
    cases op <;> try (cases h; done)
    obtain ⟨h1, h2⟩ := Q3 h; obtain ⟨h2, h3⟩ := Q3 h2; obtain ⟨h3, h4⟩ := Q3 h3; obtain ⟨h4, h5⟩ := Q3 h4; obtain ⟨h5, h6⟩ := Q3 h5; obtain ⟨h6, h7⟩ := Q3 h6
    obtain ⟨m, e, h8, h9⟩ := cArr_ok h1
    obtain ⟨h9, h10⟩ := Q3 h9
    have h9 := Nat.eq_of_beq_eq_true h9; subst h9
    exact .sla h8 (Nat.le_of_ble_eq_true h2) (Fj h10) (osB_ok h3) (Q4 h4) (J7 h5) (J7 h6) (J7 h7)
  | fa x off =>
    cases op <;> try (cases h; done)
    obtain ⟨h1, h2⟩ := Q3 h
    obtain ⟨fs, h3, h4⟩ := cSt h1
    obtain ⟨fd, h5, h6⟩ := cFd_ok h4
    obtain ⟨h6, h7⟩ := Q3 h6
    obtain ⟨z, h8, h9⟩ := Eg h7
    exact .fa h3 h5 (Nat.eq_of_beq_eq_true h6) h8 (notB0 h9) (Q4 h2)
  | ia x i z =>
    cases op <;> try (cases h; done)
    obtain ⟨h1, h2⟩ := Q3 h; obtain ⟨h2, h3⟩ := Q3 h2
    obtain ⟨e, h4, h5⟩ := cSl h1
    exact .ia h4 (Fj h5) (Q4 h2) (Q4 h3)
  | iap x i n z =>
    cases op <;> try (cases h; done)
    obtain ⟨h1, h2⟩ := Q3 h; obtain ⟨h2, h3⟩ := Q3 h2
    obtain ⟨m, e, h4, h5⟩ := cAr h1
    obtain ⟨h5, h6⟩ := Q3 h5
    have h5 := Nat.eq_of_beq_eq_true h5; subst h5
    exact .iap h4 (Fj h6) (Q4 h2) (Q4 h3)
  | maxi a b =>
    cases op <;> try (cases h; done)
    obtain ⟨h1, h2⟩ := Q3 h
    obtain ⟨X, Y, h3, h4, h5⟩ := El h2
    exact .maxi (Ej (fun x hx => by cases x <;> first | rfl | cases hx) h1) h3 h4 h5
  | mini a b =>
    cases op <;> try (cases h; done)
    obtain ⟨h1, h2⟩ := Q3 h
    obtain ⟨X, Y, h3, h4, h5⟩ := El h2
    exact .mini (Ej (fun x hx => by cases x <;> first | rfl | cases hx) h1) h3 h4 h5
  | load n x =>
    cases op <;> try (cases h; done)
    obtain ⟨h1, h2⟩ := Q3 h
    obtain ⟨d, h3, h4⟩ := cLd_ok h1
    exact .load h3 h4 (Q4 h2)
  | lkp g m k zero ok =>
    cases op <;> try (cases h; done)
    obtain ⟨h1, h2⟩ := Q3 h; obtain ⟨h2, h3⟩ := Q3 h2; obtain ⟨h3, h4⟩ := Q3 h3
    have h1 := Uw h1; subst h1
    obtain ⟨kt, e, h5, h6⟩ := cMp h2
    obtain ⟨h6, h7⟩ := Q3 h6
    obtain ⟨vz, h8, h9⟩ := Rw h7
    exact .lkp h5 (Dy h6) h8 (Ry h9) (Q4 h3) (Q4 h4)
  | entry x =>
    cases op <;> try (cases h; done)
    exact .entry (Q4 h)
  | ta x t ok zero =>
    cases op <;> try (cases h; done)
    rename_i X xt t' ok'
    obtain ⟨g1, g2⟩ := Q3 h; obtain ⟨h2, g3⟩ := Q3 g2; obtain ⟨h3, g4⟩ := Q3 g3; obtain ⟨h4, h5⟩ := Q3 g4
    have e1 := Nat.eq_of_beq_eq_true g1
    have e2 := Uw h2
    subst e1; subst e2
    obtain ⟨d, h6, h7⟩ := V9 h3
    cases ok with
    | false => exact .ta (vz := .nilFunc) h6 (notIf (Zv h7)) (fun e => by cases e) (Q4 h4)
    | true =>
      obtain ⟨vz, h8, h9⟩ := Rw h5
      exact .ta h6 (notIf (Zv h7)) (fun _ => ⟨h8, Ry h9⟩) (Q4 h4)
end
end Go.Ev
namespace Go.Ev
noncomputable section
def cZs (P : Program) (e : TypeId) (zs : List AV) : Bool := cZr P e (cVals zs)
theorem Hp {P : Program} {e : TypeId} {zs : List AV} (h : cZs P e zs = true) : ∃ vz, ZR P e vz ∧ ∀ ι, VRs ι zs vz.cells.toList := by
  obtain ⟨vz, h1, h2⟩ := Rw h
  exact ⟨vz, h1, Bv h2⟩
def cK (P : Program) (ko : KOp) (op : Op) : Bool := match ko with
  | .alloc z => (match op with | .alloc e => cZs P e z | _ => false)
  | .box x => (match op with | .box _ X => cOd x X | _ => false)
  | .bsl n z zs ps => (match op with | .buildSlice t m parts => Nat.beq n m && (Xb P t (Ep fun e => cSz P e (Nat.beq z) && cZs P e zs) && (Nat.ble (n * z) 16777216 && (Nat.ble n 65536 && (Nat.beq zs.length z && cPs (cArPl z) (n * z) ps parts.toList)))) | _ => false)
  | .bslm n z ps => (match op with | .buildSlice t m parts => Nat.beq n m && (Xb P t (Ep fun e => cSz P e (Nat.beq z) && cZr P e (fun v => Nat.beq v.cells.size z)) && (Nat.ble (n * z) 16777216 && (Nat.ble n 65536 && cPs (cArPl z) (n * z) ps parts.toList))) | _ => false)
  | .mkm x => (match op with | .makeMap t X => Xb P t (isMp fun _ _ => true) && cOpt x X | _ => false)
  | .mks l c z zs => (match op with | .makeSlice t L C => Xb P t (Ep fun e => cSz P e (Nat.beq z) && (cBy P e (fun b => Nat.ble b 4294967296) && cZs P e zs)) && (Nat.beq zs.length z && (cOd l L && cOd c C)) | _ => false)
  | .rng x => (match op with | .range t X => Xb P t (isMp fun _ _ => true) && cOd x X | _ => false)
  | .stb x => (match op with | .convert s d X => Xb P s isTx && (Xb P d (Ep fun e => Xb P e isU8) && cOd x X) | _ => false)
theorem cK_ok {P : Program} {ko : KOp} {op : Op} (h : cK P ko op = true) : KOk P ko op := by
  cases ko with
  | alloc z =>
    cases op <;> try (cases h; done)
    obtain ⟨vz, h1, h2⟩ := Hp h
    exact .alloc h1 h2
  | box x => cases op <;> first | (cases h; done) | exact .box (Q4 h)
  | bsl n z zs ps =>
    cases op <;> try (cases h; done)
    obtain ⟨h1, g2⟩ := Q3 h; obtain ⟨h2, g3⟩ := Q3 g2; obtain ⟨h3, g4⟩ := Q3 g3; obtain ⟨h4, g5⟩ := Q3 g4; obtain ⟨h5, h6⟩ := Q3 g5
    have e1 := Nat.eq_of_beq_eq_true h1
    subst e1
    obtain ⟨e, h7, g8⟩ := cSl h2
    obtain ⟨h8, h9⟩ := Q3 g8
    obtain ⟨vz, h10, h11⟩ := Hp h9
    exact .bsl h7 (Fj h8) (Nat.le_of_ble_eq_true h3) (Nat.le_of_ble_eq_true h4) h10 h11 (Nat.eq_of_beq_eq_true h5) (Eh Bw h6)
  | bslm n z ps =>
    cases op <;> try (cases h; done)
    obtain ⟨h1, g2⟩ := Q3 h; obtain ⟨h2, g3⟩ := Q3 g2; obtain ⟨h3, g4⟩ := Q3 g3; obtain ⟨h4, h6⟩ := Q3 g4
    have e1 := Nat.eq_of_beq_eq_true h1
    subst e1
    obtain ⟨e, h7, g8⟩ := cSl h2
    obtain ⟨h8, h9⟩ := Q3 g8
    obtain ⟨vz, h10, h11⟩ := Rw h9
    exact .bslm h7 (Fj h8) (Nat.le_of_ble_eq_true h3) (Nat.le_of_ble_eq_true h4) h10 (Nat.eq_of_beq_eq_true h11) (Eh Bw h6)
  | mkm x =>
    cases op <;> try (cases h; done)
    obtain ⟨h1, h2⟩ := Q3 h
    obtain ⟨k, e, h3, _⟩ := cMp h1
    exact .mkm h3 (J7 h2)
  | mks l c z zs =>
    cases op <;> try (cases h; done)
    obtain ⟨h1, g2⟩ := Q3 h; obtain ⟨h2, g3⟩ := Q3 g2; obtain ⟨h3, h4⟩ := Q3 g3
    obtain ⟨e, h5, g6⟩ := cSl h1
    obtain ⟨h6, g7⟩ := Q3 g6
    obtain ⟨h7, h8⟩ := Q3 g7
    obtain ⟨b, h9, h10⟩ := cBy_ok h7
    obtain ⟨vz, h11, h12⟩ := Hp h8
    exact .mks h5 (Fj h6) h9 (Nat.le_of_ble_eq_true h10) h11 h12 (Nat.eq_of_beq_eq_true h2) (Q4 h3) (Q4 h4)
  | rng x =>
    cases op <;> try (cases h; done)
    obtain ⟨h1, h2⟩ := Q3 h
    obtain ⟨k, e, h3, _⟩ := cMp h1
    exact .rng h3 (Q4 h2)
  | stb x =>
    cases op <;> try (cases h; done)
    obtain ⟨h1, g2⟩ := Q3 h; obtain ⟨h2, h3⟩ := Q3 g2
    obtain ⟨e, h4, h5⟩ := cSl h2
    exact .stb (cTx h1) h4 (cU8 h5) (Q4 h3)
def cApp (P : Program) (ts : List TypeId) (z : Nat) : Bool := match ts with
  | [] => false
  | t :: r => Xb P t (Ep fun e => cSz P e (Nat.beq z) && (cBy P e (fun b => Nat.ble b 65536) && cZr P e (fun v => Nat.beq v.cells.size z))) && (match r with | [] => true | u :: _ => Xb P u fun d => Y2 (isIt d))
theorem cApp_ok {P : Program} {ts : Array TypeId} {z : Nat} (h : cApp P ts.toList z = true) : AppOk P ts z := by
  obtain ⟨ts⟩ := ts
  have h : cApp P ts z = true := h
  cases ts with
  | nil => cases h
  | cons t r =>
    obtain ⟨h1, h2⟩ := Q3 h
    obtain ⟨e, h3, g4⟩ := cSl h1
    obtain ⟨h4, g5⟩ := Q3 g4
    obtain ⟨h5, h6⟩ := Q3 g5
    obtain ⟨b, h7, h8⟩ := cBy_ok h5
    obtain ⟨vz, h9, h10⟩ := Rw h6
    refine ⟨⟨t, e, b, vz, rfl, h3, Fj h4, h7, Nat.le_of_ble_eq_true h8, h9, Nat.eq_of_beq_eq_true h10⟩, fun u hu => ?_⟩
    cases r with
    | nil => simp at hu
    | cons u' r =>
      have hu : some u' = some u := by simpa using hu
      injection hu with hu; subst hu
      obtain ⟨d, h11, h12⟩ := V9 h2
      exact ⟨d, h11, fun k e => by subst e; cases h12⟩
def cH0 (P : Program) (ho : HOp) (op : Op) : Bool := match ho with
  | .store n x v => (match op with | .store t X V => cSz P t (Nat.beq n) && (cOd x X && cOd v V) | _ => false)
  | .app s x z => (match op with | .call c => cBlt c isApp && (cApp P c.argTypes.toList z && cA2 c s x) | _ => false)
  | .copy d s z => (match op with | .call c => cBlt c isCopy && (cT0 c (fun t => Xb P t (Ep fun e => cSz P e (Nat.beq z))) && cA2 c d s) | _ => false)
  | .clear x z zs => (match op with | .call c => cBlt c isClear && (cT0 c (fun t => Xb P t (Ep fun e => cZs P e zs)) && (Nat.beq zs.length z && cA1 c x)) | _ => false)
  | .del g m k => (match op with | .call c => cBlt c isDel && (cT0 c (fun t => Xb P t (isMp fun kt _ => cKy P kt g)) && cA2 c m k) | _ => false)
  | .mup g m k v => (match op with
    | .mapUpdate t M K' V => Xb P t (isMp fun kt _ => cKy P kt g) && (cOd m M && (cOd k K' && cOd v V))
    | .insert t M K' V => Xb P t (isMp fun kt _ => cKy P kt g) && (cOd m M && (cOd k K' && cOd v V))
    | _ => false)
  | .ment g m k zero => (match op with | .mapEntry t M K' => Xb P t (isMp fun kt e => cKy P kt g && cZr P e (cVal zero)) && (cOd m M && cOd k K') | _ => false)
  | .mst m st v => (match op with | .entryStore _ M St V => cOd m M && (cOd st St && cOd v V) | _ => false)
  | .next it => (match op with | .next X b => Y2 b && cOd it X | _ => false)
  | _ => false
theorem cH0_ok {P : Program} {ho : HOp} {op : Op} (h : cH0 P ho op = true) : En P ho op := by
  cases ho with
  | store n x v =>
    cases op <;> try (cases h; done)
    obtain ⟨h1, g2⟩ := Q3 h; obtain ⟨h2, h3⟩ := Q3 g2
    exact .store (Fj h1) (Q4 h2) (Q4 h3)
  | app s x z =>
    cases op <;> try (cases h; done)
    obtain ⟨h1, g2⟩ := Q3 h; obtain ⟨h2, h3⟩ := Q3 g2
    obtain ⟨X, Y, h4, h5, h6⟩ := El h3
    exact .app (Ej (fun x hx => by cases x <;> first | rfl | cases hx) h1) (cApp_ok h2) h4 h5 h6
  | copy d s z =>
    cases op <;> try (cases h; done)
    obtain ⟨h1, g2⟩ := Q3 h; obtain ⟨h2, h3⟩ := Q3 g2
    obtain ⟨X, Y, h4, h5, h6⟩ := El h3
    obtain ⟨t, h7, h8⟩ := Ek h2
    obtain ⟨e, h9, h10⟩ := cSl h8
    exact .copy (Ej (fun x hx => by cases x <;> first | rfl | cases hx) h1) h7 h9 (Fj h10) h4 h5 h6
  | clear x z zs =>
    cases op <;> try (cases h; done)
    obtain ⟨h1, g2⟩ := Q3 h; obtain ⟨h2, g3⟩ := Q3 g2; obtain ⟨h3, h4⟩ := Q3 g3
    obtain ⟨X, h5, h6⟩ := cA1_ok h4
    obtain ⟨t, h7, h8⟩ := Ek h2
    obtain ⟨e, h9, h10⟩ := cSl h8
    obtain ⟨vz, h11, h12⟩ := Hp h10
    exact .clear (Ej (fun x hx => by cases x <;> first | rfl | cases hx) h1) h7 h9 h11 h12 (Nat.eq_of_beq_eq_true h3) h5 h6
  | del g m k =>
    cases op <;> try (cases h; done)
    obtain ⟨h1, g2⟩ := Q3 h; obtain ⟨h2, h3⟩ := Q3 g2
    obtain ⟨X, Y, h4, h5, h6⟩ := El h3
    obtain ⟨t, h7, h8⟩ := Ek h2
    obtain ⟨kt, e, h9, h10⟩ := cMp h8
    exact .del (Ej (fun x hx => by cases x <;> first | rfl | cases hx) h1) h7 h9 (Dy h10) h4 h5 h6
  | mup g m k v =>
    cases op <;> try (cases h; done)
    · obtain ⟨h1, g2⟩ := Q3 h; obtain ⟨h2, g3⟩ := Q3 g2; obtain ⟨h3, h4⟩ := Q3 g3
      obtain ⟨kt, e, h9, h10⟩ := cMp h1
      exact .ins h9 (Dy h10) (Q4 h2) (Q4 h3) (Q4 h4)
    · obtain ⟨h1, g2⟩ := Q3 h; obtain ⟨h2, g3⟩ := Q3 g2; obtain ⟨h3, h4⟩ := Q3 g3
      obtain ⟨kt, e, h9, h10⟩ := cMp h1
      exact .mup h9 (Dy h10) (Q4 h2) (Q4 h3) (Q4 h4)
  | ment g m k zero =>
    cases op <;> try (cases h; done)
    obtain ⟨h1, g2⟩ := Q3 h; obtain ⟨h2, h3⟩ := Q3 g2
    obtain ⟨kt, e, h4, g5⟩ := cMp h1
    obtain ⟨h5, h6⟩ := Q3 g5
    obtain ⟨vz, h7, h8⟩ := Rw h6
    exact .ment h4 (Dy h5) h7 (Ry h8) (Q4 h2) (Q4 h3)
  | mst m st v =>
    cases op <;> try (cases h; done)
    obtain ⟨h1, g2⟩ := Q3 h; obtain ⟨h2, h3⟩ := Q3 g2
    exact .mst (Q4 h1) (Q4 h2) (Q4 h3)
  | next it =>
    cases op <;> try (cases h; done)
    obtain ⟨h1, h2⟩ := Q3 h
    have h1 := Zv h1
    subst h1
    exact .next (Q4 h2)
  | _ => cases h
def eqON (a b : Option (Option Nat)) : Bool := match a with
  | none => (match b with | none => true | some _ => false)
  | some none => (match b with | some none => true | _ => false)
  | some (some n) => (match b with | some (some m) => Nat.beq n m | _ => false)
theorem eqON_ok {a b : Option (Option Nat)} (h : eqON a b = true) : a = b := by
  rcases a with _ | _ | n <;> rcases b with _ | _ | m <;> first | rfl | (cases h; done) | (rw [Nat.eq_of_beq_eq_true h])
theorem Ie {p q : Pa} (h : Nat.beq p.dec q.dec = true) : p = q := Yd (Nat.eq_of_beq_eq_true h)
def cTb1 (name : String) (e : Nat × Pa × Option (Option Nat)) (k : String × Nat × Pa × Option (Option Nat)) : Bool := Nat.beq e.1 k.2.1 && (Nat.beq e.2.1.dec k.2.2.1.dec && (eqON e.2.2 k.2.2.2 && decide (name = k.1)))
def cTb (E : Kn) (name : String) (tbl : List (Nat × Pa × Option (Option Nat))) : Bool := tbl.all fun e => E.tb.any (cTb1 name e)
theorem cTb_ok {P : Program} {E : Kn} (hE : Id P E) {name : String} {tbl : List (Nat × Pa × Option (Option Nat))} (h : cTb E name tbl = true) : ∀ e ∈ tbl, TblOk P name e := by
  intro e he
  have h1 := List.all_eq_true.1 h e he
  obtain ⟨k, hk, h2⟩ := List.any_eq_true.1 h1
  obtain ⟨g1, h2⟩ := Q3 h2; obtain ⟨g2, h2⟩ := Q3 h2; obtain ⟨g3, g4⟩ := Q3 h2
  obtain ⟨a, b, c⟩ := e
  obtain ⟨s, a', b', c'⟩ := k
  have e1 : a = a' := Nat.eq_of_beq_eq_true g1
  have e2 : b = b' := Ie g2
  have e3 : c = c' := eqON_ok g3
  have e4 : name = s := of_decide_eq_true g4
  subst e1; subst e2; subst e3; subst e4
  exact hE.2 _ hk
def cHc (E : Kn) (ho : HOp) (op : Op) : Bool := match ho with
  | .call g ar => (match op with | .call c => (match c.callee with | .value (.func f) => Nat.beq g.dec f && cOds ar c.args.toList | _ => false) | _ => false)
  | .callv x ar => (match op with | .call c => (match c.callee with | .value X => cOd x X && cOds ar c.args.toList | _ => false) | _ => false)
  | .inv r tbl ar => (match op with | .call c => (match c.callee with | .invoke R name => cTb E name tbl && (cOd r R && cOds ar c.args.toList) | _ => false) | _ => false)
  | _ => false
theorem cHc_ok {P : Program} {E : Kn} (hE : Id P E) {ho : HOp} {op : Op} (h : cHc E ho op = true) : HcOk P ho op := by
  cases ho with
  | call g ar =>
    cases op <;> try (cases h; done)
    rename_i c
    obtain ⟨cal, args, ts⟩ := c
    cases cal <;> try (cases h; done)
    rename_i X
    cases X <;> try (cases h; done)
    obtain ⟨h1, h2⟩ := Q3 h
    exact .call rfl (Nat.eq_of_beq_eq_true h1) (U7 h2)
  | callv x ar =>
    cases op <;> try (cases h; done)
    rename_i c
    obtain ⟨cal, args, ts⟩ := c
    cases cal <;> try (cases h; done)
    obtain ⟨h1, h2⟩ := Q3 h
    exact .callv rfl (Q4 h1) (U7 h2)
  | inv r tbl ar =>
    cases op <;> try (cases h; done)
    rename_i c
    obtain ⟨cal, args, ts⟩ := c
    cases cal <;> try (cases h; done)
    obtain ⟨h1, g2⟩ := Q3 h; obtain ⟨h2, h3⟩ := Q3 g2
    exact .inv rfl (cTb_ok hE h1) (Q4 h2) (U7 h3)
  | _ => cases h
def cHm (ho : HOp) (op : Op) : Bool := match ho with
  | .callm g ar => (match op with | .call c => (match c.callee with | .value (.func f) => Nat.beq g.dec f && cOds ar c.args.toList | _ => false) | _ => false)
  | _ => false
theorem cHm_ok {ho : HOp} {op : Op} (h : cHm ho op = true) : HmOk ho op := by
  cases ho <;> try (cases h; done)
  cases op <;> try (cases h; done)
  rename_i c
  obtain ⟨cal, args, ts⟩ := c
  cases cal <;> try (cases h; done)
  rename_i X
  cases X <;> try (cases h; done)
  obtain ⟨h1, h2⟩ := Q3 h
  exact ⟨_, _, _, _, rfl, rfl, rfl, Nat.eq_of_beq_eq_true h1, U7 h2⟩
def hKind (ho : HOp) : Nat := match ho with | .call .. => 1 | .callv .. => 1 | .inv .. => 1 | .callm .. => 2 | _ => 0
def cH (P : Program) (E : Kn) (ho : HOp) (op : Op) : Bool := match hKind ho with | 0 => cH0 P ho op | 1 => cHc E ho op | _ => cHm ho op
theorem cH_ok {P : Program} {E : Kn} (hE : Id P E) {ho : HOp} {op : Op} (h : cH P E ho op = true) : En P ho op ∨ HcOk P ho op ∨ HmOk ho op := by
  unfold cH at h
  split at h
  · exact .inl (cH0_ok h)
  · exact .inr (.inl (cHc_ok hE h))
  · exact .inr (.inr (cHm_ok h))
def cM (P : Program) (x : Od) (op : Op) : Bool := match op with | .convert s d X => Nat.beq s d && (Xb P s (Ep fun e => Xb P e isU8) && cOd x X) | _ => false
theorem cM_ok {P : Program} {x : Od} {op : Op} (h : cM P x op = true) : MOk P x op := by
  cases op <;> try (cases h; done)
  obtain ⟨h1, g2⟩ := Q3 h; obtain ⟨h2, h3⟩ := Q3 g2
  have e1 := Nat.eq_of_beq_eq_true h1
  subst e1
  obtain ⟨e, h4, h5⟩ := cSl h2
  exact ⟨_, _, e, rfl, h4, cU8 h5, Q4 h3⟩
def cO1 (P : Program) (E : Kn) (x : Op1) (op : Op) : Bool := match x with
  | .l _ _ lo => cL P E lo op | .k ko => cK P ko op | .h _ ho => cH P E ho op | .m x => cM P x op
theorem cO1_ok {P : Program} {E : Kn} (hE : Id P E) {x : Op1} {op : Op} (h : cO1 P E x op = true) : O1Ok P x op := by
  cases x with
  | l lo hi o => exact cL_ok hE h
  | k o => exact cK_ok h
  | h bf o => exact cH_ok hE h
  | m x => exact cM_ok h
def cDs (N : Nat) (p : Option Pa) (d : Option Tmp) : Bool := match p with
  | none => (match d with | none => true | some _ => false)
  | some p => (match d with | none => false | some d => Nat.beq p.dec d && Nat.blt d N)
theorem cDs_ok {N : Nat} {p : Option Pa} {d : Option Tmp} (h : cDs N p d = true) : DsOk N p d := by
  cases p <;> cases d <;> try (cases h; done)
  · trivial
  · obtain ⟨h1, h2⟩ := Q3 h
    rw [Nat.blt_eq] at h2
    exact ⟨Nat.eq_of_beq_eq_true h1, h2⟩
def cGd (ops : List Oper) (p : Option (Pa × Bool)) (g : Option (Nat × Bool)) : Bool := match p with
  | none => (match g with | none => true | some _ => false)
  | some (p, b) => (match g with | none => false | some (j, c) => bEq b c && (match nth ops j with | some o => (match o.dst with | some d => Nat.beq d p.dec | none => false) | none => false))
theorem cGd_ok {ops : Array Oper} {p : Option (Pa × Bool)} {g : Option (Nat × Bool)} (h : cGd ops.toList p g = true) : GdOk ops p g := by
  rcases p with _ | ⟨p, b⟩ <;> rcases g with _ | ⟨j, c⟩ <;> try (cases h; done)
  · trivial
  · obtain ⟨h1, h2⟩ := Q3 h
    refine ⟨Uw h1, ?_⟩
    cases hn : nth ops.toList j with
    | none => rw [hn] at h2; cases h2
    | some o =>
      rw [hn] at h2
      rw [nthA hn]
      cases hd : o.dst with
      | none => simp only [hd] at h2; cases h2
      | some d =>
        simp only [hd] at h2
        show o.dst = _
        rw [hd, Nat.eq_of_beq_eq_true h2]
def cO2 (P : Program) (E : Kn) (N : Nat) (ops : List Oper) (x : Op2) (o : Oper) : Bool := cDs N x.dst o.dst && (cGd ops x.grd o.guard && cO1 P E x.op o.op)
theorem cO2_ok {P : Program} {E : Kn} (hE : Id P E) {N : Nat} {ops : Array Oper} {x : Op2} {o : Oper} (h : cO2 P E N ops.toList x o = true) : O2Ok P N ops x o := by
  obtain ⟨h1, g2⟩ := Q3 h; obtain ⟨h2, h3⟩ := Q3 g2
  exact ⟨cDs_ok h1, cGd_ok h2, cO1_ok hE h3⟩
theorem Bx {α β : Type} {f : α → β → Bool} : ∀ {l : List α} {m : List β}, Rx f l m = true → l.length = m.length ∧ ∀ (i : Nat) (a : α) (b : β), l[i]? = some a → m[i]? = some b → f a b = true
  | [], m, h => by have := J6 h; subst this; exact ⟨rfl, fun i a b ha => by simp at ha⟩
  | x :: l, m, h => by
    obtain ⟨y, r, h0, h1, h2⟩ := Ja h
    subst h0
    obtain ⟨g1, g2⟩ := Bx h2
    refine ⟨by simp [g1], fun i a b ha hb => ?_⟩
    cases i with
    | zero => simp at ha hb; subst ha; subst hb; exact h1
    | succ i => exact g2 i a b (by simpa using ha) (by simpa using hb)
def cRg (P : Program) (E : Kn) (N : Nat) (l : List Op2) (ops : Array Oper) : Bool := Rx (cO2 P E N ops.toList) l ops.toList
theorem rgOk_of {P : Program} {N : Nat} {ops : Array Oper} : ∀ {l : List Op2} {i : Nat}, i + l.length = ops.size → (∀ (j : Nat) (x : Op2) (o : Oper), l[j]? = some x → ops[i + j]? = some o → O2Ok P N ops x o) → RgOk P N ops i l
  | [], i, h, _ => h.symm
  | x :: l, i, h, hh => by
    have hlt : i < ops.size := by simp at h; omega
    refine ⟨ops[i], by simp [hlt], hh 0 x _ rfl (by simp [hlt]), rgOk_of (by simp at h; omega) fun j y o hy ho => ?_⟩
    exact hh (j + 1) y o (by simpa using hy) (by rw [show i + (j + 1) = i + 1 + j by omega]; exact ho)
theorem cRg_ok {P : Program} {E : Kn} (hE : Id P E) {N : Nat} {l : List Op2} {ops : Array Oper} (h : cRg P E N l ops = true) : RgOk P N ops 0 l := by
  obtain ⟨h1, h2⟩ := Bx h
  refine rgOk_of (by simpa using h1) fun j x o hx ho => cO2_ok hE (h2 j x o hx ?_)
  rw [Nat.zero_add] at ho
  simpa using ho
end
end Go.Ev
namespace Go.Ev
noncomputable section
def bm1 (m : List Nat) (i : Nat) : List Edge → Option Nat
  | [] => some 0
  | e :: r => (match bm1 m i r with
    | none => none
    | some k => (match Region.binds .any e with
      | false => some k
      | true => (match Nat.blt e.on i with
        | false => none
        | true => (match nth m e.on with | none => none | some v => some (Nat.lor (Nat.lor k (Nat.shiftLeft 1 e.on)) v)))))
theorem bm1_ok {m : List Nat} {i : Nat} : ∀ {l : List Edge} {k : Nat}, bm1 m i l = some k → (∀ e ∈ l, Region.binds .any e = true → e.on < i) ∧ ∀ b, k.testBit b = true → ∃ e ∈ l, Region.binds .any e = true ∧ (b = e.on ∨ ∃ v, m[e.on]? = some v ∧ v.testBit b = true)
  | [], k, h => by
    have h : some 0 = some k := h
    injection h with h; subst h
    exact ⟨fun e he => by simp at he, fun b hb => by simp at hb⟩
  | e :: r, k, h => by
    unfold bm1 at h
    cases h1 : bm1 m i r with
    | none => simp only [h1] at h; cases h
    | some k1 =>
      obtain ⟨i1, i2⟩ := bm1_ok h1
      simp only [h1] at h
      cases hb : Region.binds .any e with
      | false =>
        simp only [hb] at h
        injection h with h; subst h
        refine ⟨fun e' he hb' => ?_, fun b hk => ?_⟩
        · simp at he
          rcases he with rfl | he
          · rw [hb] at hb'; cases hb'
          · exact i1 e' he hb'
        · obtain ⟨e', g1, g2⟩ := i2 b hk
          exact ⟨e', List.mem_cons_of_mem _ g1, g2⟩
      | true =>
        simp only [hb] at h
        cases hl : Nat.blt e.on i with
        | false => simp only [hl] at h; cases h
        | true =>
          simp only [hl] at h
          cases hv : nth m e.on with
          | none => simp only [hv] at h; cases h
          | some v =>
            simp only [hv] at h
            injection h with h; subst h
            rw [Hn] at hv
            rw [Nat.blt_eq] at hl
            refine ⟨fun e' he hb' => ?_, fun b hk => ?_⟩
            · simp at he
              rcases he with rfl | he
              · exact hl
              · exact i1 e' he hb'
            · have hk : ((k1 ||| 1 <<< e.on) ||| v).testBit b = true := hk
              rw [Nat.testBit_or, Nat.testBit_or, Bool.or_eq_true, Bool.or_eq_true] at hk
              rcases hk with (hk | hk) | hk
              · obtain ⟨e', g1, g2⟩ := i2 b hk
                exact ⟨e', List.mem_cons_of_mem _ g1, g2⟩
              · refine ⟨e, by simp, hb, .inl ?_⟩
                rw [Nat.testBit_shiftLeft] at hk
                simp at hk
                have h2 := hk.2
                have : b - e.on = 0 := by
                  rcases Nat.eq_zero_or_pos (b - e.on) with h | h
                  · exact h
                  · rw [Nat.testBit_one_eq_true_iff_self_eq_zero] at h2; exact h2
                omega
              · exact ⟨e, by simp, hb, .inr ⟨v, hv, hk⟩⟩
def bms : List Oper → List Nat → Nat → Option (List Nat)
  | [], m, _ => some m
  | o :: r, m, i => (match bm1 m i o.after.toList with | none => none | some k => bms r (m ++ [k]) (i + 1))
def MB (ops : Array Oper) (m : List Nat) : Prop := ∀ (j k v : Nat), m[j]? = some v → v.testBit k = true → Bf ops j k
def ED (ops : Array Oper) (n : Nat) : Prop := ∀ (j : Nat) (o : Oper), j < n → ops[j]? = some o → ∀ e ∈ o.after.toList, Region.binds .any e = true → e.on < j
theorem bms_ok {ops : Array Oper} : ∀ {r : List Oper} {m m' : List Nat} {i : Nat}, bms r m i = some m' → m.length = i → (∀ j, r[j]? = ops[i + j]?) → MB ops m → ED ops i → MB ops m' ∧ ED ops (i + r.length)
  | [], m, m', i, h, hl, hr, hm, he => by
    have h : some m = some m' := h
    injection h with h; subst h
    exact ⟨hm, he⟩
  | o :: r, m, m', i, h, hl, hr, hm, he => by
    unfold bms at h
    cases hk : bm1 m i o.after.toList with
    | none => simp only [hk] at h; cases h
    | some k =>
      simp only [hk] at h
      obtain ⟨k1, k2⟩ := bm1_ok hk
      have ho : ops[i]? = some o := by have := hr 0; simpa using this.symm
      have := bms_ok (i := i + 1) h (by simp [hl]) (fun j => by have := hr (j + 1); rw [show i + (j + 1) = i + 1 + j by omega] at this; simpa using this) ?_ ?_
      · rw [List.length_cons, show i + (r.length + 1) = i + 1 + r.length by omega]; exact this
      · intro j b v hv hb
        rcases Nat.lt_or_ge j m.length with hlt | hge
        · rw [List.getElem?_append_left hlt] at hv; exact hm j b v hv hb
        · rw [List.getElem?_append_right hge] at hv
          have hj : j - m.length = 0 := by
            rcases Nat.eq_zero_or_pos (j - m.length) with h | h
            · exact h
            · rw [List.getElem?_eq_none (by simp; omega)] at hv; cases hv
          rw [hj] at hv
          have hv : some k = some v := by simpa using hv
          injection hv with hv; subst hv
          have hji : j = i := by omega
          subst hji
          intro listed hc hop
          obtain ⟨e, g1, g2, g3⟩ := k2 b hb
          have hle := hop o ho e g1 g2
          rcases g3 with rfl | ⟨v, g3, g4⟩
          · exact hle
          · exact hm e.on b v g3 g4 listed hc (fun o' ho' e' he' hb' => hc e.on o' ho' hle e' he' hb')
      · intro j o' hj ho' e hee hb
        rcases Nat.lt_or_ge j i with hlt | hge
        · exact he j o' hlt ho' e hee hb
        · have : j = i := by omega
          subst this
          rw [ho] at ho'; injection ho' with ho'; subst ho'
          exact k1 e hee hb
def tbt (m : List Nat) (i j : Nat) : Bool := match nth m i with | some v => Nat.testBit v j | none => false
theorem D0 {ops : Array Oper} {m : List Nat} (hm : MB ops m) {i j : Nat} (h : tbt m i j = true) : Bf ops i j := by
  unfold tbt at h
  cases hn : nth m i with
  | none => simp only [hn] at h; cases h
  | some v => simp only [hn] at h; rw [Hn] at hn; exact hm i j v hn h
def allI {α : Type} (f : Nat → α → Bool) : List α → Nat → Bool
  | [], _ => true
  | x :: l, i => f i x && allI f l (i + 1)
theorem Fl {α : Type} {f : Nat → α → Bool} : ∀ {l : List α} {i : Nat}, allI f l i = true → ∀ (j : Nat) (x : α), l[j]? = some x → f (i + j) x = true
  | [], i, h, j, x, hx => by simp at hx
  | y :: l, i, h, j, x, hx => by
    obtain ⟨h1, h2⟩ := Q3 h
    cases j with
    | zero => simp at hx; subst hx; exact h1
    | succ j => have := Fl h2 j x (by simpa using hx); rw [show i + (j + 1) = i + 1 + j by omega]; exact this
def dsts : List Op2 → Nat → List (Nat × Nat)
  | [], _ => []
  | x :: l, i => (match x.dst with | none => dsts l (i + 1) | some p => (i, p.dec) :: dsts l (i + 1))
theorem Hq : ∀ {l : List Op2} {i j : Nat} {x : Op2} {p : Pa}, l[j]? = some x → x.dst = some p → (i + j, p.dec) ∈ dsts l i
  | [], i, j, x, p, h, hp => by simp at h
  | y :: l, i, j, x, p, h, hp => by
    unfold dsts
    cases j with
    | zero => simp at h; subst h; simp [hp]
    | succ j =>
      have := Hq (i := i + 1) (j := j) (l := l) (by simpa using h) hp
      rw [show i + (j + 1) = i + 1 + j by omega]
      split
      · exact this
      · exact List.mem_cons_of_mem _ this
def hvr : List Op2 → Nat → Nat → List (Nat × Nat)
  | [], _, _ => []
  | x :: l, i, r => (match isH x with | true => (i, r) :: hvr l (i + 1) (r + 1) | false => hvr l (i + 1) r)
theorem Fn : ∀ {l : List Op2} {i r j : Nat} {y : Op2}, l[j]? = some y → isH y = true → (i + j, r + Ue l j) ∈ hvr l i r
  | [], i, r, j, y, h, hy => by simp at h
  | x :: l, i, r, j, y, h, hy => by
    unfold hvr
    cases j with
    | zero => simp at h; subst h; simp [hy, Ue]
    | succ j =>
      have h : l[j]? = some y := by simpa using h
      cases hx : isH x with
      | true =>
        have := Fn (i := i + 1) (r := r + 1) h hy
        have e : Ue (x :: l) (j + 1) = Ue l j + 1 := by simp [Ue, hx]
        rw [e, show i + (j + 1) = i + 1 + j by omega, show r + (Ue l j + 1) = r + 1 + Ue l j by omega]
        exact List.mem_cons_of_mem _ this
      | false =>
        have := Fn (i := i + 1) (r := r) h hy
        have e : Ue (x :: l) (j + 1) = Ue l j := by simp [Ue, hx]
        rw [e, show i + (j + 1) = i + 1 + j by omega]
        exact this
def impB (a b : Bool) : Bool := match a with | true => b | false => true
theorem Rz {a b : Bool} (h : impB a b = true) (ha : a = true) : b = true := by subst ha; exact h
def cSlot (m : List Nat) (ds : List (Nat × Nat)) (i : Nat) (p : Pa) : Bool :=
  ds.all fun d => impB (Nat.beq d.2 p.dec) (Nat.beq d.1 i || ((Nat.blt d.1 i && tbt m i d.1) || (Nat.blt i d.1 && tbt m d.1 i)))
def cDr1 (m : List Nat) (ds hs : List (Nat × Nat)) (i : Nat) (x : Op2) : Bool :=
  (match x.dst with | none => true | some p => ds.all fun d => impB (Nat.beq d.2 p.dec) (Nat.beq d.1 i)) &&
  ((Rn (ods1 x.op)).all (cSlot m ds i) && ((match x.grd with | none => true | some g => cSlot m ds i g.1) &&
  (match x.op with
    | .l lo hi _ => hs.all fun d => impB (Nat.blt d.2 lo) (tbt m i d.1) && impB (Nat.beq d.2 hi) (tbt m d.1 i)
    | .h bf _ => bf.all (fun j => Nat.blt j i && tbt m i j) && hs.all fun d => impB (Nat.blt d.1 i) (tbt m i d.1)
    | _ => true)))
def cDr (P : Program) (E : Kn) (N : Nat) (l : List Op2) (ops : Array Oper) : Bool :=
  Rx (cO2 P E N ops.toList) l ops.toList && (match bms ops.toList [] 0 with | none => false | some m => allI (cDr1 m (dsts l 0) (hvr l 0 0)) l 0)
theorem cDr_ok {P : Program} {E : Kn} (hE : Id P E) (hM : P.follows .mixedOrders = true) {N : Nat} {l : List Op2} {ops : Array Oper} (h : cDr P E N l ops = true) : Eo P N l ops := by
  obtain ⟨h1, h2⟩ := Q3 h
  cases hb : bms ops.toList [] 0 with
  | none => simp only [hb] at h2; cases h2
  | some m =>
    simp only [hb] at h2
    obtain ⟨hm, he⟩ := bms_ok (ops := ops) hb rfl (fun j => by simp) (fun j k v hv => by simp at hv) (fun j o hj => absurd hj (Nat.not_lt_zero _))
    obtain ⟨l1, l2⟩ := Bx h1
    have one : ∀ (i : Nat) (x : Op2), l[i]? = some x → cDr1 m (dsts l 0) (hvr l 0 0) i x = true := fun i x hx => by have := Fl h2 i x hx; rwa [Nat.zero_add] at this
    have dm : ∀ {j : Nat} {y : Op2} {p : Pa}, l[j]? = some y → y.dst = some p → (j, p.dec) ∈ dsts l 0 := fun hy hp => by have := Hq (i := 0) hy hp; rwa [Nat.zero_add] at this
    have hmm : ∀ {j : Nat} {y : Op2}, l[j]? = some y → isH y = true → (j, Ue l j) ∈ hvr l 0 0 := fun hy hp => by have := Fn (i := 0) (r := 0) hy hp; rwa [Nat.zero_add, Nat.zero_add] at this
    have slot1 : ∀ {i : Nat} {p : Pa}, cSlot m (dsts l 0) i p = true → ∀ (j : Nat) (y : Op2), l[j]? = some y → y.dst = some p → j ≠ i → (j < i ∧ Bf ops i j) ∨ (i < j ∧ Bf ops j i) := by
      intro i p hs j y hy hp hne
      have g := Rz (List.all_eq_true.1 hs _ (dm hy hp)) (Nat.beq_refl _)
      simp only [Bool.or_eq_true, Bool.and_eq_true, Nat.blt_eq] at g
      rcases g with g | g | g
      · exact absurd (Nat.eq_of_beq_eq_true g) hne
      · exact .inl ⟨g.1, D0 hm g.2⟩
      · exact .inr ⟨g.1, D0 hm g.2⟩
    refine { len := by simpa using l1, ok := fun i x o hx ho => cO2_ok hE (l2 i x o hx (by simpa using ho)), dst := ?_, edge := ?_, slot := ?_, hv := ?_, rng := ?_, bf := ?_, mix := hM }
    · intro i j x y p hx hy hp hq
      obtain ⟨g1, _⟩ := Q3 (one i x hx)
      rw [hp] at g1
      exact (Nat.eq_of_beq_eq_true (Rz (List.all_eq_true.1 g1 _ (dm hy hq)) (Nat.beq_refl _))).symm
    · intro i o ho
      have hlt := (Array.getElem?_eq_some_iff.1 ho).1
      exact he i o (by simpa using hlt) ho
    · intro i x p hx hp j y hy hd hne
      obtain ⟨_, g2⟩ := Q3 (one i x hx)
      obtain ⟨g2, g3⟩ := Q3 g2
      obtain ⟨g3, _⟩ := Q3 g3
      rcases hp with hp | ⟨b, hp⟩
      · exact slot1 (List.all_eq_true.1 g2 p hp) j y hy hd hne
      · rw [hp] at g3
        exact slot1 g3 j y hy hd hne
    · intro i j x y hx hy hhx hhy hij
      obtain ⟨_, g2⟩ := Q3 (one j y hy)
      obtain ⟨_, g3⟩ := Q3 g2
      obtain ⟨_, g4⟩ := Q3 g3
      unfold isH at hhy
      cases hop : y.op with
      | h bf ho =>
        rw [hop] at g4
        obtain ⟨_, g5⟩ := Q3 g4
        exact D0 hm (Rz (List.all_eq_true.1 g5 _ (hmm hx hhx)) (by rw [Nat.blt_eq]; exact hij))
      | _ => rw [hop] at hhy; cases hhy
    · intro i x lo hi o hx hop j y hy hhy
      obtain ⟨_, g2⟩ := Q3 (one i x hx)
      obtain ⟨_, g3⟩ := Q3 g2
      obtain ⟨_, g4⟩ := Q3 g3
      rw [hop] at g4
      obtain ⟨g5, g6⟩ := Q3 (List.all_eq_true.1 g4 _ (hmm hy hhy))
      exact ⟨fun h => D0 hm (Rz g5 (by rw [Nat.blt_eq]; exact h)), fun h => D0 hm (Rz g6 (by rw [h]; exact Nat.beq_refl _))⟩
    · intro j y bf ho hy hop i hi
      obtain ⟨_, g2⟩ := Q3 (one j y hy)
      obtain ⟨_, g3⟩ := Q3 g2
      obtain ⟨_, g4⟩ := Q3 g3
      rw [hop] at g4
      obtain ⟨g5, _⟩ := Q3 g4
      obtain ⟨g6, g7⟩ := Q3 (List.all_eq_true.1 g5 i hi)
      rw [Nat.blt_eq] at g6
      exact ⟨g6, D0 hm g7⟩
def cC (P : Program) (E : Kn) (N : Nat) : AC → Code → Bool
  | .skip, A => (match A with | .skip => true | _ => false)
  | .reg l, A => (match A with | .region _ ops d => Y2 d && cRg P E N l ops | _ => false)
  | .drw l, A => (match A with | .region _ ops d => d && cDr P E N l ops | _ => false)
  | .seq a b, A => (match A with | .seq A B => cC P E N a A && cC P E N b B | _ => false)
  | .cnd x a b, A => (match A with | .cond X A B => cOd x X && (cC P E N a A && cC P E N b B) | _ => false)
  | .blk i a, A => (match A with | .block j A => Nat.beq i j && cC P E N a A | _ => false)
  | .lp a, A => (match A with | .loop A => cC P E N a A | _ => false)
  | .ext i, A => (match A with | .exit j => Nat.beq i j | _ => false)
  | .ret, A => (match A with | .ret => true | _ => false)
  | .rf f ps a b, A => (match A with | .rangeFunc F PS A B => cOd f F && (Rx (fun p t => Nat.beq p.dec t && Nat.blt p.dec N) ps PS.toList && (cC P E N a A && cC P E N b B)) | _ => false)
  | .gc _ _ a, A => cC P E N a A
  | .bad, _ => true
theorem cC_ok {P : Program} {E : Kn} (hE : Id P E) (hM : P.follows .mixedOrders = true) {N : Nat} : ∀ {x : AC} {A : Code}, cC P E N x A = true → CkC P N x A := by
  intro x
  induction x with
  | skip => intro A h; cases A <;> first | (cases h; done) | exact .skip
  | reg l =>
    intro A h
    cases A <;> try (cases h; done)
    obtain ⟨h1, h2⟩ := Q3 h
    have h1 := Zv h1
    subst h1
    exact .reg (cRg_ok hE h2)
  | drw l =>
    intro A h
    cases A <;> try (cases h; done)
    obtain ⟨h1, h2⟩ := Q3 h
    subst h1
    exact .drw (cDr_ok hE hM h2)
  | seq a b iha ihb =>
    intro A h
    cases A <;> try (cases h; done)
    obtain ⟨h1, h2⟩ := Q3 h
    exact .seq (iha h1) (ihb h2)
  | cnd x a b iha ihb =>
    intro A h
    cases A <;> try (cases h; done)
    obtain ⟨h1, g2⟩ := Q3 h; obtain ⟨h2, h3⟩ := Q3 g2
    exact .cnd (Q4 h1) (iha h2) (ihb h3)
  | blk i a iha =>
    intro A h
    cases A <;> try (cases h; done)
    obtain ⟨h1, h2⟩ := Q3 h
    have e := Nat.eq_of_beq_eq_true h1
    subst e
    exact .blk (iha h2)
  | lp a iha =>
    intro A h
    cases A <;> try (cases h; done)
    exact .lp (iha h)
  | ext i =>
    intro A h
    cases A <;> try (cases h; done)
    have e := Nat.eq_of_beq_eq_true h
    subst e
    exact .ext
  | ret => intro A h; cases A <;> first | (cases h; done) | exact .ret
  | rf f ps a b iha ihb =>
    intro A h
    cases A <;> try (cases h; done)
    obtain ⟨h1, g2⟩ := Q3 h; obtain ⟨h2, g3⟩ := Q3 g2; obtain ⟨h3, h4⟩ := Q3 g3
    have key : ∀ {l : List Pa} {m : List Nat}, Rx (fun (p : Pa) t => Nat.beq p.dec t && Nat.blt p.dec N) l m = true → m = l.map Pa.dec ∧ ∀ p ∈ l, p.dec < N := by
      intro l
      induction l with
      | nil => intro m h; exact ⟨J6 h, fun p hp => by simp at hp⟩
      | cons p l ih =>
        intro m h
        obtain ⟨t, r, e, h1, h2⟩ := Ja h
        subst e
        obtain ⟨i1, i2⟩ := ih h2
        obtain ⟨h1, h3⟩ := Q3 h1
        rw [Nat.blt_eq] at h3
        refine ⟨by rw [List.map_cons, Nat.eq_of_beq_eq_true h1, i1], fun q hq => ?_⟩
        simp at hq
        rcases hq with rfl | hq
        · exact h3
        · exact i2 q hq
    obtain ⟨k1, k2⟩ := key h2
    exact .rf (Q4 h1) k1 k2 (iha h3) (ihb h4)
  | gc ks fs a iha => intro A h; exact .gc (iha h)
  | bad => intro A h; exact .bad
def cRs (P : Program) (l : List Rv) (L : List ResultVar) : Bool := Rx (fun r R => match r with
  | .t p => (match R with | .tmp t => Nat.beq p.dec t | _ => false)
  | .c p n => (match R with | .cell a t => Nat.beq p.dec a && cLd P t n | _ => false)) l L
theorem cRs_ok {P : Program} : ∀ {l : List Rv} {L : List ResultVar}, cRs P l L = true → RsOk P l L
  | [], L, h => J6 h
  | r :: l, L, h => by
    obtain ⟨R, s, e, h1, h2⟩ := Ja h
    subst e
    cases r with
    | t p =>
      cases R <;> try (cases h1; done)
      have e := Nat.eq_of_beq_eq_true h1
      exact ⟨s, by rw [e], cRs_ok h2⟩
    | c p n =>
      cases R <;> try (cases h1; done)
      obtain ⟨g1, g2⟩ := Q3 h1
      obtain ⟨d, g3, g4⟩ := cLd_ok g2
      have e := Nat.eq_of_beq_eq_true g1
      exact ⟨_, d, s, by rw [e], g3, g4, cRs_ok h2⟩
def cF (P : Program) (E : Kn) (c : CF) (fn : Func) : Bool :=
  allI (fun i (p : Pa) => Nat.beq p.dec i) c.ps 0 && (Nat.ble c.ps.length fn.ntmps && (cRs P c.rs fn.results.toList && (match fn.body with | some b => cC P E fn.ntmps c.body b | none => false)))
theorem cF_ok {P : Program} {E : Kn} (hE : Id P E) (hM : P.follows .mixedOrders = true) {c : CF} {fn : Func} (h : cF P E c fn = true) : CfOk P c fn := by
  obtain ⟨h1, g2⟩ := Q3 h; obtain ⟨h2, g3⟩ := Q3 g2; obtain ⟨h3, h4⟩ := Q3 g3
  refine ⟨fun i p hp => by have := Fl h1 i p hp; rw [Nat.zero_add] at this; exact Nat.eq_of_beq_eq_true this, Nat.le_of_ble_eq_true h2, cRs_ok h3, ?_⟩
  cases hb : fn.body with
  | none => simp only [hb] at h4; cases h4
  | some b => simp only [hb] at h4; exact ⟨b, rfl, cC_ok hE hM h4⟩
def FnOk (P : Program) (g : Pa) (c : CF) : Prop := ∃ fn, P.funcs[g.dec]? = some fn ∧ (fn.name == "runtime.NumGoroutine") = false ∧ fn.body.isNone = false ∧ (c.pr = 0 → CfOk P c fn)
def Qf (fn : Func) : Bool := Y2 (fn.name == "runtime.NumGoroutine") && Y2 fn.body.isNone
theorem Qu {P : Program} {E : Kn} (hE : Id P E) (hM : P.follows .mixedOrders = true) {g : Pa} {c : CF} {fn : Func} (hf : P.funcs[g.dec]? = some fn) (h : (Qf fn && cF P E c fn) = true) : FnOk P g c := by
  obtain ⟨h1, h2⟩ := Q3 h
  obtain ⟨h3, h4⟩ := Q3 h1
  exact ⟨fn, hf, Zv h3, Zv h4, fun _ => cF_ok hE hM h2⟩
theorem fnPr {P : Program} {g : Pa} {c : CF} {fn : Func} (hf : P.funcs[g.dec]? = some fn) (hc : Y2 (Nat.beq c.pr 0) = true) (h : Qf fn = true) : FnOk P g c := by
  obtain ⟨h3, h4⟩ := Q3 h
  exact ⟨fn, hf, Zv h3, Zv h4, fun e => absurd e (notB0 hc)⟩
def Qo {α : Type} : Tr α → (Pa → α → Prop) → Prop
  | .e, _ => True
  | .n l v r, Q => Qo l (fun p => Q (.o p)) ∧ (∀ x, v = some x → Q .h x) ∧ Qo r (fun p => Q (.i p))
theorem Qo.get {α : Type} : ∀ {t : Tr α} {Q : Pa → α → Prop}, Qo t Q → ∀ (p : Pa) (x : α), Q5 p t = some x → Q p x
  | .e, Q, h, p, x, hp => by rw [Xi] at hp; cases hp
  | .n l v r, Q, ⟨h1, h2, h3⟩, p, x, hp => by
    cases p with
    | h => exact h2 x hp
    | o p => exact Qo.get h1 p x hp
    | i p => exact Qo.get h3 p x hp
theorem Qo.some {Q : CF → Prop} {y : CF} (h : Q y) : ∀ x, Option.some y = Option.some x → Q x := fun x e => by injection e with e; subst e; exact h
theorem Qo.none {Q : CF → Prop} : ∀ x, (Option.none : Option CF) = Option.some x → Q x := fun x e => by cases e
theorem ctOk_of {P : Program} {ct : Tr CF} (h : Qo ct (FnOk P)) : CtOk P ct := ⟨fun g c hg => h.get g c hg⟩
end
end Go.Ev
namespace Go.Ev
open Go.RowKit
def bs (l : List Nat) : List UInt8 := l.map UInt8.ofNat
theorem bs_append (a b : List Nat) : bs (a ++ b) = bs a ++ bs b := by simp [bs]
theorem joinL_ok {sep : List Nat} : ∀ {ls : List (List Nat)} {r : List Nat}, joinL sep ls = some r → Lib.join (ls.map bs) (bs sep) = bs r ∧ ((∀ b ∈ sep, b < 256) → (∀ s ∈ ls, ∀ b ∈ s, b < 256) → ∀ b ∈ r, b < 256)
  | [], r, h => by
    have h : some [] = some r := h
    injection h with h; subst h
    exact ⟨rfl, fun _ _ b hb => by simp at hb⟩
  | a :: ls, r, h => by
    have key : ∀ (ls : List (List Nat)) (a r : List Nat), lf (M := List Nat → Option (List Nat)) some (fun x _ ih a => bd (Dl a sep) fun a => bd (Dl a x) ih) ls a = some r →
        Lib.join (bs a :: ls.map bs) (bs sep) = bs r ∧ ((∀ b ∈ sep, b < 256) → (∀ s ∈ a :: ls, ∀ b ∈ s, b < 256) → ∀ b ∈ r, b < 256) := by
      intro ls
      induction ls with
      | nil =>
        intro a r h
        have h : some a = some r := h
        injection h with h; subst h
        exact ⟨by simp [Lib.join, List.intercalate], fun _ h b hb => h a (by simp) b hb⟩
      | cons x ls ih =>
        intro a r h
        obtain ⟨a1, h1, h⟩ := Qa (x := Dl a sep) h
        obtain ⟨a2, h2, h⟩ := Qa (x := Dl a1 x) h
        have e1 := Zn h1
        have e2 := Zn h2
        subst e1; subst e2
        obtain ⟨i1, i2⟩ := ih _ _ h
        refine ⟨?_, fun h1 h2 => i2 h1 fun s hs => ?_⟩
        · rw [← i1]
          simp only [Lib.join, List.intercalate, List.map_cons, bs_append]
          cases ls with
          | nil => simp [List.intersperse]
          | cons y ls => simp [List.intersperse]
        · simp at hs
          rcases hs with rfl | hs
          · intro b hb
            simp at hb
            rcases hb with hb | hb | hb
            · exact h2 a (by simp) b hb
            · exact h1 b hb
            · exact h2 x (by simp) b hb
          · exact h2 s (by simp [hs])
    exact key ls a r h
def trOne {α : Type} (f : α → Bool) (v : Option α) : Bool := match v with | none => true | some c => f c
def If {α : Type} (f : Pa → α → Bool) : Tr α → Bool
  | .e => true
  | .n l v r => If (fun p => f (.o p)) l && (trOne (f .h) v && If (fun p => f (.i p)) r)
theorem Bz {α : Type} : ∀ {t : Tr α} {f : Pa → α → Bool}, If f t = true → ∀ p x, Q5 p t = some x → f p x = true
  | .e, f, h, p, x, hp => by rw [Xi] at hp; cases hp
  | .n l v r, f, h, p, x, hp => by
    obtain ⟨h1, h2⟩ := Q3 (show (If (fun p => f (.o p)) l && (trOne (f .h) v && If (fun p => f (.i p)) r)) = true from h)
    obtain ⟨h2, h3⟩ := Q3 h2
    cases p with
    | h =>
      have hp : v = some x := hp
      subst hp
      exact h2
    | o p => exact Bz h1 p x hp
    | i p => exact Bz h3 p x hp
noncomputable def prAt (l : List Nat) (g : Pa) (c : CF) : Bool := match c.pr with | 0 => true | k + 1 => (match l[k]? with | some n => Nat.beq g.dec n | none => false)
end Go.Ev
