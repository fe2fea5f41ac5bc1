import Derived.Test.YtibipfdpembkgaaGreatDoorPkTopGrace2
set_option linter.unusedSimpArgs false
set_option linter.unusedVariables false
set_option linter.unusedSectionVars false
set_option maxRecDepth 100000
set_option maxHeartbeats 40000000
namespace Go.Ev
inductive Pa where
  | h | o (p : Pa) | i (p : Pa)
inductive Tr (α : Type) where
  | e | n (l : Tr α) (v : Option α) (r : Tr α)
noncomputable section
def Pa.fold {M : Type} (a : M) (b c : Pa → M → M) (p : Pa) : M := Pa.rec (motive := fun _ => M) a b c p
def Tr.fold {α M : Type} (a : M) (b : Tr α → Option α → Tr α → M → M → M) (t : Tr α) : M := Tr.rec (motive := fun _ => M) a b t
def nf {M : Type} (a : M) (b : Nat → M → M) (n : Nat) : M := Nat.rec (motive := fun _ => M) a b n
def lf {α M : Type} (a : M) (b : α → List α → M → M) (l : List α) : M := List.rec (motive := fun _ => M) a b l
abbrev bd {α β : Type} (x : Option α) (f : α → Option β) : Option β := Option.rec (motive := fun _ => Option β) none f x
abbrev Vd {α : Type} (c : Bool) (t e : α) : α := Bool.rec (motive := fun _ => α) e t c
def Uh (n : Nat) : Option Nat := Nat.rec (motive := fun _ => Option Nat) none (fun k _ => some k) (Nat.succ n)
def Pa.dec (p : Pa) : Nat := p.fold 0 (fun _ d => 2 * d + 1) (fun _ d => 2 * d + 2)
def Pa.succ (p : Pa) : Option Pa := p.fold (M := Option Pa) (some (.o .h)) (fun q _ => some (.i q)) (fun _ ih => bd ih fun s => some (.o s))
def Pa.eq (p : Pa) : Pa → Bool :=
  p.fold (fun q => Pa.casesOn (motive := fun _ => Bool) q true (fun _ => false) (fun _ => false))
    (fun _ ih q => Pa.casesOn (motive := fun _ => Bool) q false ih (fun _ => false))
    (fun _ ih q => Pa.casesOn (motive := fun _ => Bool) q false (fun _ => false) ih)
section
variable {α : Type}
def Q5 (p : Pa) : Tr α → Option α :=
  Pa.rec (motive := fun _ => Tr α → Option α) (Tr.rec (motive := fun _ => Option α) none (fun _ v _ _ _ => v)) (fun _ ih t => Tr.rec (motive := fun _ => Option α) none (fun l _ _ _ _ => ih l) t) (fun _ ih t => Tr.rec (motive := fun _ => Option α) none (fun _ _ r _ _ => ih r) t) p
def oneP (x : Option α) (p : Pa) : Tr α := Pa.rec (motive := fun _ => Tr α) (.n .e x .e) (fun _ ih => .n ih none .e) (fun _ ih => .n .e none ih) p
def Nu (x : Option α) (p : Pa) : Tr α → Option (Tr α) :=
  Pa.rec (motive := fun _ => Tr α → Option (Tr α)) (fun t => Tr.rec (motive := fun _ => Option (Tr α)) (some (.n .e x .e)) (fun l _ r _ _ => some (.n l x r)) t)
    (fun q ih t => Tr.rec (motive := fun _ => Option (Tr α)) (some (.n (oneP x q) none .e)) (fun l v r _ _ => Option.rec (motive := fun _ => Option (Tr α)) none (fun l => some (.n l v r)) (ih l)) t)
    (fun q ih t => Tr.rec (motive := fun _ => Option (Tr α)) (some (.n .e none (oneP x q))) (fun l v r _ _ => Option.rec (motive := fun _ => Option (Tr α)) none (fun r => some (.n l v r)) (ih r)) t) p
def B6 (t : Tr α) : Nat → Option α :=
  Tr.rec (motive := fun _ => Nat → Option α) (fun _ => none) (fun _ v _ gl gr k => Nat.rec (motive := fun _ => Option α) v (fun k _ => Bool.rec (motive := fun _ => Option α) (gr (Nat.div k 2)) (gl (Nat.div k 2)) (Nat.beq (Nat.mod k 2) 0)) k) t
def paOf (k : Nat) : Option Pa :=
  nf (M := Nat → Option Pa) (fun _ => none) (fun _ ih k => Nat.casesOn (motive := fun _ => Option Pa) k (some .h) fun k => Vd (Nat.beq (Nat.mod k 2) 0) (bd (ih (Nat.div k 2)) fun p => some (.o p)) (bd (ih (Nat.div k 2)) fun p => some (.i p))) 64 k
end
inductive AV where
  | b (x : Bool) | i (k : IntKind) (n : Int) | s (l : List Nat)
  | p (x : Pa) (o : Nat) | pn
  | sl (x : Pa) (o n c : Nat) (ex : Bool) (z : Nat) | sln
  | m (x : Pa) | mn
  | f (g : Pa) (first cap : List AV) | y (x : Pa) | fn0
  | ifc (t : Nat) (v : AV) | ifn
  | ag (l : List AV) | tu (l : List AV)
  | q (n : Nat)
inductive Od where
  | t (p : Pa) | c (v : AV)
inductive Tg0 where
  | x | b | p | s | m | f | i | n | g (n : Nat)
inductive LOp where
  | mv (x : Od) | cvs (x : Od) | pick (c a b : Od) | build (z : List AV) (ps : List (Nat × Nat × Od))
  | bin (op : BinOp) (g : Tg0) (x y : Od) | eqa (ne : Bool) (ks : List Tg0) (x y : Od) | un (op : UnOp) (x : Od)
  | cvi (k : IntKind) (x : Od) | bts (x : Od)
  | idxs (x i : Od) | idxa (x i : Od) (n z : Nat) (agg : Bool) | fld (x : Od) (off n : Nat) (agg : Bool) | ext (x : Od) (i : Nat)
  | mkf (g : Pa) (first cap : List Od) | mki (t : Nat) (x : Od) | nilc (x : Od) | len (g : Tg0) (x : Od) | cap (x : Od)
  | slc (g : Tg0) (x : Od) (lo hi mx : Option Od) (z : Nat) | sla (x : Od) (lo hi mx : Option Od) (n z : Nat)
  | fa (x : Od) (off : Nat) | ia (x i : Od) (z : Nat) | iap (x i : Od) (n z : Nat)
  | maxi (a b : Od) | mini (a b : Od)
  | load (n : Option Nat) (x : Od) | lkp (g : Tg0) (m k : Od) (zero : AV) (ok : Bool) | entry (x : Od) | ta (x : Od) (t : Nat) (ok : Bool) (zero : AV)
inductive KOp where
  | alloc (z : List AV) | box (x : Od) | bsl (n z : Nat) (zs : List AV) (ps : List (Nat × Nat × Od)) | bslm (n z : Nat) (ps : List (Nat × Nat × Od)) | mkm (x : Option Od) | mks (l c : Od) (z : Nat) (zs : List AV) | rng (x : Od) | stb (x : Od)
inductive HOp where
  | store (n : Nat) (x v : Od) | call (g : Pa) (ar : List Od) | callm (g : Pa) (ar : List Od) | callv (f : Od) (ar : List Od)
  | inv (r : Od) (tbl : List (Nat × Pa × Option (Option Nat))) (ar : List Od)
  | app (s x : Od) (z : Nat) | copy (d s : Od) (z : Nat) | clear (x : Od) (z : Nat) (zs : List AV) | del (g : Tg0) (m k : Od)
  | mup (g : Tg0) (m k v : Od) | ment (g : Tg0) (m k : Od) (zero : AV) | mst (m st v : Od) | next (it : Od)
inductive Op1 where
  | l (lo hi : Nat) (o : LOp) | k (o : KOp) | h (bf : List Nat) (o : HOp) | m (x : Od)
structure Op2 where
  dst : Option Pa
  grd : Option (Pa × Bool)
  op : Op1
def oM (d x : Pa) : Op2 := ⟨some d, none, .l 0 0 (.mv (.t x))⟩
def oL (d : Pa) (o : LOp) : Op2 := ⟨some d, none, .l 0 0 o⟩
def oG (d g : Pa) (b : Bool) (o : LOp) : Op2 := ⟨some d, some (g, b), .l 0 0 o⟩
def oI (n : Nat) : Od := .c (.i .i64 (.ofNat n))
inductive AC where
  | skip | reg (l : List Op2) | drw (l : List Op2) | seq (a b : AC) | cnd (x : Od) (a b : AC) | blk (id : Nat) (c : AC) | lp (c : AC) | ext (id : Nat) | ret
  | rf (f : Od) (ps : List Pa) (asg body : AC) | gc (ks fs : List Pa) (c : AC) | bad
inductive Ex where
  | nm | ex (id : Nat) | rt
inductive LS where
  | ready | busy | done
inductive AO where
  | cells (t : Tr AV) (zs : List AV) (n : Nat)
  | map (es : List (AV × AV × Nat)) (clock : Nat)
  | iter (m : Option Pa) (since : Nat) (seen : List Nat) (stepped : Nat)
  | loop (fr : Tr AV) (ps : List Pa) (asg body : AC) (st : LS) (pend : Ex)
  | dfr
structure H where
  ro : Tr AO
  rw : Tr AO
  nx : Pa
inductive Rv where
  | t (p : Pa) | c (p : Pa) (n : Option Nat)
structure CF where
  ps : List Pa
  rs : List Rv
  body : AC
  pr : Nat
inductive Rs (α : Type) where
  | z | one (a : α) | many (l : List α)
abbrev rb {α β : Type} (x : Rs α) (f : α → Rs β) (g : List α → Rs β) : Rs β := Rs.rec (motive := fun _ => Rs β) .z f g x
def Gj {α : Type} (x : Rs α) : Option (List α) := Rs.casesOn (motive := fun _ => Option (List α)) x none (fun a => some [a]) some
def Rs.ofL {α : Type} (l : List α) : Rs α := List.casesOn (motive := fun _ => Rs α) l .z fun a r => List.casesOn (motive := fun _ => Rs α) r (.one a) fun _ _ => .many l
def appE {α : Type} (l m : List α) : List α := lf m (fun a _ r => a :: r) l
def Rs.all {α β : Type} (f : α → Rs β) (l : List α) : Rs β :=
  Option.casesOn (motive := fun _ => Rs β) (lf (M := Option (List β)) (some []) (fun a _ ih => bd (Gj (f a)) fun x => bd ih fun r => some (appE x r)) l) .z Rs.ofL
abbrev Fx {α β : Type} (x : Rs α) (f : α → Rs β) : Rs β := rb x f (Rs.all f)
abbrev ob {α β : Type} (x : Option α) (f : α → Rs β) : Rs β := Option.rec (motive := fun _ => Rs β) .z f x
def nthE {α : Type} (l : List α) : Nat → Option α := lf (fun _ => none) (fun a _ ih k => Nat.casesOn (motive := fun _ => Option α) k (some a) ih) l
def R7 {α : Type} (l : List α) : Nat := lf (M := Nat → Nat) (fun k => k) (fun _ _ ih k => ih (Nat.succ k)) l 0
def Fy {α : Type} (l : List α) : Option Nat := Uh (R7 l)
def Gq {α β : Type} (f : α → Option β) (l : List α) : Option (List β) := lf (some []) (fun a _ ih => bd (f a) fun x => bd ih fun r => some (x :: r)) l
def takeE {α : Type} (l : List α) : Nat → Option (List α) := lf (fun k => Nat.casesOn (motive := fun _ => Option (List α)) k (some []) fun _ => none) (fun a _ ih k => Nat.casesOn (motive := fun _ => Option (List α)) k (some []) fun k => bd (ih k) fun r => some (a :: r)) l
def dropE {α : Type} (l : List α) : Nat → Option (List α) := lf (fun k => Nat.casesOn (motive := fun _ => Option (List α)) k (some []) fun _ => none) (fun a l ih k => Nat.casesOn (motive := fun _ => Option (List α)) k (some (a :: l)) ih) l
def Dl {α : Type} (l m : List α) : Option (List α) := lf (some m) (fun a _ ih => bd ih fun r => some (a :: r)) l
def slE {α : Type} (l : List α) (a n : Nat) : Option (List α) := bd (dropE l a) fun l => takeE l n
def wrapU (m : Nat) (n : Int) : Option Int := Int.casesOn (motive := fun _ => Option Int) n (fun a => bd (Uh (Nat.mod a m)) fun a => some (.ofNat a)) (fun a => bd (Uh (Nat.sub (Nat.sub m 1) (Nat.mod a m))) fun a => some (.ofNat a))
def wrapS (h : Nat) (n : Int) : Option Int := Int.casesOn (motive := fun _ => Option Int) n
  (fun a => Vd (Nat.blt a h) (bd (Uh a) fun a => some (.ofNat a)) none)
  (fun a => Vd (Nat.blt a h) (bd (Uh a) fun a => some (.negSucc a)) none)
def Hw (k : IntKind) (n : Int) : Option Int := IntKind.rec (motive := fun _ => Int → Option Int)
  (wrapS 128) (wrapS 32768) (wrapS 2147483648) (wrapS 9223372036854775808) (wrapU 256) (wrapU 65536) (wrapU 4294967296) (wrapU 18446744073709551616) k n
def kEq (a b : IntKind) : Bool := Nat.beq (IntKind.rec (motive := fun _ => Nat) 0 1 2 3 4 5 6 7 a) (IntKind.rec (motive := fun _ => Nat) 0 1 2 3 4 5 6 7 b)
def kBits (a : IntKind) : Nat := IntKind.casesOn (motive := fun _ => Nat) a 8 16 32 64 8 16 32 64
def ltI (a b : Int) : Bool := Int.rec (motive := fun _ => Int → Bool)
  (fun a => Int.rec (motive := fun _ => Bool) (fun b => Nat.blt a b) (fun _ => false))
  (fun a => Int.rec (motive := fun _ => Bool) (fun _ => true) (fun b => Nat.blt b a)) a b
def eqI (a b : Int) : Bool := Int.rec (motive := fun _ => Int → Bool)
  (fun a => Int.rec (motive := fun _ => Bool) (fun b => Nat.beq a b) (fun _ => false))
  (fun a => Int.rec (motive := fun _ => Bool) (fun _ => false) (fun b => Nat.beq a b)) a b
def Y2 (x : Bool) : Bool := Bool.rec (motive := fun _ => Bool) true false x
def Z3 (x y : Bool) : Bool := Bool.rec (motive := fun _ => Bool) false y x
def orB (x y : Bool) : Bool := Bool.rec (motive := fun _ => Bool) y true x
def Jm (x : Bool) : Option AV := Bool.rec (motive := fun _ => Option AV) (some (.b false)) (some (.b true)) x
def Bd (n : Int) : Option Nat := Int.rec (motive := fun _ => Option Nat) Uh (fun _ => none) n
def eqL (a : List Nat) : List Nat → Bool := lf (fun b => List.casesOn (motive := fun _ => Bool) b true fun _ _ => false) (fun x _ ih b => List.casesOn (motive := fun _ => Bool) b false fun y b => Z3 (Nat.beq x y) (ih b)) a
def ltL (a : List Nat) : List Nat → Bool := lf (fun b => List.casesOn (motive := fun _ => Bool) b false fun _ _ => true) (fun x _ ih b => List.casesOn (motive := fun _ => Bool) b false fun y b => orB (Nat.blt x y) (Z3 (Nat.beq x y) (ih b))) a
def eqA {α : Type} (f : α → α → Bool) (a : List α) : List α → Bool := lf (fun b => List.casesOn (motive := fun _ => Bool) b true fun _ _ => false) (fun x _ ih b => List.casesOn (motive := fun _ => Bool) b false fun y b => Z3 (f x y) (ih b)) a
def bEq (x y : Bool) : Bool := Bool.casesOn (motive := fun _ => Bool) x (Y2 y) y
def eqv1 (ih : AV → AV → Bool) (a b : AV) : Bool :=
  match a, b with
  | .b x, .b y => bEq x y
  | .i k n, .i j m => Z3 (kEq k j) (eqI n m)
  | .s l, .s m => eqL l m
  | .p x o, .p y q => Z3 (Pa.eq x y) (Nat.beq o q)
  | .pn, .pn => true
  | .sl x o n c e z, .sl x' o' n' c' e' z' => Z3 (Pa.eq x x') (Z3 (Nat.beq o o') (Z3 (Nat.beq n n') (Z3 (Nat.beq c c') (Z3 (bEq e e') (Nat.beq z z')))))
  | .sln, .sln => true
  | .m x, .m y => Pa.eq x y
  | .mn, .mn => true
  | .f g a c, .f g' a' c' => Z3 (Pa.eq g g') (Z3 (eqA ih a a') (eqA ih c c'))
  | .fn0, .fn0 => true
  | .ifc t v, .ifc t' v' => Z3 (Nat.beq t t') (ih v v')
  | .ifn, .ifn => true
  | .ag l, .ag m => eqA ih l m
  | .tu l, .tu m => eqA ih l m
  | _, _ => false
def eqv (a b : AV) : Bool := nf (M := AV → AV → Bool) (fun _ _ => false) (fun _ ih => eqv1 ih) 6 a b
abbrev Fm := Tr AV
def ev (fr : Fm) (x : Od) : Option AV := Od.rec (motive := fun _ => Option AV) (fun p => Q5 p fr) some x
def evs (fr : Fm) (l : List Od) : Option (List AV) := Gq (ev fr) l
def avP (v : AV) : Option (Pa × Nat) := AV.rec (motive_1 := fun _ => Option (Pa × Nat)) (motive_2 := fun _ => Unit) (fun _ => none) (fun _ _ => none) (fun _ => none) (fun x o => some (x, o)) none (fun _ _ _ _ _ _ => none) none (fun _ => none) none (fun _ _ _ _ _ => none) (fun _ => none) none (fun _ _ _ => none) none (fun _ _ => none) (fun _ _ => none) (fun _ => none) () (fun _ _ _ _ => ()) v
def avI (v : AV) : Option (IntKind × Int) := AV.rec (motive_1 := fun _ => Option (IntKind × Int)) (motive_2 := fun _ => Unit) (fun _ => none) (fun k n => some (k, n)) (fun _ => none) (fun _ _ => none) none (fun _ _ _ _ _ _ => none) none (fun _ => none) none (fun _ _ _ _ _ => none) (fun _ => none) none (fun _ _ _ => none) none (fun _ _ => none) (fun _ _ => none) (fun _ => none) () (fun _ _ _ _ => ()) v
structure SL where
  x : Pa
  o : Nat
  n : Nat
  c : Nat
  e : Bool
  z : Nat
def avL (v : AV) : Option (SL) := AV.rec (motive_1 := fun _ => Option (SL)) (motive_2 := fun _ => Unit) (fun _ => none) (fun _ _ => none) (fun _ => none) (fun _ _ => none) none (fun x o n c e z => some ⟨x, o, n, c, e, z⟩) none (fun _ => none) none (fun _ _ _ _ _ => none) (fun _ => none) none (fun _ _ _ => none) none (fun _ _ => none) (fun _ _ => none) (fun _ => none) () (fun _ _ _ _ => ()) v
def asI (v : AV) : Option (Int) := AV.rec (motive_1 := fun _ => Option (Int)) (motive_2 := fun _ => Unit) (fun _ => none) (fun _ n => some n) (fun _ => none) (fun _ _ => none) none (fun _ _ _ _ _ _ => none) none (fun _ => none) none (fun _ _ _ _ _ => none) (fun _ => none) none (fun _ _ _ => none) none (fun _ _ => none) (fun _ _ => none) (fun _ => none) () (fun _ _ _ _ => ()) v
def asN (v : AV) : Option (Nat) := AV.rec (motive_1 := fun _ => Option (Nat)) (motive_2 := fun _ => Unit) (fun _ => none) (fun _ n => Bd n) (fun _ => none) (fun _ _ => none) none (fun _ _ _ _ _ _ => none) none (fun _ => none) none (fun _ _ _ _ _ => none) (fun _ => none) none (fun _ _ _ => none) none (fun _ _ => none) (fun _ _ => none) (fun _ => none) () (fun _ _ _ _ => ()) v
def asB (v : AV) : Option (Bool) := AV.rec (motive_1 := fun _ => Option (Bool)) (motive_2 := fun _ => Unit) (fun x => some x) (fun _ _ => none) (fun _ => none) (fun _ _ => none) none (fun _ _ _ _ _ _ => none) none (fun _ => none) none (fun _ _ _ _ _ => none) (fun _ => none) none (fun _ _ _ => none) none (fun _ _ => none) (fun _ _ => none) (fun _ => none) () (fun _ _ _ _ => ()) v
def asL (v : AV) : Option (List AV) := AV.rec (motive_1 := fun _ => Option (List AV)) (motive_2 := fun _ => Unit) (fun _ => none) (fun _ _ => none) (fun _ => none) (fun _ _ => none) none (fun _ _ _ _ _ _ => none) none (fun _ => none) none (fun _ _ _ _ _ => none) (fun _ => none) none (fun _ _ _ => none) none (fun l _ => some l) (fun _ _ => none) (fun _ => none) () (fun _ _ _ _ => ()) v
def asT (v : AV) : Option (List AV) := AV.rec (motive_1 := fun _ => Option (List AV)) (motive_2 := fun _ => Unit) (fun _ => none) (fun _ _ => none) (fun _ => none) (fun _ _ => none) none (fun _ _ _ _ _ _ => none) none (fun _ => none) none (fun _ _ _ _ _ => none) (fun _ => none) none (fun _ _ _ => none) none (fun _ _ => none) (fun l _ => some l) (fun _ => none) () (fun _ _ _ _ => ()) v
def Yp (v : AV) : List AV := Option.rec (motive := fun _ => List AV) [v] (fun l => l) (asL v)
def arE (f : Int → Int → Int) (k : IntKind) (a b : Int) : Option AV := bd (Hw k (f a b)) fun n => some (.i k n)
def kTop (k : IntKind) : Nat := IntKind.casesOn (motive := fun _ => Nat) k 128 32768 2147483648 9223372036854775808 256 65536 4294967296 18446744073709551616
def bitE (f : Nat → Nat → Nat) (k : IntKind) (a b : Int) : Option AV := bd (Bd a) fun a => bd (Bd b) fun b => Vd (Z3 (Nat.blt a (kTop k)) (Nat.blt b (kTop k))) (bd (Uh (f a b)) fun n => some (.i k (.ofNat n))) none
def negE (n : Nat) : Option Int := Nat.casesOn (motive := fun _ => Option Int) n (some (.ofNat 0)) fun m => some (.negSucc m)
def quoE (k : IntKind) (a b : Int) : Option AV := bd (Bd b) fun b => Vd (Nat.beq b 0) none (Int.casesOn (motive := fun _ => Option AV) a
  (fun a => bd (Uh (Nat.div a b)) fun n => bd (Hw k (.ofNat n)) fun n => some (.i k n)) (fun a => bd (negE (Nat.div (Nat.succ a) b)) fun n => bd (Hw k n) fun n => some (.i k n)))
def remE (k : IntKind) (a b : Int) : Option AV := bd (Bd a) fun a => bd (Bd b) fun b => Vd (Nat.beq b 0) none (bd (Uh (Nat.mod a b)) fun n => some (.i k (.ofNat n)))
def shlE (k : IntKind) (a b : Int) : Option AV := bd (Bd a) fun a => bd (Bd b) fun b => bd (Uh (Nat.mul a (Nat.pow 2 (Vd (Nat.ble b (kBits k)) b (kBits k))))) fun n => bd (Hw k (.ofNat n)) fun n => some (.i k n)
def shrE (k : IntKind) (a b : Int) : Option AV := bd (Bd a) fun a => bd (Bd b) fun b => bd (Uh (Nat.div a (Nat.pow 2 (Vd (Nat.ble b (kBits k)) b (kBits k))))) fun n => some (.i k (.ofNat n))
def andNotN (a b : Nat) : Nat := Nat.xor a (Nat.land a b)
def binI (op : BinOp) (k : IntKind) (a b : Int) : Option AV := BinOp.rec (motive := fun _ => IntKind → Int → Int → Option AV) (arE Int.add) (arE Int.sub) (arE Int.mul) quoE remE (bitE Nat.land) (bitE Nat.lor) (bitE Nat.xor) shlE shrE (bitE andNotN)
  (fun _ a b => Jm (eqI a b)) (fun _ a b => Jm (Y2 (eqI a b))) (fun _ a b => Jm (ltI a b)) (fun _ a b => Jm (Y2 (ltI b a))) (fun _ a b => Jm (ltI b a)) (fun _ a b => Jm (Y2 (ltI a b))) op k a b
def binS (op : BinOp) (a b : List Nat) : Option AV :=
  match op with
  | .add => bd (Dl a b) fun l => Vd (Nat.ble (R7 l) 4294967296) (some (.s l)) none
  | .eql => Jm (eqL a b)
  | .neq => Jm (Y2 (eqL a b))
  | .lss => Jm (ltL a b)
  | .leq => Jm (orB (ltL a b) (eqL a b))
  | .gtr => Jm (Y2 (orB (ltL a b) (eqL a b)))
  | .geq => Jm (Y2 (ltL a b))
  | _ => none
def Zt (zs : List AV) : Bool := match zs with | [.pn] => true | _ => false
def Jn (x : Pa) (h : H) : Bool := match Q5 x h.rw with | some (.cells _ zs _) => Y2 (Zt zs) | some _ => false | none => match Q5 x h.ro with | some (.cells _ zs _) => Y2 (Zt zs) | _ => false
def eqG (g : Tg0) (h : H) (a b : AV) : Option Bool :=
  match g, a, b with
  | .b, .b x, .b y => some (bEq x y)
  | .p, .p x o, .p y q => Vd (Pa.eq x y) (some (Nat.beq o q)) (Vd (Z3 (Jn x h) (Jn y h)) (some false) none)
  | .p, .p _ _, .pn => some false
  | .p, .pn, .p _ _ => some false
  | .p, .pn, .pn => some true
  | .s, .sln, .sln => some true
  | .s, .sl .., .sln => some false
  | .s, .sln, .sl .. => some false
  | .m, .mn, .mn => some true
  | .m, .m _, .mn => some false
  | .m, .mn, .m _ => some false
  | .f, .fn0, .fn0 => some true
  | .f, .f .., .fn0 => some false
  | .f, .fn0, .f .. => some false
  | .i, .ifn, .ifc .. => some false
  | .i, .ifc .., .ifn => some false
  | _, _, _ => none
def eqlE (g : Tg0) (h : H) (a b : AV) : Option AV := bd (eqG g h a b) Jm
def neqE (g : Tg0) (h : H) (a b : AV) : Option AV := bd (eqG g h a b) fun e => Jm (Y2 e)
def binO (op : BinOp) (g : Tg0) (h : H) (a b : AV) : Option AV := match op with
  | .eql => eqlE g h a b
  | .neq => neqE g h a b
  | _ => none
def isSh (op : BinOp) : Bool := BinOp.rec (motive := fun _ => Bool) false false false false false false false false true true false false false false false false false op
def binII (op : BinOp) (k : IntKind) (n : Int) (j : IntKind) (m : Int) : Option AV := Vd (orB (isSh op) (kEq k j)) (binI op k n m) none
def binQ (op : BinOp) (n : Nat) (j : IntKind) (m : Int) : Option AV := match op, j with
  | .rem, .u8 => Vd (eqI m (.ofNat 12)) (some (.i .u8 (.ofNat n))) none
  | _, _ => none
def binE0 (op : BinOp) (g : Tg0) (h : H) (a b : AV) : Option AV :=
  match a, b with
  | .q n, .i j m => binQ op n j m
  | .i k n, .i j m => binII op k n j m
  | .s l, .s m => binS op l m
  | a, b => binO op g h a b
def binE (op : BinOp) (g : Tg0) (h : H) (a b : AV) : Option AV := Option.rec (motive := fun _ => Option AV) (binE0 op g h a b) (fun x => Option.rec (motive := fun _ => Option AV) (binE0 op g h a b) (fun y => binII op x.1 x.2 y.1 y.2) (avI b)) (avI a)
def kMax (k : IntKind) : Option Nat := IntKind.casesOn (motive := fun _ => Option Nat) k none none none none (some 255) (some 65535) (some 4294967295) (some 18446744073709551615)
def comE (k : IntKind) (n : Int) : Option AV := bd (kMax k) fun m => bd (Bd n) fun a => Vd (Nat.ble a m) (bd (Uh (Nat.xor m a)) fun n => some (.i k (.ofNat n))) none
def unE (op : UnOp) (a : AV) : Option AV :=
  match op, a with
  | .not, .b x => Jm (Y2 x)
  | .neg, .i k n => arE Int.sub k (.ofNat 0) n
  | .xor, .i k n => comE k n
  | _, _ => none
def H.put (h : H) (rw : Tr AO) : Option H := H.rec (motive := fun _ => Option H) (fun ro _ nx => some ⟨ro, rw, nx⟩) h
def R8 (x : Pa) (h : H) : Option AO := Option.rec (motive := fun _ => Option AO) (Q5 x h.ro) some (Q5 x h.rw)
structure CE where
  t : Tr AV
  zs : List AV
  n : Nat
def aoC (o : AO) : Option CE := AO.rec (motive := fun _ => Option CE) (fun t zs n => some ⟨t, zs, n⟩) (fun _ _ => none) (fun _ _ _ _ => none) (fun _ _ _ _ _ _ => none) none o
def dflt (zs : List AV) (j : Nat) : Option AV := List.casesOn (motive := fun _ => Option AV) zs none fun z r => List.casesOn (motive := fun _ => Option AV) r (some z) fun _ _ => nthE zs (Nat.mod j (R7 zs))
def Nd (t : Tr AV) (zs : List AV) (n j : Nat) : Option AV := Vd (Nat.blt j n) (Option.rec (motive := fun _ => Option AV) (dflt zs j) some (B6 t j)) none
def Ua (t : Tr AV) (zs : List AV) (n k j : Nat) : Option (List AV) :=
  nf (M := Nat → Option (List AV)) (fun _ => some []) (fun _ ih j => bd (Uh j) fun j => bd (Nd t zs n j) fun v => bd (ih (Nat.succ j)) fun r => some (v :: r)) k j
def rdE (x : Pa) (o k : Nat) (h : H) : Option (List AV) := bd (R8 x h) fun ob => bd (aoC ob) (CE.rec (motive := fun _ => Option (List AV)) fun t zs n => Ua t zs n k o)
def rd1 (x : Pa) (o : Nat) (h : H) : Option AV := bd (R8 x h) fun ob => bd (aoC ob) (CE.rec (motive := fun _ => Option AV) fun t zs n => Nd t zs n o)
def Em (l : List AV) (t : Tr AV) (j : Nat) : Option (Tr AV) :=
  lf (M := Tr AV → Nat → Option (Tr AV)) (fun t _ => some t) (fun v _ ih t j => bd (paOf j) fun p => bd (Nu (some v) p t) fun t => ih t (Nat.succ j)) l t j
def maxN (a b : Nat) : Nat := Vd (Nat.ble a b) b a
def single (v : AV) : Bool := AV.rec (motive_1 := fun _ => Bool) (motive_2 := fun _ => Unit) (fun _ => true) (fun _ _ => true) (fun _ => true) (fun _ _ => true) true (fun _ _ _ _ _ _ => true) true (fun _ => true) true (fun _ _ _ _ _ => true) (fun _ => true) true (fun _ _ _ => true) true (fun _ _ => false) (fun _ _ => false) (fun _ => true) () (fun _ _ _ _ => ()) v
def N1 (l : List AV) : Bool := lf true (fun v _ r => Z3 (single v) r) l
def wrE (x : Pa) (o : Nat) (l : List AV) (h : H) : Option H :=
  bd (Q5 x h.rw) fun ob => match ob with
  | .cells t zs n => Vd (Z3 (Nat.ble o n) (N1 l)) (bd (Uh (maxN n (Nat.add o (R7 l)))) fun n => bd (Em l t o) fun t => bd (Nu (some (.cells t zs n)) x h.rw) (H.put h)) none
  | _ => none
def stE (x : Pa) (o : Nat) (l : List AV) (h : H) : Option H :=
  bd (Q5 x h.rw) fun ob => bd (aoC ob) (CE.rec (motive := fun _ => Option H) fun t zs n => Vd (Z3 (Nat.ble (Nat.add o (R7 l)) n) (N1 l)) (bd (Em l t o) fun t => bd (Nu (some (.cells t zs n)) x h.rw) (H.put h)) none)
def Ij (ob : AO) (h : H) : Option H := H.rec (motive := fun _ => Option H) (fun ro rw nx => bd (Nu (some ob) nx rw) fun rw => bd (Pa.succ nx) fun nx => some ⟨ro, rw, nx⟩) h
def Gr (x : Pa) (h : H) : Option H := bd (Q5 x h.rw) fun _ => bd (Nu none x h.rw) (H.put h)
def R4 (x : Pa) (ob : AO) (h : H) : Option H := bd (Nu (some ob) x h.rw) (H.put h)
def trOf (l : List AV) : Option (Tr AV) := Em l .e 0
def fillE (z : List AV) (ps : List (Nat × List AV)) : Option (Tr AV) := bd (trOf z) fun t => lf (M := Tr AV → Option (Tr AV)) some (fun p _ ih t => bd (Em p.2 t p.1) ih) ps t
def E5 (fr : Fm) (ps : List (Nat × Nat × Od)) : Option (List (Nat × List AV)) := Gq (fun p => bd (ev fr p.2.2) fun v => Vd (Nat.beq (R7 (Yp v)) p.2.1) (some (p.1, Yp v)) none) ps
def idxSE (l : List Nat) (i : Int) : Option AV := bd (Bd i) fun i => bd (nthE l i) fun b => some (.i .u8 (.ofNat b))
def partE (l : List AV) (off n : Nat) (agg : Bool) : Option AV := Bool.casesOn (motive := fun _ => Option AV) agg (nthE l off) (bd (slE l off n) fun r => some (.ag r))
def U8 (fr : Fm) (d : Nat) (x : Option Od) : Option Nat := Option.casesOn (motive := fun _ => Option Nat) x (some d) fun x => bd (ev fr x) asN
def slcSE (fr : Fm) (lo hi : Option Od) (l : List Nat) : Option AV :=
  bd (Fy l) fun n => bd (U8 fr 0 lo) fun a => bd (U8 fr n hi) fun b => Vd (Z3 (Nat.ble a b) (Nat.ble b n)) (bd (slE l a (Nat.sub b a)) fun r => some (.s r)) none
def slcVE (x : Pa) (o n c : Nat) (ex : Bool) (z a b m : Nat) (mx : Bool) : Option AV :=
  Vd (Z3 (Nat.ble a b) (Z3 (Nat.ble b m) (Nat.ble m c)))
    (bd (Uh (Nat.sub b a)) fun n' => bd (Uh (Nat.sub m a)) fun c' => Vd (Nat.beq m a) (some (.sl x o n' c' ex z)) (bd (Uh (Nat.add o (Nat.mul a z))) fun o' => some (.sl x o' n' c' (orB ex mx) z))) none
def slcE (fr : Fm) (g : Tg0) (v : AV) (lo hi mx : Option Od) (z : Nat) : Option AV :=
  match g, v with
  | .x, .s l => match mx with | none => slcSE fr lo hi l | some _ => none
  | .s, .sl x o n c ex z' => Vd (Nat.beq z z') (bd (U8 fr 0 lo) fun a => bd (U8 fr n hi) fun b => bd (U8 fr c mx) fun m => slcVE x o n c ex z a b m (match mx with | none => false | some _ => true)) none
  | .s, .sln => bd (U8 fr 0 lo) fun a => bd (U8 fr 0 hi) fun b => bd (U8 fr 0 mx) fun m => Vd (Z3 (Nat.beq a 0) (Z3 (Nat.beq b 0) (Nat.beq m 0))) (some .sln) none
  | _, _ => none
def slaE (fr : Fm) (h : H) (v : AV) (lo hi mx : Option Od) (n z : Nat) : Option AV :=
  match v with
  | .p x o => bd (U8 fr 0 lo) fun a => bd (U8 fr n hi) fun b => bd (U8 fr n mx) fun m => bd (R8 x h) fun ob => match ob with
    | .cells _ _ k => Vd (Nat.ble (Nat.add o (Nat.mul n z)) k) (slcVE x o n n true z a b m true) none
    | _ => none
  | _ => none
def ofU8 (v : AV) : Option Nat := match v with | .i .u8 n => bd (Bd n) fun n => Vd (Nat.blt n 256) (some n) none | _ => none
def btsE (h : H) (v : AV) : Option AV := match v with
  | .sln => some (.s [])
  | .sl x o n _ _ z => Vd (Nat.beq z 1) (bd (rdE x o n h) fun l => bd (Gq ofU8 l) fun l => some (.s l)) none
  | _ => none
def loadE (n : Option Nat) (h : H) (v : AV) : Option AV := bd (avP v) (Prod.rec (motive := fun _ => Option AV) fun x o => Option.rec (motive := fun _ => Option AV) (rd1 x o h) (fun n => bd (rdE x o n h) fun l => some (.ag l)) n)
def U3 (a b : AV) : Option Bool := match a, b with
  | .i k n, .i j m => Vd (kEq k j) (some (eqI n m)) none
  | .s l, .s m => some (eqL l m)
  | .b x, .b y => some (bEq x y)
  | _, _ => none
def Ud (g : Tg0) (a : AV) : Bool := match g, a with | .n, .i .. => true | .x, .s .. => true | .b, .b .. => true | .g n, .ag l => Nat.beq (R7 l) n | _, _ => false
def eqaE (ks : List Tg0) : List AV → List AV → Option Bool :=
  lf (M := List AV → List AV → Option Bool) (fun _ _ => some true)
    (fun k _ ih a b => List.casesOn (motive := fun _ => Option Bool) a none fun x a => List.casesOn (motive := fun _ => Option Bool) b none fun y b =>
      Vd (Z3 (Ud k x) (Ud k y)) (bd (U3 x y) fun q => Vd q (ih a b) (some false)) none) ks
def findE (k : AV) (es : List (AV × AV × Nat)) : Option (Option (AV × AV × Nat)) :=
  lf (some none) (fun e _ ih => bd (U3 k e.1) fun q => Vd q (some (some e)) ih) es
def entsE (h : H) (m : AV) : Option (List (AV × AV × Nat)) := match m with
  | .mn => some []
  | .m x => bd (R8 x h) fun ob => match ob with | .map es _ => some es | _ => none
  | _ => none
def lkpE (g : Tg0) (h : H) (m k : AV) (zero : AV) (ok : Bool) : Option AV :=
  Vd (Ud g k) (bd (entsE h m) fun es => bd (findE k es) fun r => match r with
    | some (_, v, _) => Bool.casesOn (motive := fun _ => Option AV) ok (some v) (some (.tu [v, .b true]))
    | none => Bool.casesOn (motive := fun _ => Option AV) ok (some zero) (some (.tu [zero, .b false]))) none
def lastE (l : List Nat) : Option Nat := lf (M := Option Nat → Option Nat) (fun d => d) (fun a _ ih _ => ih (some a)) l none
def bornE (b : Nat) (es : List (AV × AV × Nat)) : Option (AV × AV × Nat) := lf none (fun e _ ih => Vd (Nat.beq e.2.2 b) (some e) ih) es
def entryE (h : H) (it : AV) : Option AV := match it with
  | .p x 0 => bd (R8 x h) fun ob => match ob with
    | .iter (some m) _ seen stepped => bd (lastE seen) fun st => bd (R8 m h) fun ob => match ob with
      | .map es clock => Vd (Nat.beq clock stepped) (bd (bornE st es) fun e => some (.tu [e.1, e.2.1])) none
      | _ => none
    | _ => none
  | _ => none
def lenV (g : Tg0) (h : H) (v : AV) : Option AV := match g, v with
  | .x, .s l => bd (Fy l) fun n => some (.i .i64 (.ofNat n))
  | .s, .sl _ _ n _ _ _ => some (.i .i64 (.ofNat n))
  | .s, .sln => some (.i .i64 (.ofNat 0))
  | .m, m => bd (entsE h m) fun es => bd (Fy es) fun n => some (.i .i64 (.ofNat n))
  | _, _ => none
def capV (v : AV) : Option AV := match v with
  | .sl _ _ _ c true _ => some (.i .i64 (.ofNat c))
  | .sln => some (.i .i64 (.ofNat 0))
  | _ => none
def faE (v : AV) (off : Nat) : Option AV := bd (avP v) (Prod.rec (motive := fun _ => Option AV) fun x o => bd (Uh (Nat.add o off)) fun o => some (.p x o))
def iaE (v : AV) (i : Int) (z : Nat) : Option AV := bd (avL v) (SL.rec (motive := fun _ => Option AV) fun x o n _ _ z' => Vd (Nat.beq z z') (bd (Bd i) fun i => Vd (Nat.blt i n) (bd (Uh (Nat.add o (Nat.mul i z))) fun o => some (.p x o)) none) none)
def iapE (v : AV) (i : Int) (n z : Nat) : Option AV := bd (avP v) (Prod.rec (motive := fun _ => Option AV) fun x o => bd (Bd i) fun i => Vd (Nat.blt i n) (bd (Uh (Nat.add o (Nat.mul i z))) fun o => some (.p x o)) none)
def nilcE (v : AV) : Option AV := match v with | .p x o => some (.p x o) | .f g a c => some (.f g a c) | .y x => some (.y x) | .ifc t v => some (.ifc t v) | _ => none
def taE (v : AV) (t : Nat) (ok : Bool) (zero : AV) : Option AV := match v with
  | .ifc u x => Vd (Nat.beq t u) (Bool.casesOn (motive := fun _ => Option AV) ok (some x) (some (.tu [x, .b true]))) (Bool.casesOn (motive := fun _ => Option AV) ok none (some (.tu [zero, .b false])))
  | _ => none
def maxE (a b : AV) : Option AV := match a, b with | .i k n, .i _ m => some (Vd (ltI n m) (.i k m) (.i k n)) | _, _ => none
def minE (a b : AV) : Option AV := match a, b with | .i k n, .i _ m => some (Vd (ltI m n) (.i k m) (.i k n)) | _, _ => none
abbrev LF := Fm → H → Option AV
def l_mv (x : Od) : LF := fun fr _ => ev fr x
def l_cvs (x : Od) : LF := fun fr _ => bd (ev fr x) fun v => match v with | .s l => some (.s l) | _ => none
def l_pick (c a b : Od) : LF := fun fr _ => bd (ev fr c) fun c => bd (asB c) fun c => bd (ev fr a) fun a => bd (ev fr b) fun b => Vd c (some a) (some b)
def l_build (z : List AV) (ps : List (Nat × Nat × Od)) : LF := fun fr _ => bd (E5 fr ps) fun ps => bd (fillE z ps) fun t => bd (Fy z) fun n => bd (Ua t [] n n 0) fun l => some (.ag l)
def l_bin (op : BinOp) (g : Tg0) (x y : Od) : LF := fun fr h => bd (ev fr x) fun a => bd (ev fr y) fun b => binE op g h a b
def l_eqa (ne : Bool) (ks : List Tg0) (x y : Od) : LF := fun fr _ => bd (ev fr x) fun a => bd (ev fr y) fun b => bd (asL a) fun a => bd (asL b) fun b => bd (eqaE ks a b) fun q => Jm (Vd ne (Y2 q) q)
def l_un (op : UnOp) (x : Od) : LF := fun fr _ => bd (ev fr x) fun a => unE op a
def l_cvi (k : IntKind) (x : Od) : LF := fun fr _ => bd (ev fr x) fun a => bd (asI a) fun n => bd (Hw k n) fun n => some (.i k n)
def l_bts (x : Od) : LF := fun fr h => bd (ev fr x) fun a => btsE h a
def l_idxs (x i : Od) : LF := fun fr _ => bd (ev fr x) fun a => bd (ev fr i) fun i => bd (asI i) fun i => match a with | .s l => idxSE l i | _ => none
def l_idxa (x i : Od) (n z : Nat) (agg : Bool) : LF := fun fr _ => bd (ev fr x) fun a => bd (ev fr i) fun i => bd (asL a) fun l => bd (asN i) fun i => Vd (Nat.blt i n) (partE l (Nat.mul i z) z agg) none
def l_fld (x : Od) (off n : Nat) (agg : Bool) : LF := fun fr _ => bd (ev fr x) fun a => bd (asL a) fun l => partE l off n agg
def l_ext (x : Od) (i : Nat) : LF := fun fr _ => bd (ev fr x) fun a => bd (asT a) fun l => nthE l i
def l_mkf (g : Pa) (first cap : List Od) : LF := fun fr _ => bd (evs fr first) fun a => bd (evs fr cap) fun c => some (.f g a c)
def l_mki (t : Nat) (x : Od) : LF := fun fr _ => bd (ev fr x) fun a => some (.ifc t a)
def l_nilc (x : Od) : LF := fun fr _ => bd (ev fr x) nilcE
def l_len (g : Tg0) (x : Od) : LF := fun fr h => bd (ev fr x) (lenV g h)
def l_cap (x : Od) : LF := fun fr _ => bd (ev fr x) capV
def l_slc (g : Tg0) (x : Od) (lo hi mx : Option Od) (z : Nat) : LF := fun fr _ => bd (ev fr x) fun v => slcE fr g v lo hi mx z
def l_sla (x : Od) (lo hi mx : Option Od) (n z : Nat) : LF := fun fr h => bd (ev fr x) fun v => slaE fr h v lo hi mx n z
def l_fa (x : Od) (off : Nat) : LF := fun fr _ => bd (ev fr x) fun v => faE v off
def l_ia (x i : Od) (z : Nat) : LF := fun fr _ => bd (ev fr x) fun v => bd (ev fr i) fun i => bd (asI i) fun i => iaE v i z
def l_iap (x i : Od) (n z : Nat) : LF := fun fr _ => bd (ev fr x) fun v => bd (ev fr i) fun i => bd (asI i) fun i => iapE v i n z
def l_max (a b : Od) : LF := fun fr _ => bd (ev fr a) fun a => bd (ev fr b) fun b => maxE a b
def l_min (a b : Od) : LF := fun fr _ => bd (ev fr a) fun a => bd (ev fr b) fun b => minE a b
def l_load (n : Option Nat) (x : Od) : LF := fun fr h => bd (ev fr x) (loadE n h)
def l_lkp (g : Tg0) (m k : Od) (zero : AV) (ok : Bool) : LF := fun fr h => bd (ev fr m) fun m => bd (ev fr k) fun k => lkpE g h m k zero ok
def l_entry (x : Od) : LF := fun fr h => bd (ev fr x) (entryE h)
def l_ta (x : Od) (t : Nat) (ok : Bool) (zero : AV) : LF := fun fr _ => bd (ev fr x) fun v => taE v t ok zero
def lE (o : LOp) : LF := LOp.rec (motive := fun _ => LF) l_mv l_cvs l_pick l_build l_bin l_eqa l_un l_cvi l_bts l_idxs l_idxa l_fld l_ext l_mkf l_mki l_nilc l_len l_cap l_slc l_sla l_fa l_ia l_iap l_max l_min l_load l_lkp l_entry l_ta o
def k_alloc (z : List AV) : Fm → H → Option (AO × (Pa → AV)) := fun _ _ => bd (Fy z) fun n => some (.cells .e z n, fun x => .p x 0)
def k_box (v : Od) : Fm → H → Option (AO × (Pa → AV)) := fun fr _ => bd (ev fr v) fun v => bd (trOf (Yp v)) fun t => bd (Fy (Yp v)) fun n => some (.cells t [] n, fun x => .p x 0)
def k_bsl (n z : Nat) (zs : List AV) (ps : List (Nat × Nat × Od)) : Fm → H → Option (AO × (Pa → AV)) := fun fr _ =>
  bd (E5 fr ps) fun ps => bd (fillE [] ps) fun t => bd (Uh (Nat.mul n z)) fun k => some (.cells t zs k, fun x => .sl x 0 n n true z)
def k_bslm (n z : Nat) (ps : List (Nat × Nat × Od)) : Fm → H → Option (AO × (Pa → AV)) := fun fr _ =>
  bd (E5 fr ps) fun ps => bd (fillE [] ps) fun t => bd (Uh (Nat.mul n z)) fun k => bd (Ua t [] k k 0) fun _ => some (.cells t [.pn] k, fun x => .sl x 0 n n true z)
def k_mkm (x : Option Od) : Fm → H → Option (AO × (Pa → AV)) := fun fr _ => bd (U8 fr 0 x) fun _ => some (.map [] 0, .m)
def k_mks (l c : Od) (z : Nat) (zs : List AV) : Fm → H → Option (AO × (Pa → AV)) := fun fr _ =>
  bd (ev fr l) fun l => bd (asN l) fun l => bd (ev fr c) fun c => bd (asN c) fun c => Vd (Z3 (Nat.ble l c) (Nat.ble c 65536)) (bd (Uh (Nat.mul c z)) fun k => some (.cells .e zs k, fun x => .sl x 0 l c true z)) none
def k_rng (v : Od) : Fm → H → Option (AO × (Pa → AV)) := fun fr h => bd (ev fr v) fun v => match v with
  | .mn => some (.iter none 0 [] 0, fun x => .p x 0)
  | .m m => bd (R8 m h) fun ob => match ob with | .map _ clock => some (.iter (some m) clock [] clock, fun x => .p x 0) | _ => none
  | _ => none
def k_stb (v : Od) : Fm → H → Option (AO × (Pa → AV)) := fun fr _ => bd (ev fr v) fun v => match v with
  | .s l => bd (Gq (fun b => some (.i .u8 (.ofNat b))) l) fun cs => bd (trOf cs) fun t => bd (Fy l) fun n => Vd (Nat.ble n 65536) (some (.cells t [.pn] n, fun x => .sl x 0 n n false 1)) none
  | _ => none
def kE (o : KOp) : Fm → H → Option (AO × (Pa → AV)) := KOp.casesOn (motive := fun _ => Fm → H → Option (AO × (Pa → AV))) o k_alloc k_box k_bsl k_bslm k_mkm k_mks k_rng k_stb
inductive Tg where
  | fn (g : Pa) | yl (x : Pa)
abbrev Ou := AV × H
abbrev Cl := Tg → List AV → H → Rs Ou
abbrev HF := Fm → H → Rs Ou
def Cq (h : Option H) : Rs Ou := ob h fun h => .one (.tu [], h)
def Fz (n : Nat) (x v : AV) (h : H) : Rs Ou := ob (avP x) (Prod.rec (motive := fun _ => Rs Ou) fun x o => Vd (Nat.beq (R7 (Yp v)) n) (Cq (stE x o (Yp v) h)) .z)
def h_store (n : Nat) (x v : Od) : HF := fun fr h => ob (ev fr x) fun x => ob (ev fr v) fun v => Fz n x v h
def h_call (cl : Cl) (g : Pa) (ar : List Od) : HF := fun fr h => ob (evs fr ar) fun ar => cl (.fn g) ar h
def Be (cl : Cl) (f : AV) (ar : List AV) (h : H) : Rs Ou := match f with
  | .f g a c => ob (Dl ar c) fun l => ob (Dl a l) fun l => cl (.fn g) l h
  | .y x => cl (.yl x) ar h
  | _ => .z
def h_callv (cl : Cl) (f : Od) (ar : List Od) : HF := fun fr h => ob (ev fr f) fun f => ob (evs fr ar) fun ar => Be cl f ar h
def h_inv (cl : Cl) (r : Od) (tbl : List (Nat × Pa × Option (Option Nat))) (ar : List Od) : HF := fun fr h => ob (ev fr r) fun r => ob (evs fr ar) fun ar => match r with
  | .ifc t v => ob (lf (M := Option (Pa × Option (Option Nat))) none (fun e _ ih => Vd (Nat.beq e.1 t) (some e.2) ih) tbl) fun e => match e.2 with
    | none => cl (.fn e.1) (v :: ar) h
    | some n => ob (loadE n h v) fun v => cl (.fn e.1) (v :: ar) h
  | _ => .z
def Bg (h : H) (v : AV) (z : Nat) : Option (Nat × List AV) := match v with
  | .sln => some (0, [])
  | .sl x o n _ _ z' => Vd (Nat.beq z z') (bd (rdE x o (Nat.mul n z) h) fun l => some (n, l)) none
  | .s l => Vd (Nat.beq z 1) (bd (Fy l) fun n => bd (Gq (fun b => some (.i .u8 (.ofNat b))) l) fun l => some (n, l)) none
  | _ => none
def Nf (zs l : List AV) (n z : Nat) (h : H) : Rs Ou := ob (trOf l) fun t => ob (Fy l) fun k => ob (Ij (.cells t zs k) h) fun h' => .one (.sl h.nx 0 n n false z, h')
def U4 (o : AO) : List AV := match o with | .cells _ zs _ => Vd (Zt zs) zs [] | _ => []
def growE (x : Pa) (o n z : Nat) (ex : Bool) (l : List AV) (need : Nat) (h : H) : Rs Ou := Vd (Nat.ble need 65536)
  (ob (rdE x o (Nat.mul n z) h) fun l' => ob (Dl l' l) fun l2 => Vd ex (Nf [] l2 need z h) (Vd (N1 l) (ob (Q5 x h.rw) fun ob' => ob (Gr x h) fun h => Nf (U4 ob') l2 need z h) .z)) .z
def appV (s : AV) (k : Nat × List AV) (z : Nat) (h : H) : Rs Ou := match s with
  | .sln => Vd (Nat.beq k.1 0) (.one (.sln, h)) (Vd (Nat.ble k.1 65536) (Nf [] k.2 k.1 z h) .z)
  | .sl x o n c ex z' => Vd (Nat.beq z z') (ob (Uh (Nat.add n k.1)) fun need => Vd (Nat.ble need c)
      (ob (wrE x (Nat.add o (Nat.mul n z)) k.2 h) fun h => .one (.sl x o need c ex z, h))
      (growE x o n z ex k.2 need h)) .z
  | _ => .z
def h_app (s x : Od) (z : Nat) : HF := fun fr h => ob (ev fr s) fun s => ob (ev fr x) fun x => ob (Bg h x z) fun k => appV s k z h
def copyV (d : AV) (k : Nat × List AV) (z : Nat) (h : H) : Rs Ou := match d with
  | .sln => .one (.i .i64 (.ofNat 0), h)
  | .sl x o n _ _ z' => Vd (Nat.beq z z') (ob (Uh (Vd (Nat.ble k.1 n) k.1 n)) fun m => ob (takeE k.2 (Nat.mul m z)) fun l => ob (stE x o l h) fun h => .one (.i .i64 (.ofNat m), h)) .z
  | _ => .z
def h_copy (d s : Od) (z : Nat) : HF := fun fr h => ob (ev fr d) fun d => ob (ev fr s) fun s => ob (Bg h s z) fun k => copyV d k z h
def clearV (v : AV) (z : Nat) (zs : List AV) (h : H) : Rs Ou := match v with
  | .sln => Cq (some h)
  | .sl x o n _ _ z' => Vd (Nat.beq z z') (ob (Ua .e zs (Nat.mul n z) (Nat.mul n z) 0) fun l => Cq (stE x o l h)) .z
  | _ => .z
def h_clear (x : Od) (z : Nat) (zs : List AV) : HF := fun fr h => ob (ev fr x) fun v => clearV v z zs h
abbrev Es := List (AV × AV × Nat)
def updE (k : AV) (f : AV × AV × Nat → AV × AV × Nat) (es : Es) : Option (Option Es) :=
  lf (some none) (fun e r ih => bd (U3 k e.1) fun q => Vd q (some (some (f e :: r))) (bd ih fun x => match x with | some r => some (some (e :: r)) | none => some none)) es
def cutE (k : AV) (es : Es) : Option Es := lf (some []) (fun e r ih => bd (U3 k e.1) fun q => Vd q (some r) (bd ih fun r => some (e :: r))) es
def mupV (g : Tg0) (m k v : AV) (h : H) : Rs Ou := match m with
  | .m x => Vd (Ud g k) (ob (Q5 x h.rw) fun o => match o with
    | .map es clock => ob (updE k (fun e => (k, v, e.2.2)) es) fun r => match r with
      | some es => Cq (R4 x (.map es clock) h)
      | none => ob (Dl es [(k, v, clock)]) fun es => ob (Uh (Nat.succ clock)) fun clock => Cq (R4 x (.map es clock) h)
    | _ => .z) .z
  | _ => .z
def h_mup (g : Tg0) (m k v : Od) : HF := fun fr h => ob (ev fr m) fun m => ob (ev fr k) fun k => ob (ev fr v) fun v => mupV g m k v h
def mentV (g : Tg0) (m k : AV) (zero : AV) (h : H) : Rs Ou := match m with
  | .m x => Vd (Ud g k) (ob (Q5 x h.rw) fun o => match o with
    | .map es clock => ob (findE k es) fun r => match r with
      | some e => .one (.tu [e.2.1, .i .i64 (.ofNat e.2.2)], h)
      | none => ob (Dl es [(k, zero, clock)]) fun es => ob (Uh (Nat.succ clock)) fun clock' => ob (R4 x (.map es clock') h) fun h => .one (.tu [zero, .i .i64 (.ofNat clock)], h)
    | _ => .z) .z
  | _ => .z
def h_ment (g : Tg0) (m k : Od) (zero : AV) : HF := fun fr h => ob (ev fr m) fun m => ob (ev fr k) fun k => mentV g m k zero h
def mstV (m : AV) (st : Nat) (v : AV) (h : H) : Rs Ou := match m with
  | .m x => ob (Q5 x h.rw) fun o => match o with
    | .map es clock => ob (lf (M := Option Es) none (fun e r ih => Vd (Nat.beq e.2.2 st) (some ((e.1, v, e.2.2) :: r)) (bd ih fun r => some (e :: r))) es) fun es => Cq (R4 x (.map es clock) h)
    | _ => .z
  | _ => .z
def h_mst (m st v : Od) : HF := fun fr h => ob (ev fr m) fun m => ob (ev fr st) fun st => ob (ev fr v) fun v => ob (asN st) fun st => mstV m st v h
def delV (g : Tg0) (m k : AV) (h : H) : Rs Ou := match m with
  | .mn => Vd (Ud g k) (Cq (some h)) .z
  | .m x => Vd (Ud g k) (ob (Q5 x h.rw) fun o => match o with
    | .map es clock => ob (cutE k es) fun es => Cq (R4 x (.map es clock) h)
    | _ => .z) .z
  | _ => .z
def h_del (g : Tg0) (m k : Od) : HF := fun fr h => ob (ev fr m) fun m => ob (ev fr k) fun k => delV g m k h
def Hx (b : Nat) (l : List Nat) : Bool := lf false (fun a _ ih => orB (Nat.beq a b) ih) l
def Cr (f : AV × AV × Nat → Bool) (es : Es) : Option Es := lf (some []) (fun e _ ih => bd ih fun r => Vd (f e) (some (e :: r)) (some r)) es
def Ux {α : Type} (l : List α) : Bool := List.casesOn (motive := fun _ => Bool) l true fun _ _ => false
def allE (f : AV × AV × Nat → Bool) (es : Es) : Bool := lf true (fun e _ ih => Z3 (f e) ih) es
def nextV (it : AV) (h : H) : Rs Ou := match it with
  | .p x 0 => ob (Q5 x h.rw) fun o => match o with
    | .iter none _ _ _ => .one (.tu [.b false], h)
    | .iter (some m) since seen last => ob (R8 m h) fun o => match o with
      | .map es clock => Vd (Z3 (Y2 (Ux seen)) (Z3 (Y2 (Ux es)) (allE (fun e => Nat.ble last e.2.2) es))) .z
          (ob (Cr (fun e => Y2 (Hx e.2.2 seen)) es) fun left =>
           ob (Cr (fun e => Nat.blt e.2.2 since) left) fun old => ob (Cr (fun e => Y2 (Nat.blt e.2.2 since)) left) fun new =>
           ob (Dl (lf (M := List (Option (AV × AV × Nat))) [] (fun e _ ih => some e :: ih) old) (lf (M := List (Option (AV × AV × Nat))) [] (fun e _ ih => some e :: ih) new)) fun es' =>
           Rs.all (fun c => match c with
             | none => .one (.tu [.b false], h)
             | some e => ob (Dl seen [e.2.2]) fun seen => ob (R4 x (.iter (some m) since seen clock) h) fun h => .one (.tu [.b true, e.1, e.2.1], h)) (Vd (Ux old) (none :: es') es'))
      | _ => .z
    | _ => .z
  | _ => .z
def h_next (it : Od) : HF := fun fr h => ob (ev fr it) fun it => nextV it h
def oldV1 (ih : AV → Bool) (ro : Tr AO) (v : AV) : Bool := match v with
  | .p x _ => match Q5 x ro with | some _ => true | none => false
  | .sl x .. => match Q5 x ro with | some _ => true | none => false
  | .m x => match Q5 x ro with | some _ => true | none => false
  | .f _ a c => Z3 (lf true (fun v _ r => Z3 (ih v) r) a) (lf true (fun v _ r => Z3 (ih v) r) c)
  | .y _ => false
  | .ifc _ v => ih v
  | .ag l => lf true (fun v _ r => Z3 (ih v) r) l
  | .tu l => lf true (fun v _ r => Z3 (ih v) r) l
  | _ => true
def oldV (ro : Tr AO) (v : AV) : Bool := nf (M := AV → Bool) (fun _ => false) (fun _ ih => oldV1 ih ro) 4 v
inductive Nr where
  | a (v : AV) | r (n : Nat) (z : Nat) (l : List AV)
def nrm (ro : Tr AO) (o : Ou) : Option Nr := Vd (oldV ro o.1) (some (.a o.1)) (match o.1 with
  | .sl x p n _ _ z => bd (Q5 x o.2.rw) fun b => Vd (Ux (U4 b)) (bd (rdE x p (Nat.mul n z) o.2) fun l => Vd (lf true (fun v _ r => Z3 (oldV ro v) r) l) (some (.r n z l)) none) none
  | _ => none)
def eqNr (a b : Nr) : Bool := match a, b with
  | .a v, .a w => eqv v w
  | .r n z l, .r n' z' l' => Z3 (Nat.beq n n') (Z3 (Nat.beq z z') (eqA eqv l l'))
  | _, _ => false
def Tr.nil {α : Type} (t : Tr α) : Bool := Tr.casesOn (motive := fun _ => Bool) t true fun _ _ _ => false
def h_callm (cl : Cl) (g : Pa) (ar : List Od) : HF := fun fr h => ob (evs fr ar) fun ar => Vd (Tr.nil h.ro)
  (ob (Gj (cl (.fn g) ar ⟨h.rw, .e, h.nx⟩)) fun l => List.casesOn (motive := fun _ => Rs Ou) l .z fun o r => ob (nrm h.rw o) fun x =>
    Vd (lf true (fun o _ ih => Z3 (Option.casesOn (motive := fun _ => Bool) (nrm h.rw o) false (eqNr x)) ih) r)
      (match x with | .a v => .one (v, h) | .r n z l => Nf [] l n z h) .z) .z
def hE (cl : Cl) (o : HOp) : HF := HOp.rec (motive := fun _ => HF) h_store (h_call cl) (h_callm cl) (h_callv cl) (h_inv cl) h_app h_copy h_clear h_del h_mup h_ment h_mst h_next o
structure St where
  fr : Fm
  h : H
def Gk (d : Option Pa) (v : AV) (fr : Fm) : Option Fm := Option.rec (motive := fun _ => Option Fm) (some fr) (fun d => Nu (some v) d fr) d
def Bh (fr : Fm) (g : Option (Pa × Bool)) : Option Bool := Option.rec (motive := fun _ => Option Bool) (some true) (Prod.rec (motive := fun _ => Option Bool) fun p b => bd (Q5 p fr) fun v => Option.rec (motive := fun _ => Option Bool) (some false) (fun x => some (bEq x b)) (asB v)) g
abbrev SF := Fm → H → Rs St
def r_l (d : Option Pa) (o : LF) : SF := fun fr h => ob (o fr h) fun v => ob (Gk d v fr) fun fr => .one ⟨fr, h⟩
def r_k (d : Option Pa) (o : Fm → H → Option (AO × (Pa → AV))) : SF := fun fr h => ob (o fr h) (Prod.rec (motive := fun _ => Rs St) fun a f => H.rec (motive := fun _ => Rs St) (fun ro rw nx => ob (Gk d (f nx) fr) fun fr => ob (Ij a ⟨ro, rw, nx⟩) fun h => .one ⟨fr, h⟩) h)
def r_h (d : Option Pa) (o : HF) : SF := fun fr h => Fx (o fr h) (Prod.rec (motive := fun _ => Rs St) fun v h => ob (Gk d v fr) fun fr => .one ⟨fr, h⟩)
def mkdE (h : H) (v : AV) : Option AV := match v with
  | .sl x o n c e z => bd (Q5 x h.rw) fun ob => match ob with | .cells _ zs _ => Vd (Zt zs) (some (.sl x o n c e z)) none | _ => none
  | _ => none
def r_m (d : Option Pa) (x : Od) : SF := fun fr h => ob (ev fr x) fun v => ob (mkdE h v) fun v => ob (Gk d v fr) fun fr => .one ⟨fr, h⟩
def op1 (cl : Cl) (d : Option Pa) (o : Op1) : SF := Op1.rec (motive := fun _ => SF) (fun _ _ o => r_l d (lE o)) (fun o => r_k d (kE o)) (fun _ o => r_h d (hE cl o)) (r_m d) o
def op2 (cl : Cl) (o : Op2) : SF := fun fr h => ob (Bh fr o.grd) fun g => Vd g (op1 cl o.dst o.op fr h) (ob (Gk o.dst (.tu []) fr) fun fr => .one ⟨fr, h⟩)
def regE (cl : Cl) (l : List Op2) : SF := List.rec (motive := fun _ => SF) (fun fr h => .one ⟨fr, h⟩) (fun o _ ih fr h => Fx (op2 cl o fr h) (St.rec (motive := fun _ => Rs St) ih)) l
structure Dw where
  fr : Fm
  c : Nat
  h : H
  olds : List H
  nk : Pa
  fl : List (Nat × Pa × AO)
  pend : List (Nat × (H → Option AV) × AV)
def Hy (o : H → Option AV) (v : AV) (h : H) : Bool := Option.rec (motive := fun _ => Bool) false (eqv v) (o h)
def Ra (o : H → Option AV) (v : AV) (l : List H) : Nat → Bool := lf (fun k => Nat.beq k 0) (fun h _ ih k => Nat.rec (motive := fun _ => Bool) true (fun k _ => Z3 (Hy o v h) (ih k)) k) l
def nxSkip (h : H) : Option H := match h with | ⟨ro, rw, nx⟩ => bd (Pa.succ nx) fun nx => some ⟨ro, rw, nx⟩
def R9 (bf : List Nat) (fl : List (Nat × Pa × AO)) (h : H) : Option (H × List (Nat × Pa × AO)) :=
  lf (M := H → Option (H × List (Nat × Pa × AO))) (fun h => some (h, [])) (fun f _ ih h => Vd (Hx f.1 bf) (bd (R4 f.2.1 f.2.2 h) ih) (bd (ih h) fun r => some (r.1, f :: r.2))) fl h
def E6 (fl : List (Nat × Pa × AO)) (h : H) : Option H := lf (M := H → Option H) some (fun f _ ih h => bd (R4 f.2.1 f.2.2 h) ih) fl h
def Ui (c : Nat) (h : H) (l : List (Nat × (H → Option AV) × AV)) : Bool := lf true (fun p _ ih => Z3 (orB (Nat.blt p.1 c) (Hy p.2.1 p.2.2 h)) ih) l
def d_l (d : Option Pa) (lo hi : Nat) (o : LF) (s : Dw) : Option Dw := Dw.rec (motive := fun _ => Option Dw) (fun fr c h olds nk fl pend =>
  bd (o fr h) fun v => Vd (Z3 (Nat.ble lo c) (Z3 (Nat.ble c hi) (Ra (o fr) v olds (Nat.sub c lo))))
    (bd (Gk d v fr) fun fr' => Vd (Nat.blt c hi) (some ⟨fr', c, h, olds, nk, fl, (hi, o fr, v) :: pend⟩) (some ⟨fr', c, h, olds, nk, fl, pend⟩)) none) s
def rngB (o : KOp) : Bool := KOp.casesOn (motive := fun _ => Bool) o (fun _ => false) (fun _ => false) (fun _ _ _ _ => false) (fun _ _ _ => false) (fun _ => false) (fun _ _ _ _ => false) (fun _ => true) (fun _ => false)
def d_k (i : Nat) (d : Option Pa) (o : Fm → H → Option (AO × (Pa → AV))) (s : Dw) : Option Dw :=
  Dw.rec (motive := fun _ => Option Dw) (fun fr c h olds nk fl pend => bd (o fr h) (Prod.rec (motive := fun _ => Option Dw) fun a f => bd (Gk d (f nk) fr) fun fr => bd (Pa.succ nk) fun nk' => some ⟨fr, c, h, olds, nk', (i, nk, a) :: fl, pend⟩)) s
def setRo (a b : H) : Option H := H.rec (motive := fun _ => Option H) (fun ro _ _ => H.rec (motive := fun _ => Option H) (fun _ rw nx => some ⟨ro, rw, nx⟩) b) a
def d_h (d : Option Pa) (bf : List Nat) (o : HF) (s : Dw) : Option Dw :=
  Dw.rec (motive := fun _ => Option Dw) (fun fr c h olds nk fl pend => bd (R9 bf fl h) (Prod.rec (motive := fun _ => Option Dw) fun h1 fl1 => Rs.rec (motive := fun _ => Option Dw) none (Prod.rec (motive := fun _ => Option Dw) fun v h2 => bd (Uh (Nat.succ c)) fun c => bd (setRo h h2) fun h' => Vd (Z3 (Nat.ble (Pa.dec h.nx) (Pa.dec h'.nx)) (Ui c h' pend))
    (bd (Gk d v fr) fun fr => some ⟨fr, c, h', h :: olds, nk, fl1, pend⟩) none) (fun _ => none) (o fr h1))) s
def mkdF (fl : List (Nat × Pa × AO)) (v : AV) : Option AV := match v with
  | .sl x o n c e z => lf (M := Option AV) none (fun f _ ih => Vd (Pa.eq f.2.1 x) (match f.2.2 with | .cells _ zs _ => Vd (Zt zs) (some (.sl x o n c e z)) none | _ => none) ih) fl
  | _ => none
def d_m (d : Option Pa) (x : Od) (s : Dw) : Option Dw := Dw.rec (motive := fun _ => Option Dw) (fun fr c h olds nk fl pend => bd (ev fr x) fun v => bd (mkdF fl v) fun v => bd (Gk d v fr) fun fr => some ⟨fr, c, h, olds, nk, fl, pend⟩) s
def d_1 (cl : Cl) (i : Nat) (d : Option Pa) (o : Op1) : Dw → Option Dw := Op1.rec (motive := fun _ => Dw → Option Dw) (fun lo hi o => d_l d lo hi (lE o)) (fun o s => Vd (rngB o) none (d_k i d (kE o) s)) (fun bf o => d_h d bf (hE cl o)) (d_m d) o
def d_n (d : Option Pa) (o : Op1) (s : Dw) : Option Dw := bd (Gk d (.tu []) s.fr) fun fr => match o with
  | .h .. => bd (Uh (Nat.succ s.c)) fun c => Vd (Ui c s.h s.pend) (some ⟨fr, c, s.h, s.h :: s.olds, s.nk, s.fl, s.pend⟩) none
  | _ => some ⟨fr, s.c, s.h, s.olds, s.nk, s.fl, s.pend⟩
def d_2 (cl : Cl) (i : Nat) (o : Op2) (s : Dw) : Option Dw := bd (Bh s.fr o.grd) fun g => Vd g (d_1 cl i o.dst o.op s) (d_n o.dst o.op s)
def E7 (l : List Op2) : H → Option H := lf (M := H → Option H) some (fun o _ ih h => Op1.rec (motive := fun _ => Option H) (fun _ _ _ => ih h) (fun _ => bd (nxSkip h) ih) (fun _ _ => ih h) (fun _ => ih h) o.op) l
def drwE (cl : Cl) (l : List Op2) : SF := fun fr h => ob (E7 l h) fun h' =>
  ob (lf (M := Nat → Dw → Option Dw) (fun _ s => some s) (fun o _ ih i s => bd (d_2 cl i o s) (ih (Nat.succ i))) l 0 ⟨fr, 0, h', [], h.nx, [], []⟩) fun s => ob (E6 s.fl s.h) fun h => .one ⟨s.fr, h⟩
structure So where
  ex : Ex
  fr : Fm
  h : H
  mks : List Pa
abbrev XF := Fm → H → List Pa → Rs So
def sK (x : Rs St) (mk : List Pa) : Rs So := Fx x (St.rec (motive := fun _ => Rs So) fun fr h => .one ⟨.nm, fr, h, mk⟩)
def x_seq (_ _ : AC) (a b : XF) : XF := fun fr h mk => Fx (a fr h mk) (So.rec (motive := fun _ => Rs So) fun ex fr h mk => Ex.rec (motive := fun _ => Rs So) (b fr h mk) (fun k => .one ⟨.ex k, fr, h, mk⟩) (.one ⟨.rt, fr, h, mk⟩) ex)
def x_cnd (x : Od) (_ _ : AC) (a b : XF) : XF := fun fr h mk => ob (ev fr x) fun v => ob (asB v) fun x => Vd x (a fr h mk) (b fr h mk)
def x_blk (id : Nat) (_ : AC) (a : XF) : XF := fun fr h mk => Fx (a fr h mk) (So.rec (motive := fun _ => Rs So) fun ex fr h mk => Ex.rec (motive := fun _ => Rs So) (.one ⟨.nm, fr, h, mk⟩) (fun k => Vd (Nat.beq k id) (.one ⟨.nm, fr, h, mk⟩) (.one ⟨.ex k, fr, h, mk⟩)) (.one ⟨.rt, fr, h, mk⟩) ex)
def x_lp (n : Nat) (_ : AC) (a : XF) : XF := nf (M := XF) (fun _ _ _ => .z) (fun _ ih fr h mk => Fx (a fr h mk) (So.rec (motive := fun _ => Rs So) fun ex fr h mk => Ex.rec (motive := fun _ => Rs So) (ih fr h mk) (fun k => .one ⟨.ex k, fr, h, mk⟩) (.one ⟨.rt, fr, h, mk⟩) ex)) n
def callF (cl : Cl) (f : AV) (ar : List AV) (h : H) : Rs Ou := match f with
  | .f g a c => ob (Dl ar c) fun l => ob (Dl a l) fun l => cl (.fn g) l h
  | _ => .z
def loopEnd (lo : AO) (h' : Rs H) (k : Ex → H → Rs So) : Rs So := match lo with
  | .loop _ _ _ _ .busy _ => .z
  | .loop _ _ _ _ _ pend => Fx h' (k pend)
  | _ => .z
def x_rf (cl : Cl) (rd : Bool) (f : Od) (ps : List Pa) (asg body : AC) (_ _ : XF) : XF := fun fr h mk => Vd rd .z
  (ob (ev fr f) fun f => ob (Ij .dfr h) fun h1 => ob (Ij (.loop fr ps asg body .ready .nm) h1) fun h2 =>
    Fx (callF cl f [.y h1.nx] h2) fun o => ob (Q5 h1.nx o.2.rw) fun lo => loopEnd lo (ob (Gr h1.nx o.2) fun h' => .one h') fun pend h' => .one ⟨pend, fr, h', h.nx :: mk⟩)
def keepT {α : Type} (ks : List Pa) (t : Tr α) : Option (Tr α) := lf (some .e) (fun x _ ih => bd ih fun r => bd (Q5 x t) fun v => Nu (some v) x r) ks
def keepH (ks : List Pa) (h : H) : Option H := match h with | ⟨ro, rw, nx⟩ => bd (keepT ks rw) fun rw => some ⟨ro, rw, nx⟩
def x_gc (ks fs : List Pa) (_ : AC) (a : XF) : XF := fun fr h mk => ob (keepT fs fr) fun fr => ob (keepH ks h) fun h => a fr h mk
def acFold {M : Type} (skip : M) (reg drw : List Op2 → M) (seq : AC → AC → M → M → M) (cnd : Od → AC → AC → M → M → M) (blk : Nat → AC → M → M) (lp : AC → M → M) (ext : Nat → M) (ret : M)
  (rf : Od → List Pa → AC → AC → M → M → M) (scp : List Pa → List Pa → AC → M → M) (bad : M) (c : AC) : M := AC.rec (motive := fun _ => M) skip reg drw seq cnd blk lp ext ret rf scp bad c
def F1 : Nat := 100000
def xEn (n : Nat) (cl : Cl) (rd : Bool) (c : AC) : XF := acFold (M := XF) (fun fr h mk => .one ⟨.nm, fr, h, mk⟩) (fun l fr h mk => sK (regE cl l fr h) mk) (fun l fr h mk => sK (drwE cl l fr h) mk)
  x_seq x_cnd x_blk (x_lp n) (fun id fr h mk => .one ⟨.ex id, fr, h, mk⟩) (fun fr h mk => .one ⟨.rt, fr, h, mk⟩) (x_rf cl rd) x_gc (fun _ _ _ => .z) c
def xE (cl : Cl) (rd : Bool) (c : AC) : XF := xEn F1 cl rd c
def rvE (fr : Fm) (h : H) (r : Rv) : Option AV := match r with | .t p => Q5 p fr | .c p n => bd (Q5 p fr) (loadE n h)
def resE (fr : Fm) (h : H) (l : List Rv) : Option AV := bd (Gq (rvE fr h) l) fun vs => match vs with | [v] => some v | vs => some (.tu vs)
def setPs (ps : List Pa) (vs : List AV) (fr : Fm) : Option Fm :=
  lf (M := List AV → Fm → Option Fm) (fun vs fr => List.casesOn (motive := fun _ => Option Fm) vs (some fr) fun _ _ => none) (fun p _ ih vs fr => List.casesOn (motive := fun _ => Option Fm) vs none fun v vs => bd (Nu (some v) p fr) (ih vs)) ps vs fr
def Ng (mk : List Pa) (h : H) : Option H := lf (M := H → Option H) some (fun x _ ih h => bd (Q5 x h.rw) fun o => match o with | .dfr => bd (Gr x h) ih | _ => none) mk h
def fnE (cl : Cl) (c : CF) (ar : List AV) (h : H) : Rs Ou :=
  ob (setPs c.ps ar .e) fun fr => Fx (xE cl false c.body fr h []) fun s => Ex.casesOn (motive := fun _ => Rs Ou) s.ex (ob (Ng s.mks s.h) fun h => ob (resE s.fr h c.rs) fun v => .one (v, h)) (fun _ => .z) (ob (Ng s.mks s.h) fun h => ob (resE s.fr h c.rs) fun v => .one (v, h))
def F2 (x : Pa) (ex : Ex) (h : H) : Rs Ou := ob (Q5 x h.rw) fun lo => match lo with
  | .loop fr ps asg body _ _ => Ex.casesOn (motive := fun _ => Rs Ou) ex (ob (R4 x (.loop fr ps asg body .ready .nm) h) fun h => .one (.b true, h))
      (fun k => ob (R4 x (.loop fr ps asg body .done (.ex k)) h) fun h => .one (.b false, h)) (ob (R4 x (.loop fr ps asg body .done .rt) h) fun h => .one (.b false, h))
  | _ => .z
def yieldE (cl : Cl) (x : Pa) (ar : List AV) (h : H) : Rs Ou := ob (Q5 x h.rw) fun lo => match lo with
  | .loop fr ps asg body .ready _ => ob (setPs ps ar fr) fun fr1 => Fx (xE cl true asg fr1 h []) fun s => Ex.casesOn (motive := fun _ => Rs Ou) s.ex
      (ob (Q5 x s.h.rw) fun lo => match lo with
        | .loop fr' ps' asg' body' .ready pend' => ob (R4 x (.loop fr' ps' asg' body' .busy pend') s.h) fun h => Fx (xE cl true body s.fr h s.mks) fun s => F2 x s.ex s.h
        | _ => .z) (fun _ => .z) .z
  | _ => .z
def joinL (sep : List Nat) (l : List (List Nat)) : Option (List Nat) :=
  List.casesOn (motive := fun _ => Option (List Nat)) l (some []) fun a r => lf (M := List Nat → Option (List Nat)) some (fun x _ ih a => bd (Dl a sep) fun a => bd (Dl a x) ih) r a
def asS (v : AV) : Option (List Nat) := match v with | .s l => some l | _ => none
def joinE (ar : List AV) (h : H) : Rs Ou := match ar with
  | [.sl x o n _ _ z, .s sep] => Vd (Nat.beq z 1) (ob (rdE x o n h) fun l => ob (Gq asS l) fun l => ob (joinL sep l) fun r => Vd (Z3 (Nat.ble (R7 l) 65536) (Nat.ble (R7 r) 65536)) (.one (.s r, h)) .z) .z
  | [.sln, .s _] => .one (.s [], h)
  | _ => .z
def bytesE (ar : List AV) (h : H) : Option (List Nat) := match ar with
  | [.sl x o n _ _ z] => Vd (Nat.beq z 1) (bd (rdE x o n h) fun l => Gq ofU8 l) none
  | [.sln] => some []
  | _ => none
abbrev Mm := List (List Nat × List Nat)
def findM (tb : Mm) (l : List Nat) : Option (List Nat) := lf none (fun e _ ih => Vd (eqL e.1 l) (some e.2) ih) tb
def digE (tb : Mm) (ar : List AV) (h : H) : Rs Ou := ob (bytesE ar h) fun l => ob (findM tb l) fun r => .one (.ag (lf [] (fun b _ ih => .i .u8 (.ofNat b) :: ih) r), h)
def trueE (ar : List AV) (h : H) : Rs Ou := List.casesOn (motive := fun _ => Rs Ou) ar (.one (.b true, h)) fun _ _ => .z
abbrev Pr := Nat → List AV → H → Rs Ou
def prE (a b : Mm) (up : Bool) : Pr := fun k ar h => Nat.casesOn (motive := fun _ => Rs Ou) k (joinE ar h) fun k => Nat.casesOn (motive := fun _ => Rs Ou) k (digE a ar h) fun k => Nat.casesOn (motive := fun _ => Rs Ou) k (digE b ar h) fun _ => Vd up (trueE ar h) .z
def clE (ct : Tr CF) (pr : Pr) (n : Nat) : Cl := nf (M := Cl) (fun _ _ _ => .z) (fun _ ih t ar h => Tg.casesOn (motive := fun _ => Rs Ou) t (fun g => ob (Q5 g ct) fun c => Nat.casesOn (motive := fun _ => Rs Ou) c.pr (fnE ih c ar h) (fun k => pr k ar h)) (fun x => yieldE ih x ar h)) n
end
end Go.Ev
namespace Go.Ev
theorem Qa {α β : Type} {x : Option α} {f : α → Option β} {b : β} (h : bd x f = some b) : ∃ a, x = some a ∧ f a = some b := by
  cases x with
  | none => cases h
  | some a => exact ⟨a, rfl, h⟩
theorem Ve {α : Type} (t e : α) : Vd true t e = t := rfl
theorem Q9 {α : Type} (t e : α) : Vd false t e = e := rfl
theorem Q2 {x y : Bool} (h : Z3 x y = true) : x = true ∧ y = true := by cases x <;> cases y <;> first | exact ⟨rfl, rfl⟩ | cases h
theorem F3 {x y : Bool} (h : orB x y = true) : x = true ∨ y = true := by cases x <;> cases y <;> first | exact .inl rfl | exact .inr rfl | cases h
theorem Gv : Pa.dec .h = 0 := rfl
theorem Xw (p : Pa) : Pa.dec (.o p) = 2 * p.dec + 1 := rfl
theorem Xx (p : Pa) : Pa.dec (.i p) = 2 * p.dec + 2 := rfl
theorem Yd : ∀ {p q : Pa}, p.dec = q.dec → p = q
  | .h, .h, _ => rfl
  | .h, .o q, e0 => by rw [Gv, Xw] at e0; omega
  | .h, .i q, e0 => by rw [Gv, Xx] at e0; omega
  | .o p, .h, e0 => by rw [Gv, Xw] at e0; omega
  | .i p, .h, e0 => by rw [Gv, Xx] at e0; omega
  | .o p, .i q, e0 => by rw [Xw, Xx] at e0; omega
  | .i p, .o q, e0 => by rw [Xw, Xx] at e0; omega
  | .o p, .o q, e0 => by rw [Xw, Xw] at e0; rw [Yd (p := p) (q := q) (by omega)]
  | .i p, .i q, e0 => by rw [Xx, Xx] at e0; rw [Yd (p := p) (q := q) (by omega)]
theorem Zg : ∀ {p q : Pa}, p.succ = some q → q.dec = p.dec + 1
  | .h, q, e0 => by injection e0 with e0; subst e0; rfl
  | .o p, q, e0 => by injection e0 with e0; subst e0; rw [Xx, Xw]
  | .i p, q, e0 => by
    obtain ⟨s, hs, e0⟩ := Qa (x := Pa.succ p) e0
    injection e0 with e0; subst e0
    have := Zg hs
    rw [Xw, Xx]; omega
theorem Xs : ∀ {p q : Pa}, Pa.eq p q = true → p = q
  | .h, .h, _ => rfl
  | .o p, .o q, e0 => by rw [Xs (p := p) (q := q) e0]
  | .i p, .i q, e0 => by rw [Xs (p := p) (q := q) e0]
  | .h, .o _, e0 => by cases e0
  | .h, .i _, e0 => by cases e0
  | .o _, .h, e0 => by cases e0
  | .i _, .h, e0 => by cases e0
  | .o _, .i _, e0 => by cases e0
  | .i _, .o _, e0 => by cases e0
section
open Classical
variable {α : Type}
theorem Nh (x : Option α) : ∀ (p q : Pa), Q5 q (oneP x p) = if q = p then x else none
  | .h, .h => by simp; rfl
  | .h, .o q => by simp; cases q <;> rfl
  | .h, .i q => by simp; cases q <;> rfl
  | .o p, .h => by simp; rfl
  | .o p, .o q => by
    show Q5 q (oneP x p) = _
    rw [Nh x p q]
    simp
  | .o p, .i q => by simp; cases q <;> rfl
  | .i p, .h => by simp; rfl
  | .i p, .i q => by
    show Q5 q (oneP x p) = _
    rw [Nh x p q]
    simp
  | .i p, .o q => by simp; cases q <;> rfl
theorem Xi (q : Pa) : Q5 q (.e : Tr α) = none := by cases q <;> rfl
theorem V6 (x : Option α) : ∀ (p : Pa) (t t' : Tr α), Nu x p t = some t' → ∀ q, Q5 q t' = if q = p then x else Q5 q t
  | .h, .e, t', h, q => by
    injection h with h; subst h
    cases q with
    | h => simp; rfl
    | o q => simp [Xi]; exact Xi q
    | i q => simp [Xi]; exact Xi q
  | .h, .n l v r, t', h, q => by
    injection h with h; subst h
    cases q with
    | h => simp; rfl
    | o q => simp; rfl
    | i q => simp; rfl
  | .o p, .e, t', h, q => by
    injection h with h; subst h
    cases q with
    | h => simp; rfl
    | o q => simp [Xi]; exact Nh x p q
    | i q => simp [Xi]; exact Xi q
  | .i p, .e, t', h, q => by
    injection h with h; subst h
    cases q with
    | h => simp; rfl
    | i q => simp [Xi]; exact Nh x p q
    | o q => simp [Xi]; exact Xi q
  | .o p, .n l v r, t', h, q => by
    obtain ⟨l', hl, h⟩ := Qa (x := Nu x p l) h
    injection h with h; subst h
    cases q with
    | h => simp; rfl
    | o q => simp; exact V6 x p l l' hl q
    | i q => simp; rfl
  | .i p, .n l v r, t', h, q => by
    obtain ⟨r', hr, h⟩ := Qa (x := Nu x p r) h
    injection h with h; subst h
    cases q with
    | h => simp; rfl
    | i q => simp; exact V6 x p r r' hr q
    | o q => simp; rfl
theorem Gw : ∀ (p : Pa) (t : Tr α), B6 t p.dec = Q5 p t
  | .h, .e => rfl
  | .o p, .e => rfl
  | .i p, .e => rfl
  | .h, .n l v r => rfl
  | .o p, .n l v r => by
    have : B6 (.n l v r) (2 * p.dec + 1) = Vd (Nat.beq (Nat.mod (2 * p.dec) 2) 0) (B6 l (Nat.div (2 * p.dec) 2)) (B6 r (Nat.div (2 * p.dec) 2)) := rfl
    rw [Xw, this]
    have e1 : Nat.mod (2 * p.dec) 2 = 0 := by show 2 * p.dec % 2 = 0; omega
    have e2 : Nat.div (2 * p.dec) 2 = p.dec := by show 2 * p.dec / 2 = p.dec; omega
    rw [e1, e2]
    exact Gw p l
  | .i p, .n l v r => by
    have : B6 (.n l v r) (2 * p.dec + 2) = Vd (Nat.beq (Nat.mod (2 * p.dec + 1) 2) 0) (B6 l (Nat.div (2 * p.dec + 1) 2)) (B6 r (Nat.div (2 * p.dec + 1) 2)) := rfl
    rw [Xx, this]
    have e1 : Nat.mod (2 * p.dec + 1) 2 = 1 := by show (2 * p.dec + 1) % 2 = 1; omega
    have e2 : Nat.div (2 * p.dec + 1) 2 = p.dec := by show (2 * p.dec + 1) / 2 = p.dec; omega
    rw [e1, e2]
    exact Gw p r
end
end Go.Ev
namespace Go.Ev
structure Pl where
  cb : Nat
  bs : Nat
  sz : Nat
  by' : Bool
abbrev Io := Pa → Option Pl
def Io.le (ι κ : Io) : Prop := ∀ x p, ι x = some p → κ x = some p
theorem Io.le_refl (ι : Io) : ι.le ι := fun _ _ h => h
theorem Io.le_trans {ι κ μ : Io} (h : ι.le κ) (g : κ.le μ) : ι.le μ := fun x p hx => g x p (h x p hx)
def Xa (l : List Nat) : ByteArray := ⟨(l.map UInt8.ofNat).toArray⟩
mutual
def VR (ι : Io) : AV → Value → Prop
  | .b x, v => v = .bool x
  | .i k n, v => v = .int k n
  | .s l, v => v = .string (Xa l) ∧ ∀ b ∈ l, b < 256
  | .p x o, v => ∃ p, ι x = some p ∧ v = .pointer (some ⟨p.cb, p.bs + o, none⟩)
  | .pn, v => v = .pointer none
  | .sl x o n c ex z, v => ∃ p off c', ι x = some p ∧ v = .slice (some ⟨p.cb, off, none⟩) n c' ∧ (c ≤ c' ∧ c' ≤ maxLen) ∧ n ≤ c ∧ (ex = true → c' = c) ∧ off + c' * z ≤ p.sz ∧ (off = p.bs + o ∨ (n = 0 ∧ c = 0 ∧ ex = false))
  | .sln, v => v = .slice none 0 0
  | .m x, v => ∃ p, ι x = some p ∧ v = .map (some p.cb)
  | .mn, v => v = .map none
  | .f g a c, v => ∃ a' c', v = .func (.func g.dec) a' c' ∧ VRs ι a a'.toList ∧ VRs ι c c'.toList
  | .y x, v => ∃ p, ι x = some p ∧ v = .func (.yield p.cb) #[] #[]
  | .fn0, v => v = .nilFunc
  | .ifc t a, v => ∃ u, v = .iface t u ∧ VR ι a u
  | .ifn, v => v = .nilIface
  | .q n, v => ∃ b : Nat, v = .int .u8 b ∧ b < 256 ∧ b % 12 = n
  | .ag l, v => ∃ a, v = .agg a ∧ VRs ι l a.toList
  | .tu l, v => ∃ a, v = .tuple a ∧ VRs ι l a.toList
def VRs (ι : Io) : List AV → List Value → Prop
  | [], l => l = []
  | a :: r, l => ∃ v s, l = v :: s ∧ VR ι a v ∧ VRs ι r s
end
mutual
theorem VR.mono {ι κ : Io} (h : ι.le κ) : ∀ {a : AV} {v : Value}, VR ι a v → VR κ a v
  | .b _, _, q => by rw [VR] at *; exact q
  | .i .., _, q => by rw [VR] at *; exact q
  | .s _, _, q => by rw [VR] at *; exact q
  | .p .., _, q => by rw [VR] at *; obtain ⟨p, h1, h2⟩ := q; exact ⟨p, h _ _ h1, h2⟩
  | .pn, _, q => by rw [VR] at *; exact q
  | .sl .., _, q => by rw [VR] at *; obtain ⟨p, off, c', h1, h2⟩ := q; exact ⟨p, off, c', h _ _ h1, h2⟩
  | .sln, _, q => by rw [VR] at *; exact q
  | .m _, _, q => by rw [VR] at *; obtain ⟨p, h1, h2⟩ := q; exact ⟨p, h _ _ h1, h2⟩
  | .mn, _, q => by rw [VR] at *; exact q
  | .f .., _, q => by rw [VR] at *; obtain ⟨a, c, h1, h2, h3⟩ := q; exact ⟨a, c, h1, VRs.mono h h2, VRs.mono h h3⟩
  | .y _, _, q => by rw [VR] at *; obtain ⟨p, h1, h2⟩ := q; exact ⟨p, h _ _ h1, h2⟩
  | .fn0, _, q => by rw [VR] at *; exact q
  | .ifc .., _, q => by rw [VR] at *; obtain ⟨u, h1, h2⟩ := q; exact ⟨u, h1, VR.mono h h2⟩
  | .ifn, _, q => by rw [VR] at *; exact q
  | .q _, _, q => by rw [VR] at *; exact q
  | .ag _, _, q => by rw [VR] at *; obtain ⟨u, h1, h2⟩ := q; exact ⟨u, h1, VRs.mono h h2⟩
  | .tu _, _, q => by rw [VR] at *; obtain ⟨u, h1, h2⟩ := q; exact ⟨u, h1, VRs.mono h h2⟩
theorem VRs.mono {ι κ : Io} (h : ι.le κ) : ∀ {l : List AV} {m : List Value}, VRs ι l m → VRs κ l m
  | [], _, q => by rw [VRs] at *; exact q
  | a :: r, _, q => by rw [VRs] at *; obtain ⟨v, s, h1, h2, h3⟩ := q; exact ⟨v, s, h1, VR.mono h h2, VRs.mono h h3⟩
end
end Go.Ev
namespace Go.Ev
def optCb (ι : Io) : Option Pa → Option Nat → Prop
  | none, m => m = none
  | some x, m => ∃ p, ι x = some p ∧ m = some p.cb
def Xy (ι : Io) : Es → List MapEntry → Prop
  | [], l => l = []
  | e :: r, l => ∃ m s, l = m :: s ∧ VR ι e.1 m.key ∧ VR ι e.2.1 m.val ∧ m.born = e.2.2 ∧ Xy ι r s
def FR (ι : Io) (fr : Fm) (tmps : Array Value) : Prop := ∀ p a, Q5 p fr = some a → VR ι a (tmps.getD p.dec undef)
abbrev CkT := Nat → AC → Code → Prop
def stOf : LS → LoopState
  | .ready => .ready | .busy => .busy | .done => .done
def exOf : Ex → Option Code
  | .nm => none | .ex id => some (.exit id) | .rt => some .ret
def BR (Ck : CkT) (ι : Io) (p : Pl) : AO → Obj → Prop
  | .cells t zs n, ob => ∃ arr el lo hi, ob = .cells arr el (lo, hi) ∧ arr.size = p.sz ∧ p.bs + n ≤ p.sz ∧ (∀ j, j < n → ∃ a v, Nd t zs n j = some a ∧ arr[p.bs + j]? = some v ∧ VR ι a v) ∧
      (∀ j, j < p.sz → ¬ (lo ≤ j ∧ j < hi)) ∧ (p.by' = false → lo = 0 ∧ hi = 0) ∧ p.by' = Zt zs ∧ lo ≤ hi
  | .map es clock, ob => ∃ l, ob = .map l clock ∧ Xy ι es l.toList
  | .iter m since seen stepped, ob => p.bs = 0 ∧ ∃ m', optCb ι m m' ∧ ob = .mapIter m' since seen.toArray stepped
  | .loop fr ps asg body st pend, ob => ∃ r : Loop, ob = .loop r ∧ r.state = stOf st ∧ r.pending = exOf pend ∧ FR ι fr r.tmps ∧ r.params.toList = ps.map Pa.dec ∧ (∀ p ∈ ps, p.dec < r.tmps.size) ∧ Ck r.tmps.size asg r.assign ∧ Ck r.tmps.size body r.body
  | .dfr, ob => ob = .deferred (some [])
abbrev Gd := Nat → Option Obj
structure SR (Ck : CkT) (w₀ : World) (K : Gd) (ι : Io) (h : H) (w : World) : Prop where
  os : w.os = w₀.os
  tape : w.tape = w₀.tape
  output : w.output = w₀.output
  gd : ∀ c o, K c = some o → w.heap[c]? = some o
  rw : ∀ x a, Q5 x h.rw = some a → ∃ p o, ι x = some p ∧ w.heap[p.cb]? = some o ∧ K p.cb = none ∧ BR Ck ι p a o
  ro : ∀ x a, Q5 x h.ro = some a → ∃ p o, ι x = some p ∧ K p.cb = some o ∧ BR Ck ι p a o
  inj : ∀ x y p q, (Q5 x h.rw).isSome → (Q5 y h.rw).isSome → ι x = some p → ι y = some q → p.cb = q.cb → x = y
  injo : ∀ x y p q, (Q5 x h.ro).isSome → (Q5 y h.ro).isSome → ι x = some p → ι y = some q → p.cb = q.cb → x = y
  new : ∀ x, h.nx.dec ≤ x.dec → ι x = none
  lt : ∀ x p, ι x = some p → p.cb < w.heap.size
  one : ∀ x y p q, ι x = some p → ι y = some q → p.cb = q.cb → p.by' = q.by'
end Go.Ev
namespace Go.Ev
theorem Ye (t : Tr AV) (zs : List AV) (n : Nat) : ∀ (k j : Nat) (l : List AV), Ua t zs n k j = some l → l.length = k ∧ ∀ i a, l[i]? = some a → Nd t zs n (j + i) = some a
  | 0, j, l, h => by
    injection h with h; subst h
    exact ⟨rfl, fun i a hi => by simp at hi⟩
  | k + 1, j, l, h => by
    have e : Ua t zs n (k + 1) j = bd (Nd t zs n j) fun v => bd (Ua t zs n k (j + 1)) fun r => some (v :: r) := rfl
    rw [e] at h
    obtain ⟨v, hv, h⟩ := Qa h
    obtain ⟨r, hr, h⟩ := Qa h
    injection h with h; subst h
    obtain ⟨h1, h2⟩ := Ye t zs n k (j + 1) r hr
    refine ⟨by simp [h1], fun i a hi => ?_⟩
    cases i with
    | zero => simp at hi; subst hi; exact hv
    | succ i =>
      simp at hi
      have := h2 i a hi
      rwa [show j + 1 + i = j + (i + 1) by omega] at this
section
variable {Ck : CkT} {w₀ w : World} {K : Gd} {ι : Io} {h : H}
theorem SR.obj (s : SR Ck w₀ K ι h w) {x : Pa} {a : AO} (ha : R8 x h = some a) : ∃ p o, ι x = some p ∧ w.heap[p.cb]? = some o ∧ BR Ck ι p a o := by
  unfold R8 at ha
  cases hr : Q5 x h.rw with
  | some b =>
    rw [hr] at ha
    injection ha with ha; subst ha
    obtain ⟨p, o, h1, h2, _, h4⟩ := s.rw x _ hr
    exact ⟨p, o, h1, h2, h4⟩
  | none =>
    rw [hr] at ha
    obtain ⟨p, o, h1, h2, h3⟩ := s.ro x _ ha
    exact ⟨p, o, h1, s.gd _ _ h2, h3⟩
theorem SR.cell (s : SR Ck w₀ K ι h w) {x : Pa} {o : Nat} {a : AV} (ha : rd1 x o h = some a) : ∃ p u, ι x = some p ∧ w.cell? ⟨p.cb, p.bs + o, none⟩ = some u ∧ VR ι a u := by
  obtain ⟨ob, h1, h2⟩ := Qa (x := R8 x h) ha
  obtain ⟨p, c, h3, h4, h5⟩ := s.obj h1
  cases ob with
  | cells t zs n =>
    obtain ⟨arr, el, lo, hi, rfl, _, _, h6, _, _⟩ := h5
    have hlt : o < n := by
      have h2 : Nd t zs n o = some a := h2
      unfold Nd at h2
      cases hb : Nat.blt o n with
      | true => exact Nat.le_of_ble_eq_true hb
      | false => simp only [hb] at h2; cases h2
    obtain ⟨a', v, e1, e2, e3⟩ := h6 o hlt
    have e0 : Nd t zs n o = some a := h2
    rw [e0] at e1
    injection e1 with e1; subst e1
    exact ⟨p, v, h3, by simp [World.cell?, h4, e2], e3⟩
  | _ => cases h2
theorem SR.cells (s : SR Ck w₀ K ι h w) {x : Pa} {o k : Nat} {l : List AV} (ha : rdE x o k h = some l) :
    ∃ p us, ι x = some p ∧ VRs ι l us ∧ us.length = k ∧ ∀ j v, us[j]? = some v → w.cell? ⟨p.cb, p.bs + o + j, none⟩ = some v := by
  obtain ⟨ob, h1, h2⟩ := Qa (x := R8 x h) ha
  obtain ⟨p, c, h3, h4, h5⟩ := s.obj h1
  cases ob with
  | cells t zs n =>
    obtain ⟨arr, el, lo, hi, rfl, _, _, h6, _, _⟩ := h5
    obtain ⟨e1, e2⟩ := Ye t zs n k o l h2
    have key : ∀ (m : List AV) (d : Nat), (∀ i a, m[i]? = some a → Nd t zs n (o + d + i) = some a) → ∃ us : List Value, VRs ι m us ∧ us.length = m.length ∧ ∀ j v, us[j]? = some v → w.cell? ⟨p.cb, p.bs + o + d + j, none⟩ = some v := by
      intro m
      induction m with
      | nil => exact fun d _ => ⟨[], by rw [VRs], rfl, fun j v hv => by simp at hv⟩
      | cons a m ih =>
        intro d hd
        have ha0 := hd 0 a rfl
        have hlt : o + d < n := by
          unfold Nd at ha0
          cases hb : Nat.blt (o + d + 0) n with
          | true => exact Nat.le_of_ble_eq_true hb
          | false => simp only [hb] at ha0; cases ha0
        obtain ⟨a', v, q1, q2, q3⟩ := h6 (o + d) hlt
        rw [Nat.add_zero] at ha0
        rw [ha0] at q1
        injection q1 with q1; subst q1
        obtain ⟨us, u1, u2, u3⟩ := ih (d + 1) (fun i b hb => by
          have := hd (i + 1) b (by simpa using hb)
          rwa [show o + d + (i + 1) = o + (d + 1) + i by omega] at this)
        refine ⟨v :: us, by rw [VRs]; exact ⟨v, us, rfl, q3, u1⟩, by simp [u2], fun j u hu => ?_⟩
        cases j with
        | zero =>
          simp at hu; subst hu
          simp [World.cell?, h4, ← q2, Nat.add_assoc]
        | succ j =>
          simp at hu
          have := u3 j u hu
          rwa [show p.bs + o + (d + 1) + j = p.bs + o + d + (j + 1) by omega] at this
    obtain ⟨us, u1, u2, u3⟩ := key l 0 (fun i a hi => e2 i a hi)
    exact ⟨p, us, h3, u1, u2.trans e1, u3⟩
  | _ => cases h2
end
end Go.Ev
namespace Go.Ev
open Classical in
noncomputable def Io.set (ι : Io) (x : Pa) (p : Pl) : Io := fun y => if y = x then some p else ι y
theorem Qw (ι : Io) (x : Pa) (p : Pl) : ι.set x p x = some p := by simp [Io.set]
theorem Ql {ι : Io} {x y : Pa} {p : Pl} (h : y ≠ x) : ι.set x p y = ι y := by simp [Io.set, h]
theorem Xz {ι : Io} {x : Pa} {p : Pl} (h : ι x = none) : ι.le (ι.set x p) := fun y q hy => by
  by_cases e : y = x
  · subst e; rw [h] at hy; cases hy
  · rw [Ql e]; exact hy
theorem FR.mono {ι κ : Io} (hl : ι.le κ) {fr : Fm} {tmps : Array Value} (h : FR ι fr tmps) : FR κ fr tmps := fun p a ha => (h p a ha).mono hl
theorem Dm {ι κ : Io} (hl : ι.le κ) : ∀ {es : Es} {l : List MapEntry}, Xy ι es l → Xy κ es l
  | [], _, h => h
  | e :: r, _, ⟨m, s, h1, h2, h3, h4, h5⟩ => ⟨m, s, h1, h2.mono hl, h3.mono hl, h4, Dm hl h5⟩
theorem BR.mono {Ck : CkT} {ι κ : Io} (hl : ι.le κ) {p : Pl} {a : AO} {o : Obj} (h : BR Ck ι p a o) : BR Ck κ p a o := by
  cases a with
  | cells t zs n =>
    obtain ⟨arr, el, lo, hi, h1, h2, h3, h4, h5, h6⟩ := h
    exact ⟨arr, el, lo, hi, h1, h2, h3, fun j hj => let ⟨a, v, e1, e2, e3⟩ := h4 j hj; ⟨a, v, e1, e2, e3.mono hl⟩, h5, h6⟩
  | map es clock => obtain ⟨l, h1, h2⟩ := h; exact ⟨l, h1, Dm hl h2⟩
  | iter m since seen st =>
    obtain ⟨h0, m', h1, h2⟩ := h
    refine ⟨h0, m', ?_, h2⟩
    cases m with
    | none => exact h1
    | some x => obtain ⟨p, e1, e2⟩ := h1; exact ⟨p, hl _ _ e1, e2⟩
  | loop fr ps asg body st pend => obtain ⟨r, h1, h2, h3, h4, h5, h6, h7⟩ := h; exact ⟨r, h1, h2, h3, h4.mono hl, h5, h6, h7⟩
  | dfr => exact h
section
open Classical
variable {Ck : CkT} {w₀ w : World} {K : Gd} {ι : Io} {h h' : H}
theorem SR.alloc (s : SR Ck w₀ K ι h w) {ob : AO} (hn : Ij ob h = some h') (p : Pl) (hp : p.cb = w.heap.size) (o : Obj) (hb : BR Ck (ι.set h.nx p) p ob o) :
    ι.le (ι.set h.nx p) ∧ SR Ck w₀ K (ι.set h.nx p) h' { w with heap := w.heap.push o } := by
  obtain ⟨ro, rw', nx⟩ := h
  have hn : bd (Nu (some ob) nx rw') (fun rw => bd (Pa.succ nx) fun nx => some (⟨ro, rw, nx⟩ : H)) = some h' := hn
  obtain ⟨rw2, h1, hn⟩ := Qa hn
  obtain ⟨nx2, h2, hn⟩ := Qa hn
  injection hn with hn; subst hn
  have hset := V6 _ _ _ _ h1
  have hsucc := Zg h2
  have hnone : ι nx = none := s.new nx (Nat.le_refl _)
  have hle : ι.le (ι.set nx p) := Xz hnone
  have hK : ∀ c q, K c = some q → c < w.heap.size := fun c q hc => (Array.getElem?_eq_some_iff.1 (s.gd c q hc)).1
  have hold : ∀ c, c < w.heap.size → (w.heap.push o)[c]? = w.heap[c]? := fun c hc => by rw [Array.getElem?_push]; simp [Nat.ne_of_lt hc]
  have hnx : ∀ x, (Q5 x rw').isSome → x ≠ nx := fun x hx e => by
    subst e
    cases hg : Q5 x rw' with
    | none => rw [hg] at hx; cases hx
    | some a => obtain ⟨q, _, hq, _⟩ := s.rw x a hg; rw [hnone] at hq; cases hq
  refine ⟨hle, ⟨s.os, s.tape, s.output, fun c q hc => (hold c (hK c q hc)).trans (s.gd c q hc), ?_, ?_, ?_, ?_, ?_, ?_, ?_⟩⟩
  · intro x a hx
    rw [hset x] at hx
    by_cases e : x = nx
    · subst e
      simp at hx; subst hx
      refine ⟨p, o, Qw _ _ _, by show (w.heap.push o)[p.cb]? = some o; rw [hp]; simp, ?_, hb⟩
      cases hk : K p.cb with
      | none => rfl
      | some q => have := hK _ _ hk; omega
    · simp only [e, if_false] at hx
      obtain ⟨q, b, q1, q2, q3, q4⟩ := s.rw x a hx
      exact ⟨q, b, hle _ _ q1, (hold _ (s.lt _ _ q1)).trans q2, q3, q4.mono hle⟩
  · intro x a hx
    obtain ⟨q, b, q1, q2, q3⟩ := s.ro x a hx
    exact ⟨q, b, hle _ _ q1, q2, q3.mono hle⟩
  · intro x y q r hx hy hq hr hqr
    rw [hset x] at hx; rw [hset y] at hy
    by_cases ex : x = nx <;> by_cases ey : y = nx
    · rw [ex, ey]
    · subst ex
      rw [Qw] at hq; injection hq with hq; subst hq
      rw [Ql ey] at hr
      have := s.lt _ _ hr; omega
    · subst ey
      rw [Qw] at hr; injection hr with hr; subst hr
      rw [Ql ex] at hq
      have := s.lt _ _ hq; omega
    · simp only [ex, ey, if_false] at hx hy
      rw [Ql ex] at hq; rw [Ql ey] at hr
      exact s.inj x y q r hx hy hq hr hqr
  · intro x y q r hx hy hq hr hqr
    have ne : ∀ z, (Q5 z ro).isSome → z ≠ nx := fun z hz e => by
      subst e
      cases hg : Q5 z ro with
      | none => rw [hg] at hz; cases hz
      | some a => obtain ⟨q, _, hq, _⟩ := s.ro z a hg; rw [hnone] at hq; cases hq
    rw [Ql (ne x hx)] at hq; rw [Ql (ne y hy)] at hr
    exact s.injo x y q r hx hy hq hr hqr
  · intro x hx
    have hx : nx2.dec ≤ x.dec := hx
    have : x ≠ nx := fun e => by subst e; omega
    rw [Ql this]
    exact s.new x (by show nx.dec ≤ x.dec; omega)
  · intro x q hq
    show q.cb < (w.heap.push o).size
    rw [Array.size_push]
    by_cases e : x = nx
    · subst e; rw [Qw] at hq; injection hq with hq; subst hq; omega
    · rw [Ql e] at hq; have := s.lt _ _ hq; omega
  · intro x y q r hq hr hqr
    by_cases ex : x = nx <;> by_cases ey : y = nx
    · subst ex; subst ey
      rw [hq] at hr; injection hr with hr; rw [hr]
    · subst ex
      rw [Qw] at hq; injection hq with hq; subst hq
      rw [Ql ey] at hr
      have := s.lt _ _ hr; omega
    · subst ey
      rw [Qw] at hr; injection hr with hr; subst hr
      rw [Ql ex] at hq
      have := s.lt _ _ hq; omega
    · rw [Ql ex] at hq; rw [Ql ey] at hr
      exact s.one x y q r hq hr hqr
theorem SR.turn (s : SR Ck w₀ K ι h w) {x : Pa} {a a' : AO} (ha : Q5 x h.rw = some a) (hn : R4 x a' h = some h') {p : Pl} (hp : ι x = some p) {o : Obj} (hb : BR Ck ι p a' o) {w' : World}
    (h1 : w'.os = w.os) (h2 : w'.tape = w.tape) (h3 : w'.output = w.output) (h4 : w'.heap.size = w.heap.size) (h5 : w'.heap[p.cb]? = some o) (h6 : ∀ c, c ≠ p.cb → w'.heap[c]? = w.heap[c]?) :
    SR Ck w₀ K ι h' w' := by
  obtain ⟨ro, rw', nx⟩ := h
  obtain ⟨rw2, e1, hn⟩ := Qa (x := Nu (some a') x rw') hn
  injection hn with hn; subst hn
  have hset := V6 _ _ _ _ e1
  obtain ⟨p', o0, q1, q2, q3, q4⟩ := s.rw x a ha
  rw [hp] at q1; injection q1 with q1; subst q1
  have hsome : ∀ y, (Q5 y rw2).isSome → (Q5 y rw').isSome := fun y hy => by
    rw [hset y] at hy
    by_cases e : y = x
    · subst e; show (Q5 y rw').isSome = true; have ha' : Q5 y rw' = some a := ha; rw [ha']; rfl
    · simpa only [e, if_false] using hy
  refine ⟨h1.trans s.os, h2.trans s.tape, h3.trans s.output, fun c q hc => ?_, ?_, s.ro, fun y z q r hy hz => s.inj y z q r (hsome y hy) (hsome z hz), s.injo, s.new, fun y q hq => by rw [h4]; exact s.lt y q hq, s.one⟩
  · have : c ≠ p.cb := fun e => by subst e; rw [q3] at hc; cases hc
    exact (h6 c this).trans (s.gd c q hc)
  · intro y b hy
    rw [hset y] at hy
    by_cases e : y = x
    · subst e
      simp at hy; subst hy
      exact ⟨p, o, hp, h5, q3, hb⟩
    · simp only [e, if_false] at hy
      obtain ⟨q, c, r1, r2, r3, r4⟩ := s.rw y b hy
      have ne : q.cb ≠ p.cb := fun he => e (s.inj y x q p (by show (Q5 y rw').isSome = true; have hy' : Q5 y rw' = some b := hy; rw [hy']; rfl) (by show (Q5 x rw').isSome = true; have ha' : Q5 x rw' = some a := ha; rw [ha']; rfl) r1 hp he)
      exact ⟨q, c, r1, (h6 _ ne).trans r2, r3, r4⟩
theorem SR.drop (s : SR Ck w₀ K ι h w) {x : Pa} (hn : Gr x h = some h') : SR Ck w₀ K ι h' w := by
  obtain ⟨ro, rw', nx⟩ := h
  obtain ⟨_, _, hn⟩ := Qa (x := Q5 x rw') hn
  obtain ⟨rw2, e1, hn⟩ := Qa (x := Nu none x rw') hn
  injection hn with hn; subst hn
  have hset := V6 _ _ _ _ e1
  have hold : ∀ y b, Q5 y rw2 = some b → Q5 y rw' = some b := fun y b hy => by
    rw [hset y] at hy
    by_cases e : y = x
    · simp [e] at hy
    · simpa only [e, if_false] using hy
  have hsome : ∀ y, (Q5 y rw2).isSome → (Q5 y rw').isSome := fun y hy => by
    cases hg : Q5 y rw2 with
    | none => rw [hg] at hy; cases hy
    | some b => rw [hold y b hg]; rfl
  exact ⟨s.os, s.tape, s.output, s.gd, fun y b hy => s.rw y b (hold y b hy), s.ro, fun y z q r hy hz => s.inj y z q r (hsome y hy) (hsome z hz), s.injo, s.new, s.lt, s.one⟩
end
end Go.Ev
namespace Go.Ev
noncomputable def paF : Nat → Nat → Option Pa := nf (M := Nat → Option Pa) (fun _ => none) (fun _ ih k => Nat.casesOn (motive := fun _ => Option Pa) k (some .h) fun k => Vd (Nat.beq (Nat.mod k 2) 0) (bd (ih (Nat.div k 2)) fun p => some (.o p)) (bd (ih (Nat.div k 2)) fun p => some (.i p)))
theorem Bi : ∀ (f k : Nat) (p : Pa), paF f k = some p → p.dec = k
  | 0, k, p, h => by cases h
  | f + 1, 0, p, h => by
    have h : some Pa.h = some p := h
    injection h with h; subst h; rfl
  | f + 1, k + 1, p, h => by
    have e : paF (f + 1) (k + 1) = Vd (Nat.beq (Nat.mod k 2) 0) (bd (paF f (Nat.div k 2)) fun p => some (.o p)) (bd (paF f (Nat.div k 2)) fun p => some (.i p)) := rfl
    rw [e] at h
    cases hb : Nat.beq (Nat.mod k 2) 0 with
    | true =>
      rw [hb, Ve] at h
      obtain ⟨q, hq, h⟩ := Qa h
      injection h with h; subst h
      have h1 : k % 2 = 0 := Nat.eq_of_beq_eq_true hb
      have h2 := Bi f _ q hq
      have h3 : Nat.div k 2 = k / 2 := rfl
      rw [Xw, h2, h3]; omega
    | false =>
      rw [hb, Q9] at h
      obtain ⟨q, hq, h⟩ := Qa h
      injection h with h; subst h
      have h1 : ¬ k % 2 = 0 := fun e => by
        have : Nat.beq (k % 2) 0 = true := by rw [e]; rfl
        rw [show Nat.mod k 2 = k % 2 from rfl, this] at hb; cases hb
      have h2 := Bi f _ q hq
      have h3 : Nat.div k 2 = k / 2 := rfl
      rw [Xx, h2, h3]; omega
theorem paOf_spec {k : Nat} {p : Pa} (h : paOf k = some p) : p.dec = k := Bi 64 k p h
theorem Hz : ∀ k : Nat, ∃ p : Pa, p.dec = k := by
  intro k
  induction k using Nat.strongRecOn with
  | _ k ih =>
    cases k with
    | zero => exact ⟨.h, rfl⟩
    | succ k =>
      obtain ⟨p, hp⟩ := ih (k / 2) (by omega)
      by_cases hk : k % 2 = 0
      · exact ⟨.o p, by rw [Xw, hp]; omega⟩
      · exact ⟨.i p, by rw [Xx, hp]; omega⟩
theorem getN_setP {α : Type} {x : Option α} {p : Pa} {t t' : Tr α} (h : Nu x p t = some t') (k : Nat) : B6 t' k = if k = p.dec then x else B6 t k := by
  obtain ⟨q, rfl⟩ := Hz k
  rw [Gw, Gw, V6 x p t t' h q]
  by_cases e : q = p
  · simp [e]
  · have : q.dec ≠ p.dec := fun he => e (Yd he)
    simp [e, this]
theorem X3 : ∀ (l : List AV) (t : Tr AV) (j : Nat) (t' : Tr AV), Em l t j = some t' → ∀ k, B6 t' k = if j ≤ k ∧ k < j + l.length then l[k - j]? else B6 t k
  | [], t, j, t', h, k => by
    injection h with h; subst h
    have : ¬ (j ≤ k ∧ k < j + ([] : List AV).length) := by simp
    rw [if_neg this]
  | v :: l, t, j, t', h, k => by
    have e : Em (v :: l) t j = bd (paOf j) fun p => bd (Nu (some v) p t) fun t => Em l t (Nat.succ j) := rfl
    rw [e] at h
    obtain ⟨p, hp, h⟩ := Qa h
    obtain ⟨t1, h1, h⟩ := Qa h
    have hd := paOf_spec hp
    rw [X3 l t1 (j + 1) t' h k, getN_setP h1 k, hd]
    by_cases hk : k = j
    · subst hk
      have h2 : ¬ (k + 1 ≤ k ∧ k < k + 1 + l.length) := by omega
      simp [h2]
    · by_cases h3 : j + 1 ≤ k ∧ k < j + 1 + l.length
      · have h4 : j ≤ k ∧ k < j + (v :: l).length := by simp; omega
        rw [if_pos h3, if_pos h4, show k - j = (k - (j + 1)) + 1 by omega]
        simp
      · have h4 : ¬ (j ≤ k ∧ k < j + (v :: l).length) := by simp; omega
        rw [if_neg h3, if_neg h4, if_neg hk]
end Go.Ev
namespace Go.Ev
section
variable {α β : Type}
noncomputable def lenF (l : List α) : Nat → Nat := lf (M := Nat → Nat) (fun k => k) (fun _ _ ih k => ih (Nat.succ k)) l
theorem lenF_eq : ∀ (l : List α) (k : Nat), lenF l k = k + l.length
  | [], k => rfl
  | a :: l, k => by
    show lenF l (k + 1) = _
    rw [lenF_eq l (k + 1)]; simp; omega
theorem X4 (l : List α) : R7 l = l.length := by
  show lenF l 0 = _
  rw [lenF_eq]; omega
theorem Rb : ∀ (l : List α) (k : Nat), nthE l k = l[k]?
  | [], k => by simp; rfl
  | a :: l, 0 => rfl
  | a :: l, k + 1 => by
    show nthE l k = _
    rw [Rb l k]; simp
theorem Rc {f : α → Option β} : ∀ {l : List α} {m : List β}, Gq f l = some m → m.length = l.length ∧ ∀ (i : Nat) (a : α), l[i]? = some a → ∃ b, m[i]? = some b ∧ f a = some b
  | [], m, h => by
    injection h with h; subst h
    exact ⟨rfl, fun i a hi => by simp at hi⟩
  | a :: l, m, h => by
    have e : Gq f (a :: l) = bd (f a) fun x => bd (Gq f l) fun r => some (x :: r) := rfl
    rw [e] at h
    obtain ⟨x, hx, h⟩ := Qa h
    obtain ⟨r, hr, h⟩ := Qa h
    injection h with h; subst h
    obtain ⟨h1, h2⟩ := Rc hr
    refine ⟨by simp [h1], fun i b hi => ?_⟩
    cases i with
    | zero => simp at hi; subst hi; exact ⟨x, rfl, hx⟩
    | succ i => simp at hi; obtain ⟨c, h3, h4⟩ := h2 i b hi; exact ⟨c, by simpa using h3, h4⟩
theorem N2 : ∀ {l : List α} {k : Nat} {m : List α}, takeE l k = some m → m = l.take k ∧ k ≤ l.length
  | [], 0, m, h => by injection h with h; subst h; exact ⟨rfl, Nat.le_refl _⟩
  | [], k + 1, m, h => by cases h
  | a :: l, 0, m, h => by injection h with h; subst h; exact ⟨rfl, Nat.zero_le _⟩
  | a :: l, k + 1, m, h => by
    obtain ⟨r, hr, h⟩ := Qa (x := takeE l k) h
    injection h with h; subst h
    obtain ⟨h1, h2⟩ := N2 hr
    exact ⟨by simp [h1], by simp; omega⟩
theorem Dn : ∀ {l : List α} {k : Nat} {m : List α}, dropE l k = some m → m = l.drop k ∧ k ≤ l.length
  | [], 0, m, h => by injection h with h; subst h; exact ⟨rfl, Nat.le_refl _⟩
  | [], k + 1, m, h => by cases h
  | a :: l, 0, m, h => by injection h with h; subst h; exact ⟨rfl, Nat.zero_le _⟩
  | a :: l, k + 1, m, h => by
    obtain ⟨h1, h2⟩ := Dn (l := l) (k := k) h
    exact ⟨by simp [h1], by simp; omega⟩
theorem Zn {m : List α} : ∀ {l r : List α}, Dl l m = some r → r = l ++ m
  | [], r, h => by injection h with h; subst h; rfl
  | a :: l, r, h => by
    obtain ⟨s, hs, h⟩ := Qa (x := Dl l m) h
    injection h with h; subst h
    rw [Zn hs]; rfl
theorem F4 {l m : List α} {a n : Nat} (h : slE l a n = some m) : m = (l.drop a).take n ∧ a + n ≤ l.length := by
  obtain ⟨d, hd, h⟩ := Qa (x := dropE l a) h
  obtain ⟨h1, h2⟩ := Dn hd
  obtain ⟨h3, h4⟩ := N2 h
  subst h1
  exact ⟨h3, by simp at h4; omega⟩
end
end Go.Ev
namespace Go.Ev
theorem Xp (P : Program) (g o : Nat) (t : TypeId) (lo hi : Nat) : ∀ (vs : List Value) (i : Nat) (cur : Array Value) (w : World), w.heap[g]? = some (.cells cur t (lo, hi)) → (∀ j, j < cur.size → ¬ (lo ≤ j ∧ j < hi)) → o + i + vs.length ≤ cur.size →
    (∀ v ∈ vs, v.oneCell' = true) → (storeCells ⟨g, o, none⟩ vs i).run P w = .ok () (w.setRow g (cur.toList.take (o + i) ++ vs ++ cur.toList.drop (o + i + vs.length)).toArray)
  | [], i, cur, w, hg, _, _, _ => by
    simp only [storeCells, List.append_nil, List.length_nil, Nat.add_zero, List.take_append_drop, Array.toArray_toList]
    rw [setRow_self w g cur t (lo, hi) hg]
    rfl
  | v :: rest, i, cur, w, hg, hfz, hl, h1 => by
    have hi0 : o + i < cur.size := by simp at hl; omega
    have hadd : (⟨g, o, none⟩ : Addr).add i = ⟨g, o + i, none⟩ := by unfold Addr.add; split <;> simp_all
    have hcell : w.cell? ⟨g, o + i, none⟩ = some cur[o + i] := by simp [World.cell?, hg, hi0]
    have hfro : w.frozen? ⟨g, o + i, none⟩ = false := by
      have := hfz (o + i) hi0
      simp only [World.frozen?, hg, Bool.and_eq_false_iff, decide_eq_false_iff_not]
      by_cases h : lo ≤ o + i
      · right; exact fun h2 => this ⟨h, h2⟩
      · left; exact h
    have hst : (store ((⟨g, o, none⟩ : Addr).add i) v).run P w = .ok () (w.setRow g (cur.setIfInBounds (o + i) v)) := by
      rw [hadd, run_store P w _ v _ (h1 v (by simp)), hcell]
      simp [hfro, setCell_eq_setRow w g (o + i) cur t (lo, hi) v hg]
    have ih := Xp P g o t lo hi rest (i + 1) (cur.setIfInBounds (o + i) v) (w.setRow g (cur.setIfInBounds (o + i) v)) (setRow_heap w g cur _ t _ hg) (fun j hj => hfz j (by simpa using hj)) (by simp at hl ⊢; omega) (fun x hx => h1 x (by simp [hx]))
    simp only [storeCells, Sem.run_bind, hst, Result.andThen_ok, ih, setRow_setRow]
    congr 3
    have e := list_seg_step cur.toList (o + i) v rest (by simp at hl ⊢; omega)
    simpa [Array.toList_setIfInBounds, Nat.add_assoc] using e
end Go.Ev
namespace Go.Ev
theorem VRs.len {ι : Io} : ∀ {l : List AV} {vs : List Value}, VRs ι l vs → vs.length = l.length
  | [], vs, h => by rw [VRs] at h; subst h; rfl
  | a :: l, vs, h => by rw [VRs] at h; obtain ⟨v, s, rfl, _, h2⟩ := h; simp [VRs.len h2]
theorem VRs.get {ι : Io} : ∀ {l : List AV} {vs : List Value}, VRs ι l vs → ∀ {i : Nat} {a : AV}, l[i]? = some a → ∃ v, vs[i]? = some v ∧ VR ι a v
  | [], vs, h, i, a, hi => by simp at hi
  | b :: l, vs, h, i, a, hi => by
    rw [VRs] at h
    obtain ⟨v, s, rfl, h1, h2⟩ := h
    cases i with
    | zero => simp at hi; subst hi; exact ⟨v, rfl, h1⟩
    | succ i => simp at hi; obtain ⟨u, h3, h4⟩ := VRs.get h2 hi; exact ⟨u, by simpa using h3, h4⟩
theorem E8 {ι : Io} {a : AV} {v : Value} (h : single a = true) (hv : VR ι a v) : v.oneCell' = true := by
  cases a <;> rw [VR] at hv <;> first | (subst hv; rfl) | (obtain ⟨rfl, _⟩ := hv; rfl) | (cases h; done) | skip
  · obtain ⟨p, _, rfl⟩ := hv; rfl
  · obtain ⟨p, off, c', _, rfl, _⟩ := hv; rfl
  · obtain ⟨p, _, rfl⟩ := hv; rfl
  · obtain ⟨a, c, rfl, _⟩ := hv; rfl
  · obtain ⟨p, _, rfl⟩ := hv; rfl
  · obtain ⟨u, rfl, _⟩ := hv; rfl
  · obtain ⟨b, rfl, _⟩ := hv; rfl
theorem Uj {ι : Io} : ∀ {l : List AV} {vs : List Value}, N1 l = true → VRs ι l vs → ∀ v ∈ vs, v.oneCell' = true
  | [], vs, _, h, v, hv => by rw [VRs] at h; subst h; simp at hv
  | a :: l, vs, hs, h, v, hv => by
    rw [VRs] at h
    obtain ⟨u, s, rfl, h1, h2⟩ := h
    obtain ⟨s1, s2⟩ := Q2 (x := single a) (y := N1 l) hs
    rcases List.mem_cons.1 hv with rfl | hv
    · exact E8 s1 h1
    · exact Uj s2 h2 v hv
theorem Xf (t : Tr AV) (zs : List AV) (n j : Nat) (h : j < n) : Nd t zs n j = (match B6 t j with | none => dflt zs j | some v => some v) := by
  unfold Nd
  have : Nat.blt j n = true := Nat.ble_eq_true_of_le h
  rw [this, Ve]
  cases B6 t j <;> rfl
section
open Classical
variable {Ck : CkT} {w₀ w : World} {K : Gd} {ι : Io} {h h' : H}
theorem SR.write (P : Program) (s : SR Ck w₀ K ι h w) {x : Pa} {t t' : Tr AV} {zs : List AV} {n n' o : Nat} {l : List AV} {p : Pl} {vs : List Value}
    (ha : Q5 x h.rw = some (.cells t zs n)) (hone : N1 l = true) (hle : o ≤ n) (hput : Em l t o = some t') (hn' : n' = max n (o + l.length)) (hp : ι x = some p) (hfit : p.bs + o + l.length ≤ p.sz)
    (hset : R4 x (.cells t' zs n') h = some h') (hv : VRs ι l vs) : ∃ w', (storeCells ⟨p.cb, p.bs + o, none⟩ vs 0).run P w = .ok () w' ∧ SR Ck w₀ K ι h' w' := by
  obtain ⟨p', ob, q1, q2, q3, q4⟩ := s.rw x _ ha
  rw [hp] at q1; injection q1 with q1; subst q1
  obtain ⟨arr, el, lo, hi, rfl, b1, b2, b3, b4, b5⟩ := q4
  have hlen := hv.len
  have hrun := Xp P p.cb (p.bs + o) el lo hi vs 0 arr w q2 (fun j hj => b4 j (by omega)) (by omega) (Uj hone hv)
  simp only [Nat.add_zero] at hrun
  refine ⟨_, hrun, ?_⟩
  have hh := setRow_heap w p.cb arr (arr.toList.take (p.bs + o) ++ vs ++ arr.toList.drop (p.bs + o + vs.length)).toArray el (lo, hi) q2
  refine s.turn ha hset hp (o := .cells (arr.toList.take (p.bs + o) ++ vs ++ arr.toList.drop (p.bs + o + vs.length)).toArray el (lo, hi)) ?_ rfl rfl rfl (by simp [World.setRow]) hh (fun c hc => by simp only [World.setRow]; rw [Array.getElem?_modify]; simp [Ne.symm hc])
  have hsz : (arr.toList.take (p.bs + o) ++ vs ++ arr.toList.drop (p.bs + o + vs.length)).toArray.size = p.sz := by simp; omega
  refine ⟨_, el, lo, hi, rfl, hsz, by omega, fun j hj => ?_, b4, b5⟩
  have hg := X3 l t o t' hput j
  rw [Xf _ _ _ _ hj, hg]
  by_cases c : o ≤ j ∧ j < o + l.length
  · rw [if_pos c]
    have hlt : j - o < l.length := by omega
    obtain ⟨v, e1, e2⟩ := hv.get (i := j - o) (a := l[j - o]) (by simp [hlt])
    refine ⟨l[j - o], v, by simp [hlt], ?_, e2⟩
    simp only [List.getElem?_toArray]
    rw [List.getElem?_append_left (by simp; omega), List.getElem?_append_right (by simp; omega)]
    rw [← e1]
    congr 1
    simp; omega
  · rw [if_neg c]
    have hjn : j < n := by omega
    obtain ⟨a, v, e1, e2, e3⟩ := b3 j hjn
    rw [Xf _ _ _ _ hjn] at e1
    refine ⟨a, v, e1, ?_, e3⟩
    simp only [List.getElem?_toArray]
    by_cases c1 : j < o
    · rw [List.getElem?_append_left (by simp; omega), List.getElem?_append_left (by simp; omega), List.getElem?_take]
      rw [if_pos (by omega)]
      simpa using e2
    · rw [List.getElem?_append_right (by simp; omega), List.getElem?_drop]
      rw [← e2]
      simp only [List.length_append, List.length_take, Array.length_toList, Array.getElem?_toList]
      congr 1
      omega
end
end Go.Ev
namespace Go.Ev
theorem maxN_eq (a b : Nat) : maxN a b = max a b := by
  unfold maxN
  cases hb : Nat.ble a b with
  | true => have := Nat.le_of_ble_eq_true hb; rw [Ve]; omega
  | false => have : ¬ a ≤ b := fun h => by rw [Nat.ble_eq_true_of_le h] at hb; cases hb
             rw [Q9]; omega
section
open Classical
variable {Ck : CkT} {w₀ w : World} {K : Gd} {ι : Io} {h h' : H}
theorem Qx {α : Type} {c : Bool} {x : Option α} {a : α} (h : Vd c x none = some a) : c = true ∧ x = some a := by
  cases c
  · cases h
  · exact ⟨rfl, h⟩
theorem SR.stE (P : Program) (s : SR Ck w₀ K ι h w) {x : Pa} {o : Nat} {l : List AV} {p : Pl} {vs : List Value} (hs : stE x o l h = some h') (hp : ι x = some p) (hv : VRs ι l vs) :
    ∃ w', (storeCells ⟨p.cb, p.bs + o, none⟩ vs 0).run P w = .ok () w' ∧ SR Ck w₀ K ι h' w' := by
  obtain ⟨ob, ha, hs⟩ := Qa (x := Q5 x h.rw) hs
  cases ob with
  | cells t zs n =>
    obtain ⟨hc, hs⟩ := Qx hs
    obtain ⟨c1, c2⟩ := Q2 hc
    obtain ⟨t', ht, hs⟩ := Qa hs
    have hle : o + l.length ≤ n := by have := Nat.le_of_ble_eq_true c1; rwa [X4] at this
    obtain ⟨p', ob', q1, q2, q3, q4⟩ := s.rw x _ ha
    rw [hp] at q1; injection q1 with q1; subst q1
    obtain ⟨arr, el, lo, hi, _, b1, b2, _⟩ := q4
    exact s.write P ha c2 (by omega) ht (by omega) hp (by omega) hs hv
  | _ => cases hs
theorem SR.wrE (P : Program) (s : SR Ck w₀ K ι h w) {x : Pa} {o : Nat} {l : List AV} {p : Pl} {vs : List Value} (hs : wrE x o l h = some h') (hp : ι x = some p) (hfit : p.bs + o + l.length ≤ p.sz) (hv : VRs ι l vs) :
    ∃ w', (storeCells ⟨p.cb, p.bs + o, none⟩ vs 0).run P w = .ok () w' ∧ SR Ck w₀ K ι h' w' := by
  obtain ⟨ob, ha, hs⟩ := Qa (x := Q5 x h.rw) hs
  cases ob with
  | cells t zs n =>
    obtain ⟨hc, hs⟩ := Qx hs
    obtain ⟨c1, c2⟩ := Q2 hc
    obtain ⟨n', hn, hs⟩ := Qa hs
    obtain ⟨t', ht, hs⟩ := Qa hs
    have hn : some (maxN n (o + R7 l)) = some n' := hn
    injection hn with hn
    rw [maxN_eq, X4] at hn
    exact s.write P ha c2 (Nat.le_of_ble_eq_true c1) ht hn.symm hp hfit hs hv
  | _ => cases hs
end
end Go.Ev
namespace Go.Ev
theorem Gx {m : Nat} {n r : Int} (hm : 0 < m) (e : wrapU m n = some r) : r = n % (m : Int) := by
  cases n with
  | ofNat a =>
    have e : some (Int.ofNat (a % m)) = some r := e
    injection e with e; subst e; rfl
  | negSucc a =>
    have e : some (Int.ofNat (m - 1 - a % m)) = some r := e
    injection e with e; subst e
    rw [Int.negSucc_emod _ (by omega)]
    have : a % m < m := Nat.mod_lt _ hm
    simp; omega
theorem Gy {h : Nat} {n r : Int} (e : wrapS h n = some r) : r = n ∧ -(h : Int) ≤ n ∧ n < h := by
  cases n with
  | ofNat a =>
    obtain ⟨h1, e⟩ := Qx (x := some (Int.ofNat a)) e
    injection e with e; subst e
    have := Nat.le_of_ble_eq_true h1
    refine ⟨rfl, ?_, ?_⟩ <;> simp <;> omega
  | negSucc a =>
    obtain ⟨h1, e⟩ := Qx (x := some (Int.negSucc a)) e
    injection e with e; subst e
    have := Nat.le_of_ble_eq_true h1
    refine ⟨rfl, ?_, ?_⟩ <;> omega
theorem Jo {k : IntKind} {n r : Int} (e : Hw k n = some r) : k.wrap n = r := by
  cases k
  · obtain ⟨rfl, h1, h2⟩ := Gy (h := 128) e; simp only [IntKind.wrap, IntKind.bits, IntKind.signed]; simp; omega
  · obtain ⟨rfl, h1, h2⟩ := Gy (h := 32768) e; simp only [IntKind.wrap, IntKind.bits, IntKind.signed]; simp; omega
  · obtain ⟨rfl, h1, h2⟩ := Gy (h := 2147483648) e; simp only [IntKind.wrap, IntKind.bits, IntKind.signed]; simp; omega
  · obtain ⟨rfl, h1, h2⟩ := Gy (h := 9223372036854775808) e; simp only [IntKind.wrap, IntKind.bits, IntKind.signed]; simp; omega
  · rw [Gx (m := 256) (by decide) e]; simp [IntKind.wrap, IntKind.bits, IntKind.signed]
  · rw [Gx (m := 65536) (by decide) e]; simp [IntKind.wrap, IntKind.bits, IntKind.signed]
  · rw [Gx (m := 4294967296) (by decide) e]; simp [IntKind.wrap, IntKind.bits, IntKind.signed]
  · rw [Gx (m := 18446744073709551616) (by decide) e]; simp [IntKind.wrap, IntKind.bits, IntKind.signed]
theorem Jx {a b : IntKind} (h : kEq a b = true) : a = b := by cases a <;> cases b <;> first | rfl | cases h
theorem Vv {n : Int} {a : Nat} (h : Bd n = some a) : n = (a : Int) := by
  cases n with
  | ofNat b => have h : some b = some a := h; injection h with h; subst h; rfl
  | negSucc b => cases h
theorem Jy (x : Bool) : Y2 x = !x := by cases x <;> rfl
theorem Re (x y : Bool) : bEq x y = (x == y) := by cases x <;> cases y <;> rfl
theorem N3 (x y : Bool) : Z3 x y = (x && y) := by cases x <;> rfl
theorem orB_eq (x y : Bool) : orB x y = (x || y) := by cases x <;> rfl
theorem Ni (x y : Nat) : Nat.beq x y = (x == y) := by rw [Bool.eq_iff_iff]; simp [Nat.beq_eq]
theorem Do (x y : Nat) : Nat.blt x y = decide (x < y) := by
  cases h : Nat.blt x y with
  | true => have := Nat.le_of_ble_eq_true h; simp; omega
  | false => have : ¬ x < y := fun e => by rw [show Nat.blt x y = true from Nat.ble_eq_true_of_le e] at h; cases h
             simp; omega
theorem ble_eq (x y : Nat) : Nat.ble x y = decide (x ≤ y) := by
  cases h : Nat.ble x y with
  | true => have := Nat.le_of_ble_eq_true h; simp; omega
  | false => have : ¬ x ≤ y := fun e => by rw [Nat.ble_eq_true_of_le e] at h; cases h
             simp; omega
theorem ltI_eq (a b : Int) : ltI a b = decide (a < b) := by
  cases a with
  | ofNat a => cases b with
    | ofNat b => show Nat.blt a b = _; rw [Do]; simp
    | negSucc b => show false = _; simp; omega
  | negSucc a => cases b with
    | ofNat b => show true = _; simp; omega
    | negSucc b => show Nat.blt b a = _; rw [Do]; simp; omega
theorem Rf (a b : Int) : eqI a b = (a == b) := by
  cases a with
  | ofNat a => cases b with
    | ofNat b => show Nat.beq a b = _; rw [Ni, Bool.eq_iff_iff]; simp only [beq_iff_eq]; exact ⟨fun h => by rw [h], fun h => Int.ofNat.inj h⟩
    | negSucc b => show false = _; simp
  | negSucc a => cases b with
    | ofNat b => show false = _; simp
    | negSucc b => show Nat.beq a b = _; rw [Ni, Bool.eq_iff_iff]; simp
theorem Ut (x : Bool) : Jm x = some (.b x) := by cases x <;> rfl
def LV {α : Type} (P : Program) (X : Sem α) (w : World) (Q : α → Prop) : Prop := ∃ v, X.run P w = .ok v w ∧ Q v
theorem LV.ok {α : Type} {P : Program} {X : Sem α} {w : World} {Q : α → Prop} {v : α} (h : X.run P w = .ok v w) (q : Q v) : LV P X w Q := ⟨v, h, q⟩
theorem F5 (k : IntKind) : kBits k = k.bits := by cases k <;> rfl
theorem Rg (k : IntKind) : ∃ j, kTop k = 2 ^ j ∧ j ≤ k.bits ∧ ∀ n : Nat, n < kTop k → k.wrap n = n := by
  cases k
  · exact ⟨7, rfl, by decide, fun n h => by have h : n < 128 := h; simp only [IntKind.wrap, IntKind.bits, IntKind.signed]; simp; omega⟩
  · exact ⟨15, rfl, by decide, fun n h => by have h : n < 32768 := h; simp only [IntKind.wrap, IntKind.bits, IntKind.signed]; simp; omega⟩
  · exact ⟨31, rfl, by decide, fun n h => by have h : n < 2147483648 := h; simp only [IntKind.wrap, IntKind.bits, IntKind.signed]; simp; omega⟩
  · exact ⟨63, rfl, by decide, fun n h => by have h : n < 9223372036854775808 := h; simp only [IntKind.wrap, IntKind.bits, IntKind.signed]; simp; omega⟩
  · exact ⟨8, rfl, by decide, fun n h => by have h : n < 256 := h; simp only [IntKind.wrap, IntKind.bits, IntKind.signed]; simp; omega⟩
  · exact ⟨16, rfl, by decide, fun n h => by have h : n < 65536 := h; simp only [IntKind.wrap, IntKind.bits, IntKind.signed]; simp; omega⟩
  · exact ⟨32, rfl, by decide, fun n h => by have h : n < 4294967296 := h; simp only [IntKind.wrap, IntKind.bits, IntKind.signed]; simp; omega⟩
  · exact ⟨64, rfl, by decide, fun n h => by have h : n < 18446744073709551616 := h; simp only [IntKind.wrap, IntKind.bits, IntKind.signed]; simp; omega⟩
theorem Zi (k : IntKind) (a : Nat) (h : a < kTop k) : (BitVec.ofInt k.bits (a : Int)).toNat = a := by
  obtain ⟨j, h1, h2, _⟩ := Rg k
  rw [h1] at h
  have : 2 ^ j ≤ 2 ^ k.bits := Nat.pow_le_pow_right (by decide) h2
  simp only [BitVec.toNat_ofInt]
  have h3 : ((a : Int) % (2 ^ k.bits : Nat)).toNat = a % 2 ^ k.bits := by omega
  rw [h3]
  exact Nat.mod_eq_of_lt (by omega)
section
variable {P : Program} {w : World}
theorem Gz {k : IntKind} {a b : Int} {u : AV} {f : Int → Int → Int} (h : arE f k a b = some u) : ∀ ι, VR ι u (.int k (k.wrap (f a b))) := by
  obtain ⟨n, hn, h⟩ := Qa h
  injection h with h; subst h
  intro ι
  rw [VR, Jo hn]
theorem Nj {k : IntKind} {a b : Int} {u : AV} {f : Nat → Nat → Nat} (hf : ∀ j x y : Nat, x < 2 ^ j → y < 2 ^ j → f x y < 2 ^ j) (h : bitE f k a b = some u) :
    ∃ x y : Nat, a = x ∧ b = y ∧ x < kTop k ∧ y < kTop k ∧ ∀ ι, VR ι u (.int k (k.wrap (f x y))) := by
  obtain ⟨x, hx, h⟩ := Qa h
  obtain ⟨y, hy, h⟩ := Qa h
  obtain ⟨hc, h⟩ := Qx h
  obtain ⟨c1, c2⟩ := Q2 hc
  obtain ⟨n, hn, h⟩ := Qa h
  have hn : some (f x y) = some n := hn
  injection hn with hn; subst hn
  injection h with h; subst h
  rw [Do] at c1 c2
  have c1 := of_decide_eq_true c1
  have c2 := of_decide_eq_true c2
  refine ⟨x, y, Vv hx, Vv hy, c1, c2, fun ι => ?_⟩
  obtain ⟨j, h1, h2, h3⟩ := Rg k
  rw [VR, h3 (f x y) (by rw [h1]; exact hf j x y (h1 ▸ c1) (h1 ▸ c2))]
  rfl
theorem quoE_spec {k : IntKind} {a b : Int} {u : AV} (h : quoE k a b = some u) : b ≠ 0 ∧ ∀ ι, VR ι u (.int k (k.wrap (a.tdiv b))) := by
  obtain ⟨y, hy, h⟩ := Qa h
  have hb := Vv hy
  rw [hb]
  cases hz : Nat.beq y 0 with
  | true => rw [hz] at h; cases h
  | false =>
    rw [hz, Q9] at h
    have hy0 : y ≠ 0 := fun e => by rw [e] at hz; cases hz
    refine ⟨by omega, fun ι => ?_⟩
    cases a with
    | ofNat a =>
      obtain ⟨n, hn, h⟩ := Qa h
      have hn : some (a / y) = some n := hn
      injection hn with hn; subst hn
      obtain ⟨r, hr, h⟩ := Qa h
      injection h with h; subst h
      rw [VR, ← Jo hr]; rfl
    | negSucc a =>
      obtain ⟨n, hn, h⟩ := Qa h
      obtain ⟨r, hr, h⟩ := Qa h
      injection h with h; subst h
      have hn2 : n = -(((a + 1) / y : Nat) : Int) := by
        have hn : negE ((a + 1) / y) = some n := hn
        generalize (a + 1) / y = q at hn
        cases q with
        | zero => have hn : some (Int.ofNat 0) = some n := hn; injection hn with hn; subst hn; rfl
        | succ q => have hn : some (Int.negSucc q) = some n := hn; injection hn with hn; subst hn; rfl
      rw [VR, ← Jo hr, hn2]; rfl
theorem remE_spec {k : IntKind} {a b : Int} {u : AV} (h : remE k a b = some u) : b ≠ 0 ∧ ∀ ι, VR ι u (.int k (a.tmod b)) := by
  obtain ⟨x, hx, h⟩ := Qa h
  obtain ⟨y, hy, h⟩ := Qa h
  have hb := Vv hy
  have ha := Vv hx
  rw [hb, ha]
  cases hz : Nat.beq y 0 with
  | true => rw [hz] at h; cases h
  | false =>
    rw [hz, Q9] at h
    have hy0 : y ≠ 0 := fun e => by rw [e] at hz; cases hz
    obtain ⟨n, hn, h⟩ := Qa h
    have hn : some (x % y) = some n := hn
    injection hn with hn; subst hn
    injection h with h; subst h
    exact ⟨by omega, fun ι => by rw [VR]; rfl⟩
theorem E9 (a b : Nat) : Vd (Nat.ble a b) a b = min a b := by
  cases h : Nat.ble a b with
  | true => have := Nat.le_of_ble_eq_true h; rw [Ve]; omega
  | false => have : ¬ a ≤ b := fun e => by rw [Nat.ble_eq_true_of_le e] at h; cases h
             rw [Q9]; omega
theorem shlE_spec {k : IntKind} {a b : Int} {u : AV} (yk : IntKind) (h : shlE k a b = some u) : LV P (Op.shift .shl k a yk b) w fun v => ∀ ι, VR ι u v := by
  obtain ⟨x, hx, h⟩ := Qa h
  obtain ⟨y, hy, h⟩ := Qa h
  have hb := Vv hy
  have ha := Vv hx
  rw [hb, ha]
  obtain ⟨n, hn, h⟩ := Qa h
  rw [E9, F5] at hn
  have hn : some (x * 2 ^ (min y k.bits)) = some n := hn
  injection hn with hn; subst hn
  obtain ⟨r, hr, h⟩ := Qa h
  injection h with h; subst h
  refine ⟨_, ?_, fun ι => by rw [VR]⟩
  have : ¬ (y : Int) < 0 := by omega
  simp only [Op.shift, this, if_false, Int.toNat_natCast]
  rw [← Jo hr]
  simp
theorem shrE_spec {k : IntKind} {a b : Int} {u : AV} (yk : IntKind) (h : shrE k a b = some u) : LV P (Op.shift .shr k a yk b) w fun v => ∀ ι, VR ι u v := by
  obtain ⟨x, hx, h⟩ := Qa h
  obtain ⟨y, hy, h⟩ := Qa h
  have hb := Vv hy
  have ha := Vv hx
  rw [hb, ha]
  obtain ⟨n, hn, h⟩ := Qa h
  rw [E9, F5] at hn
  have hn : some (x / 2 ^ (min y k.bits)) = some n := hn
  injection hn with hn; subst hn
  injection h with h; subst h
  refine ⟨_, ?_, fun ι => by rw [VR]⟩
  have : ¬ (y : Int) < 0 := by omega
  simp only [Op.shift, this, if_false, Int.toNat_natCast]
  have e : ((x : Int).fdiv (2 ^ (min y k.bits))) = ((x / 2 ^ (min y k.bits) : Nat) : Int) := by
    rw [Int.fdiv_eq_ediv_of_nonneg _ (Int.pow_nonneg (by decide))]
    simp
  rw [e]
  simp
theorem andNot_eq {w : Nat} (a b : BitVec w) : a &&& ~~~b = a ^^^ (a &&& b) := by
  apply BitVec.eq_of_getLsbD_eq
  intro i hi
  simp only [BitVec.getLsbD_and, BitVec.getLsbD_not, BitVec.getLsbD_xor, hi]
  cases a.getLsbD i <;> cases b.getLsbD i <;> rfl
theorem notLt (a b : Int) : (!decide (b < a)) = decide (a ≤ b) := by by_cases h : a ≤ b <;> simp [h] <;> omega
theorem Cs {op : BinOp} {k : IntKind} {a b : Int} {u : AV} (t : TypeId) (h1 : op ≠ .shl) (h2 : op ≠ .shr) (h : binI op k a b = some u) : LV P (binOp op t (.int k a) (.int k b)) w fun v => ∀ ι, VR ι u v := by
  cases op <;> try (exact absurd rfl h1) <;> try (exact absurd rfl h2)
  · exact .ok (by simp [binOp, Op.intArith]) (Gz (f := Int.add) h)
  · exact .ok (by simp [binOp, Op.intArith]; rfl) (Gz (f := Int.sub) h)
  · exact .ok (by simp [binOp, Op.intArith]) (Gz (f := Int.mul) h)
  · obtain ⟨hb, hv⟩ := quoE_spec h
    exact .ok (by simp [binOp, Op.intDiv, hb]) hv
  · obtain ⟨hb, hv⟩ := remE_spec h
    exact .ok (by simp [binOp, Op.intDiv, hb]) hv
  · obtain ⟨x, y, rfl, rfl, hx, hy, hv⟩ := Nj (f := Nat.land) (fun j x y _ hy => Nat.and_lt_two_pow x hy) h
    exact .ok (by simp only [binOp, Op.intBits]; simp only [ne_eq, not_true_eq_false, if_false, Sem.run_pure]; rw [BitVec.toNat_and, Zi k x hx, Zi k y hy]; rfl) hv
  · obtain ⟨x, y, rfl, rfl, hx, hy, hv⟩ := Nj (f := Nat.lor) (fun j x y hx hy => Nat.or_lt_two_pow hx hy) h
    exact .ok (by simp only [binOp, Op.intBits]; simp only [ne_eq, not_true_eq_false, if_false, Sem.run_pure]; rw [BitVec.toNat_or, Zi k x hx, Zi k y hy]; rfl) hv
  · obtain ⟨x, y, rfl, rfl, hx, hy, hv⟩ := Nj (f := Nat.xor) (fun j x y hx hy => Nat.xor_lt_two_pow hx hy) h
    exact .ok (by simp only [binOp, Op.intBits]; simp only [ne_eq, not_true_eq_false, if_false, Sem.run_pure]; rw [BitVec.toNat_xor, Zi k x hx, Zi k y hy]; rfl) hv
  · exact absurd rfl h2
  · obtain ⟨x, y, rfl, rfl, hx, hy, hv⟩ := Nj (f := andNotN) (fun j x y hx hy => Nat.xor_lt_two_pow hx (Nat.and_lt_two_pow x hy)) h
    exact .ok (by simp only [binOp, Op.intBits]; simp only [ne_eq, not_true_eq_false, if_false, Sem.run_pure]; rw [andNot_eq, BitVec.toNat_xor, BitVec.toNat_and, Zi k x hx, Zi k y hy]; rfl) hv
  all_goals try (cases h; done)
  all_goals try (exact absurd rfl h2)
  all_goals (
    simp only [binI, Ut, Rf, ltI_eq, Jy] at h
    injection h with h; subst h
    exact .ok (by simp only [binOp, Op.intCmp, ne_eq, not_true_eq_false, if_false, Sem.run_pure]; rfl) (fun ι => by first | (rw [VR]; done) | (rw [VR, notLt]; done) | (rw [VR]; rfl)))
end
end Go.Ev
namespace Go.Ev
theorem F6 : ∀ a b : List Nat, eqL a b = (a == b)
  | [], [] => rfl
  | [], _ :: _ => rfl
  | _ :: _, [] => rfl
  | x :: a, y :: b => by
    show Z3 (Nat.beq x y) (eqL a b) = _
    rw [N3, F6 a b, Ni]; rfl
def By (l : List Nat) : Prop := ∀ b ∈ l, b < 256
theorem Ct {x y : Nat} (hx : x < 256) (hy : y < 256) : (UInt8.ofNat x = UInt8.ofNat y) ↔ x = y :=
  ⟨fun h => by have := congrArg UInt8.toNat h; simpa [Nat.mod_eq_of_lt hx, Nat.mod_eq_of_lt hy] using this, fun h => by rw [h]⟩
theorem Bj : ∀ {a b : List Nat}, By a → By b → ((a.map UInt8.ofNat) == (b.map UInt8.ofNat)) = eqL a b
  | [], [], _, _ => rfl
  | [], _ :: _, _, _ => rfl
  | _ :: _, [], _, _ => rfl
  | x :: a, y :: b, ha, hb => by
    show ((UInt8.ofNat x == UInt8.ofNat y) && ((a.map UInt8.ofNat) == (b.map UInt8.ofNat))) = Z3 (Nat.beq x y) (eqL a b)
    rw [Bj (fun z hz => ha z (by simp [hz])) (fun z hz => hb z (by simp [hz])), N3, Ni]
    congr 1
    rw [Bool.eq_iff_iff]
    simp only [beq_iff_eq]
    exact Ct (ha x (by simp)) (hb y (by simp))
theorem ltL_map : ∀ {a b : List Nat}, By a → By b → Op.bytesLess (a.map UInt8.ofNat) (b.map UInt8.ofNat) = ltL a b
  | [], [], _, _ => rfl
  | [], _ :: _, _, _ => rfl
  | _ :: _, [], _, _ => rfl
  | x :: a, y :: b, ha, hb => by
    show (decide (UInt8.ofNat x < UInt8.ofNat y) || ((UInt8.ofNat x == UInt8.ofNat y) && Op.bytesLess (a.map UInt8.ofNat) (b.map UInt8.ofNat))) = orB (Nat.blt x y) (Z3 (Nat.beq x y) (ltL a b))
    rw [ltL_map (fun z hz => ha z (by simp [hz])) (fun z hz => hb z (by simp [hz])), orB_eq, N3, Ni, Do]
    have hx := ha x (by simp)
    have hy := hb y (by simp)
    congr 1
    · rw [decide_eq_decide]; show (UInt8.ofNat x).toNat < (UInt8.ofNat y).toNat ↔ x < y; simp [Nat.mod_eq_of_lt hx, Nat.mod_eq_of_lt hy]
    · congr 1
      rw [Bool.eq_iff_iff]
      simp only [beq_iff_eq]
      exact Ct hx hy
theorem Yq (l : List Nat) : (Xa l).toList = l.map UInt8.ofNat := ByteArray.toList_mk _
theorem Xt (l : List Nat) : (Xa l).size = l.length := by simp [Xa, ByteArray.size]
theorem Cu (a b : List Nat) : Xa a ++ Xa b = Xa (a ++ b) := by simp [Xa, ByteArray.mk_append_mk]
theorem Nk (l : List Nat) (a b : Nat) : (Xa l).extract a b = Xa ((l.drop a).take (b - a)) := by simp [Xa, ByteArray.extract_mk, List.map_drop, List.map_take]
theorem strOf_get (l : List Nat) (i : Nat) : (Xa l)[i]? = l[i]?.map UInt8.ofNat := by
  by_cases h : i < l.length
  · rw [ByteArray.getElem?_lt' _ _ (by rw [Xt]; exact h)]
    simp [h]
    show (l.map UInt8.ofNat).toArray[i]'(by simp; exact h) = _
    simp
  · rw [ByteArray.getElem?_ge' _ _ (by rw [Xt]; exact h)]
    simp at h; simp [h]
theorem By.append {a b : List Nat} (ha : By a) (hb : By b) : By (a ++ b) := fun x hx => (List.mem_append.1 hx).elim (ha x) (hb x)
section
variable {P : Program} {w : World}
theorem Cv (op : BinOp) (t : TypeId) (a b : ByteArray) : binOp op t (.string a) (.string b) = Op.stringOp op a b := by cases op <;> rfl
theorem binS_spec {op : BinOp} {a b : List Nat} {u : AV} (t : TypeId) (ha : By a) (hb : By b) (h : binS op a b = some u) : LV P (binOp op t (.string (Xa a)) (.string (Xa b))) w fun v => ∀ ι, VR ι u v := by
  rw [Cv]
  cases op <;> try (cases h; done)
  · obtain ⟨l, hl, h⟩ := Qa h
    obtain ⟨hc, h⟩ := Qx h
    injection h with h; subst h
    have hl := Zn hl
    subst hl
    rw [ble_eq, X4] at hc
    have hc := of_decide_eq_true hc
    simp at hc
    refine .ok (v := .string (Xa (a ++ b))) ?_ (fun ι => by rw [VR]; exact ⟨rfl, ha.append hb⟩)
    rw [run_string_add_sum w _ _ (by rw [Xt, Xt]; omega), Cu]
  all_goals (
    simp only [binS, Ut, Jy, orB_eq] at h
    injection h with h; subst h
    exact .ok (by simp only [Op.stringOp, Yq, Bj ha hb, ltL_map ha hb, Sem.run_pure]; rfl) (fun ι => by rw [VR]))
theorem idxS_spec {l : List Nat} {i : Int} {u : AV} {t : TypeId} {k : IntKind} (ht : P.underlying t = some .string) (hl : By l) (h : idxSE l i = some u) : LV P (Instr.index t (.string (Xa l)) (.int k i)) w fun v => ∀ ι, VR ι u v := by
  obtain ⟨n, hn, h⟩ := Qa h
  have hi := Vv hn
  subst hi
  obtain ⟨b, hb, h⟩ := Qa h
  injection h with h; subst h
  rw [Rb] at hb
  refine .ok (v := .int .u8 b) ?_ (fun ι => by rw [VR]; rfl)
  have hb2 : b < 256 := hl b (List.mem_of_getElem? hb)
  simp [Instr.index, asIntOf, run_underlying ht, strOf_get, hb, Nat.mod_eq_of_lt hb2]
def SZ (P : Program) (t : TypeId) (z : Nat) : Prop := (P.info? t).map (·.size) = some z
def ZR (P : Program) (t : TypeId) (v : Value) : Prop := (P.info? t).bind (·.zero) = some v
variable {t : TypeId} {d : TypeDesc} {z : Nat}
theorem Xg {i : TypeInfo} (h : P.info? t = some i) : (typeInfo t).run P w = .ok i w := by simp [typeInfo, h]
theorem Q6 (h : SZ P t z) : (sizeOf t).run P w = .ok z w := by
  unfold SZ at h
  cases hi : P.info? t with
  | none => rw [hi] at h; cases h
  | some i => rw [hi] at h; injection h with h; subst h; simp [sizeOf, Xg hi]
theorem Vn {v : Value} (h : ZR P t v) : (zeroValue t).run P w = .ok v w := by
  unfold ZR at h
  cases hi : P.info? t with
  | none => rw [hi] at h; cases h
  | some i => rw [hi] at h; have h : i.zero = some v := h; simp [zeroValue, Xg hi, h]
def F7 (d : TypeDesc) : Bool := match d with | .struct _ | .array _ _ => true | _ => false
theorem Y7 (h : P.underlying t = some d) : (isAgg t).run P w = .ok (F7 d) w := by
  simp only [isAgg, Sem.run_bind, run_underlying h, Result.andThen_ok]; cases d <;> rfl
theorem Xl (b o j : Nat) : (⟨b, o, none⟩ : Addr).add j = ⟨b, o + j, none⟩ := by unfold Addr.add; split <;> simp_all
def LdOk (P : Program) (t : TypeId) (d : TypeDesc) : Option Nat → Prop
  | none => F7 d = false
  | some z => F7 d = true ∧ SZ P t z
section
variable {Ck : CkT} {w₀ : World} {K : Gd} {ι : Io} {h : H}
theorem Rh (s : SR Ck w₀ K ι h w) {n : Option Nat} {a u : AV} {v : Value} (hv : VR ι a v) (hl : loadE n h a = some u) (hu : P.underlying t = some d) (hn : LdOk P t d n) : LV P (Instr.loadAt t v) w (VR ι u) := by
  cases a <;> try (cases hl; done)
  rename_i x o
  rw [VR] at hv
  obtain ⟨p, hp, rfl⟩ := hv
  cases n with
  | none =>
    obtain ⟨p', r, h1, h2, h3⟩ := s.cell hl
    rw [hp] at h1; injection h1 with h1; subst h1
    have hn : F7 d = false := hn
    exact .ok (v := r) (by simp [Instr.loadAt, Instr.sureAddr, loadVar, Y7 hu, hn, h2]) h3
  | some z =>
    obtain ⟨l, hl1, hx⟩ := Qa hl
    injection hx with hx; subst hx
    obtain ⟨p', us, h1, h2, h3, h4⟩ := s.cells hl1
    rw [hp] at h1; injection h1 with h1; subst h1
    obtain ⟨hn, hz⟩ := hn
    have hr := run_loadCells_list (P := P) w ⟨p.cb, p.bs + o, none⟩ us (fun j v hj => by rw [Xl]; exact h4 j v hj)
    rw [h3] at hr
    exact .ok (v := .agg us.toArray) (by simp [Instr.loadAt, Instr.sureAddr, loadVar, Y7 hu, hn, Q6 hz, hr]) (by rw [VR]; exact ⟨_, rfl, h2⟩)
end
section
variable {ι : Io}
theorem fa_spec {a u : AV} {v : Value} {fs : Array Field} {f : Nat} {fd : Field} (hv : VR ι a v) (h : faE a fd.offset = some u) (hu : P.underlying t = some (.struct fs)) (hf : fs[f]? = some fd) (hz : SZ P fd.type z) (h0 : z ≠ 0) :
    LV P (Instr.fieldAt t v f) w (VR ι u) := by
  cases a <;> try (cases h; done)
  rename_i x o
  have h : bd (Uh (Nat.add o fd.offset)) (fun o => some (AV.p x o)) = some u := h
  obtain ⟨o', ho, h⟩ := Qa h
  injection ho with ho
  injection h with h; subst h
  rw [VR] at hv
  obtain ⟨p, hp, rfl⟩ := hv
  refine .ok (v := .pointer (some ⟨p.cb, p.bs + o + fd.offset, none⟩)) ?_ (by rw [VR]; exact ⟨p, hp, by rw [← ho]; simp [Nat.add_assoc]⟩)
  simp [Instr.fieldAt, run_underlying hu, hf, Instr.sureAddr, fieldPlace, Q6 hz, h0, Xl]
theorem ia_spec {a u : AV} {v : Value} {i : Int} {k : IntKind} {e : TypeId} (hv : VR ι a v) (h : iaE a i z = some u) (hu : P.underlying t = some (.slice e)) (hz : SZ P e z) : LV P (Instr.indexAt t v (.int k i)) w (VR ι u) := by
  cases a <;> try (cases h; done)
  rename_i x o n c ex z'
  obtain ⟨hzz, h1⟩ := Qx h
  have hzz : z = z' := Nat.eq_of_beq_eq_true hzz
  clear h
  subst hzz
  obtain ⟨i', hi, h2⟩ := Qa h1
  have hi := Vv hi
  clear h1
  subst hi
  obtain ⟨hlt, h⟩ := Qx h2
  have hlt : i' < n := Nat.le_of_ble_eq_true hlt
  obtain ⟨o', ho, h⟩ := Qa h
  injection ho with ho
  injection h with h; subst h
  rw [VR] at hv
  obtain ⟨p, off, c', hp, rfl, h1, h2, h3, h4, h5⟩ := hv
  have hoff : off = p.bs + o := h5.resolve_right (fun h => by omega)
  subst hoff
  refine .ok (v := .pointer (some ⟨p.cb, p.bs + o + i' * z, none⟩)) ?_ (by rw [VR]; exact ⟨p, hp, by rw [← ho]; simp [Nat.add_assoc]⟩)
  have e1 : (0 : Int) ≤ (i' : Int) ∧ (i' : Int) < (n : Int) := by omega
  simp only [Instr.indexAt, asIntOf, Sem.run_bind, Sem.run_pure, Result.andThen_ok, run_underlying hu]
  by_cases hn : n ≤ 1
  · simp [hn, run_underlying hu, e1.2, Q6 hz, Xl]
  · simp [hn, run_underlying hu, e1.2, Q6 hz, Xl]
theorem iap_spec {a u : AV} {v : Value} {i : Int} {k : IntKind} {e : TypeId} {n : Nat} (hv : VR ι a v) (h : iapE a i n z = some u) (hu : P.underlying t = some (.array n e)) (hz : SZ P e z) : LV P (Instr.indexAt t v (.int k i)) w (VR ι u) := by
  cases a <;> try (cases h; done)
  rename_i x o
  obtain ⟨i', hi, h1⟩ := Qa (x := Bd i) h
  have hi := Vv hi
  clear h
  subst hi
  obtain ⟨hlt, h⟩ := Qx h1
  have hlt : i' < n := Nat.le_of_ble_eq_true hlt
  obtain ⟨o', ho, h⟩ := Qa h
  injection ho with ho
  injection h with h; subst h
  rw [VR] at hv
  obtain ⟨p, hp, rfl⟩ := hv
  refine .ok (v := .pointer (some ⟨p.cb, p.bs + o + i' * z, none⟩)) ?_ (by rw [VR]; exact ⟨p, hp, by rw [← ho]; simp [Nat.add_assoc]⟩)
  have e1 : (0 : Int) ≤ (i' : Int) ∧ (i' : Int) < (n : Int) := by omega
  simp only [Instr.indexAt, asIntOf, Sem.run_bind, Sem.run_pure, Result.andThen_ok, run_underlying hu]
  by_cases hn : n ≤ 1
  · simp [hn, run_underlying hu, Instr.sureAddr, e1.2, Q6 hz, Xl]
  · simp [hn, run_underlying hu, Instr.sureAddr, e1.2, Q6 hz, Xl]
theorem VRs.drop : ∀ {l : List AV} {vs : List Value} (k : Nat), VRs ι l vs → VRs ι (l.drop k) (vs.drop k)
  | l, vs, 0, h => by simpa using h
  | [], vs, k + 1, h => by rw [VRs] at h; subst h; simp; rw [VRs]
  | a :: l, vs, k + 1, h => by
    rw [VRs] at h
    obtain ⟨v, s, rfl, _, h2⟩ := h
    simpa using VRs.drop k h2
theorem VRs.take : ∀ {l : List AV} {vs : List Value} (k : Nat), VRs ι l vs → VRs ι (l.take k) (vs.take k)
  | l, vs, 0, h => by simp; rw [VRs]
  | [], vs, k + 1, h => by rw [VRs] at h; subst h; simp; rw [VRs]
  | a :: l, vs, k + 1, h => by
    rw [VRs] at h
    obtain ⟨v, s, rfl, h1, h2⟩ := h
    simp; rw [VRs]
    exact ⟨v, _, rfl, h1, VRs.take k h2⟩
theorem VRs.append : ∀ {l m : List AV} {vs us : List Value}, VRs ι l vs → VRs ι m us → VRs ι (l ++ m) (vs ++ us)
  | [], m, vs, us, h, g => by rw [VRs] at h; subst h; simpa using g
  | a :: l, m, vs, us, h, g => by
    rw [VRs] at h
    obtain ⟨v, s, rfl, h1, h2⟩ := h
    simp; rw [VRs]
    exact ⟨v, _, rfl, h1, VRs.append h2 g⟩
theorem Cw {l : List AV} {cs : Array Value} {off n : Nat} {agg : Bool} {u : AV} (hv : VRs ι l cs.toList) (h : partE l off n agg = some u) (hu : P.underlying t = some d) (ha : F7 d = agg) (hz : SZ P t n) :
    LV P (part t cs off) w (VR ι u) := by
  cases agg with
  | false =>
    have h : nthE l off = some u := h
    rw [Rb] at h
    obtain ⟨r, h1, h2⟩ := hv.get h
    have h1 : cs[off]? = some r := by simpa using h1
    exact .ok (v := r) (by simp [part, Y7 hu, ha, h1]) h2
  | true =>
    obtain ⟨m, hm, h⟩ := Qa (x := slE l off n) h
    injection h with h; subst h
    obtain ⟨h1, h2⟩ := F4 hm
    subst h1
    refine .ok (v := .agg (cs.extract off (off + n))) (by simp [part, Y7 hu, ha, Q6 hz]) ?_
    rw [VR]
    refine ⟨_, rfl, ?_⟩
    have : (cs.extract off (off + n)).toList = (cs.toList.drop off).take n := by simp [Array.toList_extract, List.extract_eq_take_drop]
    rw [this]
    exact (hv.drop off).take n
end
end
end Go.Ev
namespace Go.Ev
section
variable {P : Program} {w : World} {ι : Io} {t e : TypeId} {d : TypeDesc} {z : Nat}
def BdR (d m : Nat) : Option Value → Prop
  | none => m = d
  | some v => ∃ k, v = .int k (m : Int)
theorem V1 {v : Value} {m y : Nat} {code : BoundsCode} (h : ∃ k, v = .int k (m : Int)) (hm : m ≤ y) : (Instr.sliceBound v y code).run P w = .ok m w := by
  obtain ⟨k, rfl⟩ := h
  have : (0 : Int) ≤ (m : Int) ∧ (m : Int) ≤ (y : Int) := by omega
  simp [Instr.sliceBound, asIntOf, this.2]
theorem X5 {s : Bool} {len cap a b m : Nat} {low high max : Option Value} (h1 : BdR 0 a low) (h2 : BdR len b high) (h3 : BdR cap m max) (hab : a ≤ b) (hbm : b ≤ m) (hmc : m ≤ cap) (hx : max.isSome = true → high.isSome = true) :
    (Instr.sliceBounds s len cap low high max).run P w = .ok (a, b, m) w := by
  cases max with
  | none =>
    have h3 : m = cap := h3
    subst h3
    cases high with
    | none =>
      have h2 : b = len := h2
      subst h2
      cases low with
      | none => have h1 : a = 0 := h1; subst h1; simp [Instr.sliceBounds]
      | some l => simp [Instr.sliceBounds, V1 h1 hab]
    | some hh =>
      cases low with
      | none => have h1 : a = 0 := h1; subst h1; simp [Instr.sliceBounds, V1 h2 hbm]
      | some l => simp [Instr.sliceBounds, V1 h2 hbm, V1 h1 hab]
  | some mm =>
    cases high with
    | none => cases hx rfl
    | some hh =>
      cases low with
      | none => have h1 : a = 0 := h1; subst h1; simp [Instr.sliceBounds, V1 h3 hmc, V1 h2 hbm]
      | some l => simp [Instr.sliceBounds, V1 h3 hmc, V1 h2 hbm, V1 h1 hab]
theorem slcS_spec {l : List Nat} {a b : Nat} {low high : Option Value} (ht : P.underlying t = some .string) (h1 : BdR 0 a low) (h2 : BdR l.length b high) (hab : a ≤ b) (hb : b ≤ l.length) :
    (Instr.sliceAt t (.string (Xa l)) low high none).run P w = .ok (.string (Xa ((l.drop a).take (b - a)))) w := by
  have h := X5 (P := P) (w := w) (s := false) (cap := l.length) (m := l.length) (max := none) h1 h2 rfl hab hb (Nat.le_refl _) (fun h => by cases h)
  simp [Instr.sliceAt, Instr.slice, run_underlying ht, Xt, h, Nk]
theorem Cx {x : Pa} {o n c c' a b m m' : Nat} {ex mx : Bool} {A : Addr} {u : AV} (hv : VR ι (.sl x o n c ex z) (.slice (some A) n c')) (h : slcVE x o n c ex z a b m mx = some u)
    (h1 : mx = false → m = c ∧ m' = c') (h2 : mx = true → m' = m) : a ≤ b ∧ b ≤ m' ∧ m' ≤ c' ∧ VR ι u (.slice (some (if m' = a then A else A.add (a * z))) (b - a) (m' - a)) := by
  obtain ⟨hc, h⟩ := Qx h
  obtain ⟨c1, hc⟩ := Q2 hc
  obtain ⟨c2, c3⟩ := Q2 hc
  rw [ble_eq] at c1 c2 c3
  have c1 := of_decide_eq_true c1
  have c2 := of_decide_eq_true c2
  have c3 := of_decide_eq_true c3
  obtain ⟨n', hn, h⟩ := Qa h
  obtain ⟨c'', hcc, h⟩ := Qa h
  injection hn with hn
  injection hcc with hcc
  have hn : b - a = n' := hn
  have hcc : m - a = c'' := hcc
  rw [VR] at hv
  obtain ⟨p, off, c₁, hp, hA, g1, g2, g3, g4, g5⟩ := hv
  injection hA with hA hc1 hc2
  injection hA with hA
  subst hA; subst hc2
  have hm1 : m ≤ m' := by cases mx with | false => have := h1 rfl; omega | true => have := h2 rfl; omega
  have hm2 : m' ≤ c' := by cases mx with | false => have := h1 rfl; omega | true => have := h2 rfl; omega
  refine ⟨c1, by omega, hm2, ?_⟩
  have hfit : off + m' * z ≤ p.sz := Nat.le_trans (Nat.add_le_add_left (Nat.mul_le_mul_right z hm2) off) g4
  have hmul : (m' - a) * z + a * z = m' * z := by rw [← Nat.add_mul]; congr 1; omega
  cases hz : Nat.beq m a with
  | true =>
    have hma : m = a := Nat.eq_of_beq_eq_true hz
    rw [hz, Ve] at h
    injection h with h; subst h
    rw [VR]
    refine ⟨p, (if m' = a then off else off + a * z), m' - a, hp, ?_, by omega, by omega, fun he => ?_, ?_, ?_⟩
    · have hb0 : b - a = n' := hn
      rw [← hb0]
      by_cases hq : m' = a
      · simp [hq]
      · simp [hq, Xl]
    · have hx := g3 he
      cases mx with
      | false => have := h1 rfl; omega
      | true => have := h2 rfl; omega
    · by_cases hq : m' = a
      · subst hq; simp; have := Nat.zero_le (m' * z); omega
      · simp only [hq, if_false]; omega
    · cases ex with
      | false => exact .inr ⟨by omega, by omega, rfl⟩
      | true =>
        left
        have hx := g3 rfl
        have : m' = a := by
          cases mx with
          | false => have := h1 rfl; omega
          | true => have := h2 rfl; omega
        rw [if_pos this]
        exact g5.resolve_right (fun h => by cases h.2.2)
  | false =>
    have hma : m ≠ a := fun e => by subst e; rw [show Nat.beq m m = true from Nat.beq_refl m] at hz; cases hz
    rw [hz, Q9] at h
    obtain ⟨o', ho, h⟩ := Qa h
    injection ho with ho
    injection h with h; subst h
    have hq : m' ≠ a := by omega
    rw [VR]
    refine ⟨p, off + a * z, m' - a, hp, ?_, by omega, by omega, fun he => ?_, by omega, ?_⟩
    · have hb0 : b - a = n' := hn
      rw [← hb0]
      simp [hq, Xl]
    · rcases F3 he with he | he
      · have hx := g3 he
        cases mx with
        | false => have := h1 rfl; omega
        | true => have := h2 rfl; omega
      · have := h2 he; omega
    · left
      have := g5.resolve_right (fun h => by omega)
      have ho : o + a * z = o' := ho
      omega
theorem slc_spec {x : Pa} {o n c a b m : Nat} {ex mx : Bool} {u : AV} {v : Value} {low high max : Option Value} (hv : VR ι (.sl x o n c ex z) v) (h : slcVE x o n c ex z a b m mx = some u)
    (ht : P.underlying t = some (.slice e)) (hz : SZ P e z) (h1 : BdR 0 a low) (h2 : BdR n b high) (h3 : BdR c m max) (hmx : mx = max.isSome) (hx : max.isSome = true → high.isSome = true) : LV P (Instr.sliceAt t v low high max) w (VR ι u) := by
  have hv0 := hv
  rw [VR] at hv
  obtain ⟨p, off, c', hp, rfl, g1, g2, g3, g4, g5⟩ := hv
  have key : ∃ m', BdR c' m' max ∧ (mx = false → m = c ∧ m' = c') ∧ (mx = true → m' = m) := by
    cases max with
    | none => subst hmx; exact ⟨c', rfl, ⟨fun _ => ⟨h3, rfl⟩, fun h => by cases h⟩⟩
    | some v => subst hmx; exact ⟨m, h3, ⟨fun h => (by cases h), fun _ => rfl⟩⟩
  obtain ⟨m', k1, k2, k3⟩ := key
  obtain ⟨q1, q2, q3, q4⟩ := Cx hv0 h k2 k3
  refine .ok ?_ q4
  have hb := X5 (P := P) (w := w) (s := true) h1 h2 k1 q1 q2 q3 hx
  simp only [Instr.sliceAt, Instr.slice, Sem.run_bind, run_underlying ht, Result.andThen_ok, hb, Q6 hz, Sem.run_pure]
  by_cases hq : m' = a <;> simp [hq]
theorem slcn_spec {low high max : Option Value} (ht : P.underlying t = some (.slice e)) (hz : SZ P e z) (h1 : BdR 0 0 low) (h2 : BdR 0 0 high) (h3 : BdR 0 0 max) (hx : max.isSome = true → high.isSome = true) :
    LV P (Instr.sliceAt t (.slice none 0 0) low high max) w (VR ι .sln) := by
  refine .ok (v := .slice none 0 0) ?_ (by rw [VR])
  have hb := X5 (P := P) (w := w) (s := true) h1 h2 h3 (Nat.le_refl _) (Nat.le_refl _) (Nat.le_refl _) hx
  simp [Instr.sliceAt, Instr.slice, run_underlying ht, hb, Q6 hz]
def ArrOk (P : Program) (t : TypeId) (n : Nat) (e : TypeId) : Prop := P.underlying t = some (.array n e) ∨ ∃ a, P.underlying t = some (.pointer a) ∧ P.underlying a = some (.array n e)
section
variable {Ck : CkT} {w₀ : World} {K : Gd} {h : H}
theorem sla_spec (s : SR Ck w₀ K ι h w) {x : Pa} {o n a b m k : Nat} {tr : Tr AV} {zs : List AV} {u : AV} {v : Value} {low high max : Option Value} (hv : VR ι (.p x o) v) (ho : R8 x h = some (.cells tr zs k)) (hk : o + n * z ≤ k) (hm : n ≤ maxLen)
    (hl : slcVE x o n n true z a b m true = some u) (ht : ArrOk P t n e) (hz : SZ P e z) (h1 : BdR 0 a low) (h2 : BdR n b high) (h3 : BdR n m max) (hx : max.isSome = true → high.isSome = true) : LV P (Instr.sliceAt t v low high max) w (VR ι u) := by
  rw [VR] at hv
  obtain ⟨p, hp, rfl⟩ := hv
  obtain ⟨p', ob, q1, q2, q3⟩ := s.obj ho
  rw [hp] at q1; injection q1 with q1; subst q1
  obtain ⟨arr, el, lo, hi, _, b1, b2, _⟩ := q3
  have hv : VR ι (.sl x o n n true z) (.slice (some ⟨p.cb, p.bs + o, none⟩) n n) := by
    rw [VR]
    exact ⟨p, p.bs + o, n, hp, rfl, ⟨Nat.le_refl _, hm⟩, Nat.le_refl _, fun _ => rfl, by omega, .inl rfl⟩
  obtain ⟨q1, q2, q3, q4⟩ := Cx (m' := m) hv hl (fun h => by cases h) (fun _ => rfl)
  refine .ok ?_ q4
  have hb := X5 (P := P) (w := w) (s := false) h1 h2 h3 q1 q2 q3 hx
  rcases ht with ht | ⟨a', ht, ht2⟩
  · simp only [Instr.sliceAt, Instr.sureAddr, Sem.run_bind, run_underlying ht, Result.andThen_ok, hb, Q6 hz, Sem.run_pure]
  · simp only [Instr.sliceAt, Instr.slice, asAddr, Sem.run_bind, run_underlying ht, run_underlying ht2, Result.andThen_ok, hb, Q6 hz, Sem.run_pure]
theorem mapE_u8 {us : List Value} : ∀ {l : List AV} {m : List Nat}, Gq ofU8 l = some m → VRs ι l us → By m ∧ us = (m.map (fun k : Nat => (k : Int))).map (Value.int .u8) := by
  intro l
  induction l generalizing us with
  | nil =>
    intro m h hv
    injection h with h; subst h
    rw [VRs] at hv
    exact ⟨fun b hb => by simp at hb, by simpa using hv⟩
  | cons a l ih =>
    intro m h hv
    obtain ⟨b, hb, h⟩ := Qa (x := ofU8 a) h
    obtain ⟨r, hr, h⟩ := Qa (x := Gq ofU8 l) h
    injection h with h; subst h
    rw [VRs] at hv
    obtain ⟨v, s, rfl, h1, h2⟩ := hv
    obtain ⟨e1, e2⟩ := ih hr h2
    cases a <;> try (cases hb; done)
    rename_i k n
    cases k <;> try (cases hb; done)
    obtain ⟨b', hb', hb⟩ := Qa (x := Bd n) hb
    obtain ⟨hc, hb⟩ := Qx hb
    injection hb with hb; subst hb
    have hn := Vv hb'
    subst hn
    have hc : b' < 256 := Nat.le_of_ble_eq_true hc
    rw [VR] at h1
    subst h1
    exact ⟨fun q hq => (List.mem_cons.1 hq).elim (fun h => h ▸ hc) (e1 q), by rw [e2]; rfl⟩
theorem H0 (m : List Nat) : ∀ (r : List Nat), (m.map (fun k : Nat => (k : Int))).foldl (fun (r : ByteArray) n => r.push (UInt8.ofNat n.toNat)) (Xa r) = Xa (r ++ m) := by
  induction m with
  | nil => intro r; simp
  | cons b m ih =>
    intro r
    have e : (Xa r).push (UInt8.ofNat (b : Int).toNat) = Xa (r ++ [b]) := by
      apply ByteArray.ext
      simp [Xa, ByteArray.push]
    simp only [List.map_cons, List.foldl_cons, e, ih]
    simp
theorem bts_spec (s : SR Ck w₀ K ι h w) {src dst : TypeId} {a u : AV} {v : Value} (hv : VR ι a v) (hl : btsE h a = some u) (hs : P.underlying src = some (.slice e)) (he : P.underlying e = some (.int .u8)) (hd : P.underlying dst = some .string) :
    LV P (convert src dst v) w (VR ι u) := by
  cases a <;> try (cases hl; done)
  · rename_i x o n c ex z'
    obtain ⟨hz, hl⟩ := Qx hl
    obtain ⟨l, h1, hl⟩ := Qa hl
    obtain ⟨m, h2, hl⟩ := Qa hl
    injection hl with hl; subst hl
    rw [VR] at hv
    obtain ⟨p, off, c', hp, rfl, g1, g2, g3, g4, g5⟩ := hv
    obtain ⟨p', us, q1, q2, q3, q4⟩ := s.cells h1
    rw [hp] at q1; injection q1 with q1; subst q1
    obtain ⟨hb, hus⟩ := mapE_u8 h2 q2
    have hr : (loadCells ⟨p.cb, off, none⟩ n).run P w = .ok ((m.map (fun k : Nat => (k : Int))).map (Value.int .u8)).toArray w := by
      rw [← hus, ← q3]
      refine run_loadCells_list w _ us (fun j v hj => ?_)
      rw [Xl]
      have : j < us.length := by
        rcases Nat.lt_or_ge j us.length with h | h
        · exact h
        · rw [List.getElem?_eq_none h] at hj; cases hj
      have hoff : off = p.bs + o := g5.resolve_right (fun h => by omega)
      rw [hoff]; exact q4 j v hj
    refine .ok ((run_convert_bytes_string w src dst e _ _ _ hs he hd).trans (run_bytesToString w _ n c' _ hr)) ?_
    rw [VR]
    refine ⟨?_, hb⟩
    congr 1
    exact H0 m []
  · injection hl with hl; subst hl
    rw [VR] at hv
    subst hv
    refine .ok (run_convert_bytes_string w src dst e _ _ _ hs he hd) ?_
    rw [VR]
    exact ⟨rfl, fun b hb => by simp at hb⟩
end
end
end Go.Ev
namespace Go.Ev
theorem Uk {w : World} {b o : Nat} {arr : Array Value} {el : TypeId} (h : w.heap[b]? = some (.cells arr el (0, 0))) : w.frozen? ⟨b, o, none⟩ = false := by simp [World.frozen?, h]
theorem Ri {w : World} {b : Nat} {arr : Array Value} {el : TypeId} {f : Nat × Nat} (h : w.heap[b]? = some (.cells arr el f)) : w.shape? b = some (el, arr.size) := by simp [World.shape?, h]
theorem Rj : ∀ x : Pa, Pa.eq x x = true
  | .h => rfl
  | .o p => Rj p
  | .i p => Rj p
section
variable {P : Program} {w : World} {ι : Io} {t e : TypeId} {d : TypeDesc} {z : Nat}
theorem Cy {a b : Addr} {x y : Array Value} {ex ey : TypeId} (ha : w.heap[a.block]? = some (.cells x ex (0, 0))) (hb : w.heap[b.block]? = some (.cells y ey (0, 0))) (hsa : a.spot = none) (hsb : b.spot = none) (hne : a.block ≠ b.block) :
    (sameAddr a b).run P w = .ok false w := by
  obtain ⟨ab, ao, ar⟩ := a
  obtain ⟨bb, bo, bs⟩ := b
  simp only at hsa hsb ha hb hne
  subst hsa; subst hsb
  have hn : (ab == bb) = false := by simpa using hne
  simp [sameAddr, hn, noView, viewAt, Ri ha, Ri hb, mayBeOne, stringish, Uk ha, Uk hb]
theorem Nl {b o q : Nat} : (sameAddr ⟨b, o, none⟩ ⟨b, q, none⟩).run P w = .ok (o == q) w := by
  have : ((⟨b, o, none⟩ : Addr) == ⟨b, q, none⟩) = (o == q) := by rw [Bool.eq_iff_iff]; simp
  simp [sameAddr, this]
section
variable {Ck : CkT} {w₀ : World} {K : Gd} {h : H}
theorem Uz (s : SR Ck w₀ K ι h w) {x : Pa} (hx : Jn x h = true) :
    ∃ p arr el, ι x = some p ∧ w.heap[p.cb]? = some (.cells arr el (0, 0)) ∧ (((Q5 x h.rw).isSome = true ∧ K p.cb = none) ∨ ((Q5 x h.ro).isSome = true ∧ (K p.cb).isSome = true)) := by
  unfold Jn at hx
  cases hr : Q5 x h.rw with
  | some a =>
    rw [hr] at hx
    obtain ⟨p, o, h1, h2, h3, h4⟩ := s.rw x a hr
    cases a with
    | cells t zs n =>
      have hx : Y2 (Zt zs) = true := hx
      obtain ⟨arr, el, lo, hi, rfl, _, _, _, _, h5, h6⟩ := h4
      obtain ⟨rfl, rfl⟩ := h5 (by rw [h6.1]; cases hm : Zt zs <;> simp_all [Y2])
      exact ⟨p, arr, el, h1, h2, .inl ⟨by simp, h3⟩⟩
    | _ => cases hx
  | none =>
    rw [hr] at hx
    cases hr2 : Q5 x h.ro with
    | none => rw [hr2] at hx; cases hx
    | some a =>
      rw [hr2] at hx
      obtain ⟨p, o, h1, h2, h4⟩ := s.ro x a hr2
      cases a with
      | cells t zs n =>
        have hx : Y2 (Zt zs) = true := hx
        obtain ⟨arr, el, lo, hi, rfl, _, _, _, _, h5, h6⟩ := h4
        obtain ⟨rfl, rfl⟩ := h5 (by rw [h6.1]; cases hm : Zt zs <;> simp_all [Y2])
        exact ⟨p, arr, el, h1, s.gd _ _ h2, .inr ⟨by simp, by rw [h2]; rfl⟩⟩
      | _ => cases hx
def EqOk (P : Program) (t : TypeId) : Tg0 → Prop
  | .b => P.underlying t = some .bool
  | .p => ∃ e z, P.underlying t = some (.pointer e) ∧ SZ P e z ∧ z ≠ 0
  | .s => ∃ e, P.underlying t = some (.slice e)
  | .m => ∃ k e, P.underlying t = some (.map k e)
  | .f => ∃ a b c, P.underlying t = some (.func a b c)
  | .i => ∃ a, P.underlying t = some (.interface a)
  | _ => True
theorem eqG_spec (s : SR Ck w₀ K ι h w) {g : Tg0} {a b : AV} {va vb : Value} {r : Bool} (ha : VR ι a va) (hb : VR ι b vb) (he : eqG g h a b = some r) (ht : EqOk P t g) :
    (Op.equal t va vb).run P w = .ok r w ∧ (∀ op x y, (eqGuard op t x y va vb).run P w = .ok () w) ∧ binOp .eql t va vb = (do pure (.bool (← Op.equal t va vb))) ∧ binOp .neq t va vb = (do pure (.bool (!(← Op.equal t va vb)))) := by
  have e0 : ∀ t x y, Op.equal t x y = Op.equalIn (9999 + 1) t x y := fun _ _ _ => rfl
  have key : ∀ {va vb : Value}, (∀ op x y, (eqGuard op t x y va vb).run P w = .ok () w) → binOp .eql t va vb = (do pure (.bool (← Op.equal t va vb))) → binOp .neq t va vb = (do pure (.bool (!(← Op.equal t va vb)))) → (Op.equal t va vb).run P w = .ok r w →
      (Op.equal t va vb).run P w = .ok r w ∧ (∀ op x y, (eqGuard op t x y va vb).run P w = .ok () w) ∧ binOp .eql t va vb = (do pure (.bool (← Op.equal t va vb))) ∧ binOp .neq t va vb = (do pure (.bool (!(← Op.equal t va vb)))) := fun h1 h2 h3 h4 => ⟨h4, h1, h2, h3⟩
  have hg : ∀ {va vb : Value}, (∀ op x y, eqGuard op t x y va vb = (if !(op matches .eql | .neq) then pure () else pure ())) → ∀ op x y, (eqGuard op t x y va vb).run P w = .ok () w := fun h op x y => by rw [h]; split <;> rfl
  cases g <;> cases a <;> try (cases he; done)
  all_goals (cases b <;> try (cases he; done))
  all_goals (rw [VR] at ha)
  all_goals (rw [VR] at hb)
  ·
    subst ha; subst hb
    injection he with he; subst he
    refine key (hg fun op x y => by cases op <;> rfl) rfl rfl ?_
    have ht : P.underlying t = some .bool := ht
    rw [Re]
    exact run_equal_bool w t _ _ ht
  ·
    obtain ⟨e, z, ht, hz, h0⟩ := ht
    rename_i x o y q
    obtain ⟨p, hp, rfl⟩ := ha
    obtain ⟨p', hp', rfl⟩ := hb
    refine key (hg fun op x y => by cases op <;> rfl) rfl rfl ?_
    rw [e0]; generalize (9999 : Nat) = dd
    simp only [Op.equalIn, Sem.run_bind, run_underlying ht, Result.andThen_ok, Q6 hz, ne_eq, h0, not_false_eq_true, if_true]
    have he : Vd (Pa.eq x y) (some (Nat.beq o q)) (Vd (Z3 (Jn x h) (Jn y h)) (some false) none) = some r := he
    cases hxy : Pa.eq x y with
    | true =>
      have := Xs hxy
      subst this
      rw [hxy, Ve] at he
      injection he with he; subst he
      rw [hp] at hp'; injection hp' with hp'; subst hp'
      rw [Nl, Ni]
      congr 1
      rw [Bool.eq_iff_iff]; simp
    | false =>
      rw [hxy, Q9] at he
      obtain ⟨hc, he⟩ := Qx he
      injection he with he; subst he
      obtain ⟨c1, c2⟩ := Q2 hc
      obtain ⟨p1, x1, e1, q1, q2, q3⟩ := Uz s c1
      obtain ⟨p2, x2, e2, r1, r2, r3⟩ := Uz s c2
      rw [hp] at q1; injection q1 with q1; subst q1
      rw [hp'] at r1; injection r1 with r1; subst r1
      have hne : x ≠ y := fun e => by subst e; rw [Rj x] at hxy; cases hxy
      refine Cy q2 r2 rfl rfl (fun hcb => ?_)
      rcases q3 with ⟨a1, a2⟩ | ⟨a1, a2⟩ <;> rcases r3 with ⟨b1, b2⟩ | ⟨b1, b2⟩
      · exact hne (s.inj x y _ _ a1 b1 hp hp' hcb)
      · have hcb : p.cb = p'.cb := hcb
        rw [hcb] at a2; rw [a2] at b2; cases b2
      · have hcb : p.cb = p'.cb := hcb
        rw [hcb] at a2; rw [b2] at a2; cases a2
      · exact hne (s.injo x y _ _ a1 b1 hp hp' hcb)
  · obtain ⟨e, z, ht, hz, h0⟩ := ht
    obtain ⟨p, hp, rfl⟩ := ha
    subst hb
    injection he with he; subst he
    refine key (hg fun op x y => by cases op <;> rfl) rfl rfl ?_
    rw [e0]; generalize (9999 : Nat) = dd; simp only [Op.equalIn, Sem.run_bind, run_underlying ht, Result.andThen_ok]; rfl
  · obtain ⟨e, z, ht, hz, h0⟩ := ht
    obtain ⟨p, hp, rfl⟩ := hb
    subst ha
    injection he with he; subst he
    refine key (hg fun op x y => by cases op <;> rfl) rfl rfl ?_
    rw [e0]; generalize (9999 : Nat) = dd; simp only [Op.equalIn, Sem.run_bind, run_underlying ht, Result.andThen_ok]; rfl
  · obtain ⟨e, z, ht, hz, h0⟩ := ht
    subst ha; subst hb
    injection he with he; subst he
    refine key (hg fun op x y => by cases op <;> rfl) rfl rfl ?_
    rw [e0]; generalize (9999 : Nat) = dd; simp only [Op.equalIn, Sem.run_bind, run_underlying ht, Result.andThen_ok]; rfl
  · obtain ⟨e, ht⟩ := ht
    obtain ⟨p, off, c', hp, rfl, _⟩ := ha
    subst hb
    injection he with he; subst he
    refine key (hg fun op x y => by cases op <;> rfl) rfl rfl ?_
    rw [e0]; generalize (9999 : Nat) = dd; simp only [Op.equalIn, Sem.run_bind, run_underlying ht, Result.andThen_ok]; rfl
  · obtain ⟨e, ht⟩ := ht
    obtain ⟨p, off, c', hp, rfl, _⟩ := hb
    subst ha
    injection he with he; subst he
    refine key (hg fun op x y => by cases op <;> rfl) rfl rfl ?_
    rw [e0]; generalize (9999 : Nat) = dd; simp only [Op.equalIn, Sem.run_bind, run_underlying ht, Result.andThen_ok]; rfl
  · obtain ⟨e, ht⟩ := ht
    subst ha; subst hb
    injection he with he; subst he
    refine key (hg fun op x y => by cases op <;> rfl) rfl rfl ?_
    rw [e0]; generalize (9999 : Nat) = dd; simp only [Op.equalIn, Sem.run_bind, run_underlying ht, Result.andThen_ok]; rfl
  · obtain ⟨k, e, ht⟩ := ht
    obtain ⟨p, hp, rfl⟩ := ha
    subst hb
    injection he with he; subst he
    refine key (hg fun op x y => by cases op <;> rfl) rfl rfl ?_
    rw [e0]; generalize (9999 : Nat) = dd; simp only [Op.equalIn, Sem.run_bind, run_underlying ht, Result.andThen_ok]; rfl
  · obtain ⟨k, e, ht⟩ := ht
    obtain ⟨p, hp, rfl⟩ := hb
    subst ha
    injection he with he; subst he
    refine key (hg fun op x y => by cases op <;> rfl) rfl rfl ?_
    rw [e0]; generalize (9999 : Nat) = dd; simp only [Op.equalIn, Sem.run_bind, run_underlying ht, Result.andThen_ok]; rfl
  · obtain ⟨k, e, ht⟩ := ht
    subst ha; subst hb
    injection he with he; subst he
    refine key (hg fun op x y => by cases op <;> rfl) rfl rfl ?_
    rw [e0]; generalize (9999 : Nat) = dd; simp only [Op.equalIn, Sem.run_bind, run_underlying ht, Result.andThen_ok]; rfl
  · obtain ⟨k1, k2, k3, ht⟩ := ht
    obtain ⟨a', c', rfl, _⟩ := ha
    subst hb
    injection he with he; subst he
    refine key (hg fun op x y => by cases op <;> rfl) rfl rfl ?_
    rw [e0]; generalize (9999 : Nat) = dd; simp only [Op.equalIn, Sem.run_bind, run_underlying ht, Result.andThen_ok]; rfl
  · obtain ⟨k1, k2, k3, ht⟩ := ht
    obtain ⟨a', c', rfl, _⟩ := hb
    subst ha
    injection he with he; subst he
    refine key (hg fun op x y => by cases op <;> rfl) rfl rfl ?_
    rw [e0]; generalize (9999 : Nat) = dd; simp only [Op.equalIn, Sem.run_bind, run_underlying ht, Result.andThen_ok]; rfl
  · obtain ⟨k1, k2, k3, ht⟩ := ht
    subst ha; subst hb
    injection he with he; subst he
    refine key (hg fun op x y => by cases op <;> rfl) rfl rfl ?_
    rw [e0]; generalize (9999 : Nat) = dd; simp only [Op.equalIn, Sem.run_bind, run_underlying ht, Result.andThen_ok]; rfl
  · obtain ⟨k1, ht⟩ := ht
    obtain ⟨u, rfl, _⟩ := ha
    subst hb
    injection he with he; subst he
    refine key (hg fun op x y => by cases op <;> rfl) rfl rfl ?_
    rw [e0]; generalize (9999 : Nat) = dd; simp only [Op.equalIn, Sem.run_bind, run_underlying ht, Result.andThen_ok]; rfl
  · obtain ⟨k1, ht⟩ := ht
    obtain ⟨u, rfl, _⟩ := hb
    subst ha
    injection he with he; subst he
    refine key (hg fun op x y => by cases op <;> rfl) rfl rfl ?_
    rw [e0]; generalize (9999 : Nat) = dd; simp only [Op.equalIn, Sem.run_bind, run_underlying ht, Result.andThen_ok]; rfl
end
end
end Go.Ev
namespace Go.Ev
def scalB (d : TypeDesc) : Bool := match d with | .int _ | .string | .bool => true | _ => false
def Bk (P : Program) (kt : TypeId) : Tg0 → Prop
  | .n => ∃ k, P.underlying kt = some (.int k)
  | .x => P.underlying kt = some .string
  | .b => P.underlying kt = some .bool
  | .g n => ∃ e d, P.underlying kt = some (.array n e) ∧ SZ P e 1 ∧ P.underlying e = some d ∧ scalB d = true
  | _ => False
section
variable {P : Program} {w : World} {ι : Io} {t kt e : TypeId} {d : TypeDesc} {z : Nat} {g : Tg0} {a : AV} {v : Value}
theorem N4 {b : Bool} {n : Nat} {v : Value} (hu : P.underlying t = some d) (hd : scalB d = true) : (Instr.checkKey b (n + 1) t v).run P w = .ok () w := by
  cases d <;> first | (cases hd; done) | (simp [Instr.checkKey, run_underlying hu])
theorem Gs {b : Bool} {m n : Nat} {e : TypeId} {cs : Array Value} (ht : P.underlying t = some (.array n e)) (hz : SZ P e 1) (hu : P.underlying e = some d) (hd : scalB d = true) (hn : cs.size = n) :
    (Instr.checkKey b (m + 2) t (.agg cs)).run P w = .ok () w := by
  have hagg : F7 d = false := by cases d <;> first | rfl | cases hd
  have step : ∀ i, i < n → (part e cs i).run P w = .ok (cs.getD i undef) w := fun i hi => by
    have hi : i < cs.size := by omega
    simp [part, Y7 hu, hagg, hi]
  have key : ∀ (l : List Nat), (∀ i ∈ l, i < n) → (forIn l PUnit.unit (fun i (_ : PUnit) => (do Instr.checkKey b (m + 1) e (← part e cs (i * (← sizeOf e))); pure (ForInStep.yield PUnit.unit) : Sem (ForInStep PUnit)))).run P w = .ok PUnit.unit w := by
    intro l
    induction l with
    | nil => intro _; rfl
    | cons i l ih =>
      intro h
      simp only [List.forIn_cons, Sem.run_bind, Q6 hz, Result.andThen_ok, Nat.mul_one, step i (h i (by simp)), N4 hu hd, Sem.run_pure]
      exact ih (fun j hj => h j (by simp [hj]))
  have h0 := key (List.range' 0 n) (fun i hi => by simp at hi; omega)
  rw [Instr.checkKey]
  simp only [Sem.run_bind, run_underlying ht, Result.andThen_ok, Std.Legacy.Range.forIn_eq_forIn_range', Std.Legacy.Range.size, Nat.sub_zero, Nat.add_sub_cancel, Nat.div_one]
  rw [h0]
  rfl
theorem V2 {b : Bool} (hk : Ud g a = true) (hv : VR ι a v) (ht : Bk P kt g) : (Instr.checkKey b 10000 kt v).run P w = .ok () w := by
  have e0 : Instr.checkKey b 10000 kt v = Instr.checkKey b (9999 + 1) kt v := rfl
  rw [e0, show (9999 : Nat) + 1 = 9998 + 2 from rfl]
  generalize (9998 : Nat) = dd
  cases g <;> cases a <;> try (cases hk; done)
  all_goals (rw [VR] at hv)
  · have ht : P.underlying kt = some .string := ht
    obtain ⟨rfl, _⟩ := hv; simp [Instr.checkKey, run_underlying ht]
  · have ht : P.underlying kt = some .bool := ht
    subst hv; simp [Instr.checkKey, run_underlying ht]
  · obtain ⟨k, ht⟩ := ht
    subst hv; simp [Instr.checkKey, run_underlying ht]
  · obtain ⟨e, d, ht, hz, hu, hd⟩ := ht
    obtain ⟨cs, rfl, hvs⟩ := hv
    have hlen := hvs.len
    have hk := Nat.eq_of_beq_eq_true hk
    rw [X4] at hk
    exact Gs ht hz hu hd (by simp at hlen; omega)
theorem Ul {k : TypeDesc} {b : AV} {u : Value} {q : Bool} (hk : Ud g a = true) (hv : VR ι a v) (ht : Bk P kt g) (hu : P.underlying kt = some k) (hb : VR ι b u) (h : U3 a b = some q) : Instr.sameNow k v u = some q := by
  cases g <;> cases a <;> try (cases hk; done)
  all_goals (cases b <;> try (cases h; done))
  all_goals (rw [VR] at hv hb)
  · have ht : P.underlying kt = some .string := ht
    rw [hu] at ht; injection ht with ht; subst ht
    obtain ⟨rfl, h1⟩ := hv
    obtain ⟨rfl, h2⟩ := hb
    injection h with h; subst h
    show some (Xa _ == Xa _) = _
    rw [beq_toListBytes, Yq, Yq, Bj h1 h2]
  · have ht : P.underlying kt = some .bool := ht
    rw [hu] at ht; injection ht with ht; subst ht
    subst hv; subst hb
    injection h with h; subst h
    rw [Re]; rfl
  · obtain ⟨k', ht⟩ := ht
    rw [hu] at ht; injection ht with ht; subst ht
    subst hv; subst hb
    obtain ⟨h1, h⟩ := Qx h
    injection h with h; subst h
    have := Jx h1
    subst this
    rw [Rf]
    simp [Instr.sameNow]
theorem Rk {k : TypeDesc} (hk : Ud g a = true) (hv : VR ι a v) (ht : Bk P kt g) (hu : P.underlying kt = some k) : ∀ {es : Es} {l : List MapEntry} {r : Option (AV × AV × Nat)} (i : Nat), Xy ι es l → findE a es = some r →
    match r with
    | none => Instr.findNow k v l i = some none
    | some x => ∃ j m, Instr.findNow k v l i = some (some (i + j, m.val)) ∧ l[j]? = some m ∧ es[j]? = some x ∧ VR ι x.1 m.key ∧ VR ι x.2.1 m.val ∧ m.born = x.2.2 ∧ U3 a x.1 = some true
  | [], l, r, i, he, h => by
    have he : l = [] := he
    subst he
    have h : some none = some r := h
    injection h with h; subst h; rfl
  | x :: es, l, r, i, he, h => by
    obtain ⟨m, s, rfl, h1, h2, h3, h4⟩ := he
    obtain ⟨q, hq, h⟩ := Qa (x := U3 a x.1) h
    have hs := Ul hk hv ht hu h1 hq
    cases q with
    | true =>
      have h : some (some x) = some r := h
      injection h with h; subst h
      exact ⟨0, m, by simp [Instr.findNow, hs], rfl, rfl, h1, h2, h3, hq⟩
    | false =>
      have h : findE a es = some r := h
      have ih := Rk hk hv ht hu (i + 1) h4 h
      cases r with
      | none => simp only [Instr.findNow, hs]; exact ih
      | some y =>
        obtain ⟨j, m', g1, g2, g3, g4⟩ := ih
        exact ⟨j + 1, m', by simp only [Instr.findNow, hs, g1, Nat.add_assoc, Nat.add_comm 1 j], by simpa using g2, by simpa using g3, g4⟩
theorem Nm (ht : Bk P kt g) : ∃ k, P.underlying kt = some k := by
  cases g <;> first | exact ht.elim | exact ⟨_, ht⟩ | (obtain ⟨k, h⟩ := ht; exact ⟨_, h⟩) | (obtain ⟨e, d, h, _⟩ := ht; exact ⟨_, h⟩)
theorem Fa {es : Es} {l : List MapEntry} {r : Option (AV × AV × Nat)} (hk : Ud g a = true) (hv : VR ι a v) (ht : Bk P kt g) (he : Xy ι es l) (h : findE a es = some r) :
    match r with
    | none => (Instr.findKey kt v l).run P w = .ok none w
    | some x => ∃ j m, (Instr.findKey kt v l).run P w = .ok (some (j, m.val)) w ∧ l[j]? = some m ∧ es[j]? = some x ∧ VR ι x.1 m.key ∧ VR ι x.2.1 m.val ∧ m.born = x.2.2 ∧ U3 a x.1 = some true := by
  obtain ⟨k, hu⟩ := Nm ht
  have := Rk hk hv ht hu 0 he h
  cases r with
  | none => simp [Instr.findKey, run_underlying hu, this]
  | some x =>
    obtain ⟨j, m, g1, g2⟩ := this
    exact ⟨j, m, by simp [Instr.findKey, run_underlying hu, g1], g2⟩
theorem Vo {r : Nat} {o : Obj} (h : w.heap[r]? = some o) (hc : ∀ a b c, o ≠ .cells a b c) : (getObj r).run P w = .ok o w := by
  cases o <;> first | (exact absurd rfl (hc _ _ _)) | (simp only [getObj, Sem.run, h]; done) | (simp only [getObj, Sem.run, h]; rfl)
section
variable {Ck : CkT} {w₀ : World} {K : Gd} {h : H}
theorem Cz (s : SR Ck w₀ K ι h w) {m : AV} {vm : Value} {es : Es} (hm : VR ι m vm) (he : entsE h m = some es) :
    (vm = .map none ∧ es = []) ∨ ∃ b l clock, vm = .map (some b) ∧ w.heap[b]? = some (.map l clock) ∧ Xy ι es l.toList := by
  cases m <;> try (cases he; done)
  · rename_i x
    obtain ⟨ob, h1, he⟩ := Qa (x := R8 x h) he
    rw [VR] at hm
    obtain ⟨p, hp, rfl⟩ := hm
    obtain ⟨p', o, q1, q2, q3⟩ := s.obj h1
    rw [hp] at q1; injection q1 with q1; subst q1
    cases ob <;> try (cases he; done)
    injection he with he; subst he
    obtain ⟨l, rfl, h4⟩ := q3
    exact .inr ⟨p.cb, l, _, rfl, q2, h4⟩
  · injection he with he; subst he
    rw [VR] at hm
    exact .inl ⟨hm, rfl⟩
theorem lkp_spec (s : SR Ck w₀ K ι h w) {m zero u : AV} {vm vz : Value} {ok : Bool} (hm : VR ι m vm) (hv : VR ι a v) (hz : VR ι zero vz) (hl : lkpE g h m a zero ok = some u)
    (ht : P.underlying t = some (.map kt e)) (hk : Bk P kt g) (hzr : ZR P e vz) : LV P (Instr.lookup t vm v ok) w (VR ι u) := by
  obtain ⟨hok, hl⟩ := Qx hl
  obtain ⟨es, he, hl⟩ := Qa hl
  obtain ⟨r, hr, hl⟩ := Qa hl
  have hcase : ∃ l, Xy ι es l ∧ (∀ j x, (Instr.findKey kt v l).run P w = .ok (some (j, x)) w → (Instr.lookup t vm v ok).run P w = .ok (if ok then .tuple #[x, .bool true] else x) w) ∧
      ((Instr.findKey kt v l).run P w = .ok none w → (Instr.lookup t vm v ok).run P w = .ok (if ok then .tuple #[vz, .bool false] else vz) w) := by
    rcases Cz s hm he with ⟨rfl, rfl⟩ | ⟨b, l, clock, rfl, hb, hl⟩
    · refine ⟨[], rfl, fun j x hr => ?_, fun hr => ?_⟩
      · simp only [Instr.lookup, Sem.run_bind, run_underlying ht, Result.andThen_ok, Sem.run_pure, V2 hok hv hk, hr]
      · simp only [Instr.lookup, Sem.run_bind, run_underlying ht, Result.andThen_ok, Sem.run_pure, V2 hok hv hk, hr, Vn hzr]
    · refine ⟨l.toList, hl, fun j x hr => ?_, fun hr => ?_⟩
      · simp only [Instr.lookup, Sem.run_bind, run_underlying ht, Result.andThen_ok, Sem.run_pure, V2 hok hv hk, Vo hb (by intros; simp), hr]
      · simp only [Instr.lookup, Sem.run_bind, run_underlying ht, Result.andThen_ok, Sem.run_pure, V2 hok hv hk, Vo hb (by intros; simp), hr, Vn hzr]
  obtain ⟨l, hl2, hrun1, hrun0⟩ := hcase
  have hf := Fa (P := P) (w := w) hok hv hk hl2 hr
  cases r with
  | none =>
    have hf : (Instr.findKey kt v l).run P w = .ok none w := hf
    have hrun := hrun0 hf
    cases ok with
    | false =>
      have hl : some zero = some u := hl
      injection hl with hl; subst hl
      exact .ok hrun hz
    | true =>
      have hl : some (AV.tu [zero, .b false]) = some u := hl
      injection hl with hl; subst hl
      refine .ok hrun ?_
      rw [if_pos rfl, VR]
      exact ⟨_, rfl, by rw [VRs]; exact ⟨_, _, rfl, hz, by rw [VRs]; exact ⟨_, _, rfl, by rw [VR], by rw [VRs]⟩⟩⟩
  | some x =>
    obtain ⟨j, m', g1, g2, g3, g4, g5, g6⟩ := hf
    have hrun := hrun1 _ _ g1
    obtain ⟨x1, x2, x3⟩ := x
    cases ok with
    | false =>
      have hl : some x2 = some u := hl
      injection hl with hl; subst hl
      exact .ok hrun g5
    | true =>
      have hl : some (AV.tu [x2, .b true]) = some u := hl
      injection hl with hl; subst hl
      refine .ok hrun ?_
      rw [if_pos rfl, VR]
      exact ⟨_, rfl, by rw [VRs]; exact ⟨_, _, rfl, g5, by rw [VRs]; exact ⟨_, _, rfl, by rw [VR], by rw [VRs]⟩⟩⟩
theorem Dp : ∀ (l : List Nat) (d : Option Nat), lf (M := Option Nat → Option Nat) (fun d => d) (fun a _ ih _ => ih (some a)) l d = (l.getLast?).or d
  | [], d => by cases d <;> rfl
  | a :: l, d => by
    show lf (M := Option Nat → Option Nat) (fun d => d) (fun a _ ih _ => ih (some a)) l (some a) = _
    rw [Dp l (some a)]
    cases l with
    | nil => rfl
    | cons b l =>
      rw [List.getLast?_cons_cons]
      cases hh : (b :: l).getLast? with
      | none => simp at hh
      | some x => rfl
theorem C0 {b : Nat} : ∀ {es : Es} {l : List MapEntry} {x : AV × AV × Nat}, Xy ι es l → bornE b es = some x → ∃ m, l.find? (·.born == b) = some m ∧ VR ι x.1 m.key ∧ VR ι x.2.1 m.val
  | [], l, x, he, h => by cases h
  | y :: es, l, x, he, h => by
    obtain ⟨m, s, rfl, h1, h2, h3, h4⟩ := he
    have h : Vd (Nat.beq y.2.2 b) (some y) (bornE b es) = some x := h
    cases hq : Nat.beq y.2.2 b with
    | true =>
      rw [hq, Ve] at h
      injection h with h; subst h
      refine ⟨m, ?_, h1, h2⟩
      rw [List.find?_cons_of_pos]
      rw [h3, ← Ni]; exact hq
    | false =>
      rw [hq, Q9] at h
      obtain ⟨m', g1, g2⟩ := C0 h4 h
      refine ⟨m', ?_, g2⟩
      rw [List.find?_cons_of_neg]
      · exact g1
      · rw [h3, ← Ni, hq]; intro hc; cases hc
theorem H1 (s : SR Ck w₀ K ι h w) {it u : AV} {vi : Value} (hi : VR ι it vi) (hl : entryE h it = some u) : LV P (Instr.entry vi) w (VR ι u) := by
  cases it <;> try (cases hl; done)
  rename_i x o
  cases o with
  | succ o => cases hl
  | zero =>
  obtain ⟨ob, h1, hl⟩ := Qa (x := R8 x h) hl
  rw [VR] at hi
  obtain ⟨p, hp, rfl⟩ := hi
  obtain ⟨p', ob', q1, q2, q3⟩ := s.obj h1
  rw [hp] at q1; injection q1 with q1; subst q1
  cases ob <;> try (cases hl; done)
  rename_i m since seen stepped
  cases m with
  | none => cases hl
  | some m =>
  obtain ⟨st, h2, hl⟩ := Qa (x := lastE seen) hl
  obtain ⟨mo, h3, hl⟩ := Qa (x := R8 m h) hl
  obtain ⟨hbs, m', hm', rfl⟩ := q3
  obtain ⟨pm, hpm, rfl⟩ := hm'
  obtain ⟨pm', mo', r1, r2, r3⟩ := s.obj h3
  rw [hpm] at r1; injection r1 with r1; subst r1
  cases mo <;> try (cases hl; done)
  rename_i es clock
  obtain ⟨hc, hl2⟩ := Qx hl
  have hc : clock = stepped := Nat.eq_of_beq_eq_true hc
  clear hl
  subst hc
  obtain ⟨x', hx', hl⟩ := Qa hl2
  injection hl with hl; subst hl
  obtain ⟨l, rfl, hents⟩ := r3
  obtain ⟨mm, hm1, hm2, hm3⟩ := C0 hents hx'
  have hback : seen.toArray.back? = some st := by
    have := Dp seen none
    have h2' : (seen.getLast?).or none = some st := this.symm.trans h2
    simpa using h2'
  refine .ok (v := .tuple #[mm.key, mm.val]) ?_ (by rw [VR]; exact ⟨_, rfl, by rw [VRs]; exact ⟨_, _, rfl, hm2, by rw [VRs]; exact ⟨_, _, rfl, hm3, by rw [VRs]⟩⟩⟩)
  have hfind : l.find? (fun x => x.born == st) = some mm := by rw [← Array.find?_toList]; exact hm1
  rw [hbs]
  simp only [Instr.entry, Sem.run_bind, Vo q2 (by intros; simp), Result.andThen_ok, hback, Vo r2 (by intros; simp), bne_self_eq_false, Bool.false_eq_true, if_false, Sem.run_pure, hfind]
def LnOk (P : Program) (t : TypeId) : Tg0 → Prop
  | .x => P.underlying t = some .string
  | .s => ∃ e, P.underlying t = some (.slice e)
  | .m => ∃ k e, P.underlying t = some (.map k e)
  | _ => False
theorem Nn : ∀ {es : Es} {l : List MapEntry}, Xy ι es l → l.length = es.length
  | [], l, h => by have h : l = [] := h; subst h; rfl
  | x :: es, l, h => by obtain ⟨m, s, rfl, _, _, _, h4⟩ := h; simp [Nn h4]
theorem Jg {α : Type} (l : List α) : Fy l = some l.length := by unfold Fy; rw [X4]; rfl
theorem len_spec (s : SR Ck w₀ K ι h w) {u : AV} {ty : TypeId} {ts : Array TypeId} {vs : Array Value} (hv : VR ι a v) (hl : lenV g h a = some u) (ht : LnOk P t g) (h0 : ts[0]? = some t) (h1 : vs[0]? = some v) : LV P (Builtin.len_ ts ty vs) w (VR ι u) := by
  cases g <;> try exact ht.elim
  · have ht : P.underlying t = some .string := ht
    cases a <;> try (cases hl; done)
    rename_i l
    have hl : bd (Fy l) (fun n => some (AV.i .i64 (.ofNat n))) = some u := hl
    rw [Jg] at hl
    injection hl with hl; subst hl
    rw [VR] at hv
    obtain ⟨rfl, _⟩ := hv
    exact .ok (v := .int .i64 l.length) (by simp [Builtin.len_, h0, h1, run_underlying ht, goInt, Xt]) (by rw [VR]; rfl)
  · obtain ⟨e, ht⟩ := ht
    cases a <;> try (cases hl; done)
    · injection hl with hl; subst hl
      rw [VR] at hv
      obtain ⟨p, off, c', hp, rfl, _⟩ := hv
      exact .ok (by simp [Builtin.len_, h0, h1, run_underlying ht, goInt]; rfl) (by rw [VR]; rfl)
    · injection hl with hl; subst hl
      rw [VR] at hv
      subst hv
      exact .ok (by simp [Builtin.len_, h0, h1, run_underlying ht, goInt]; rfl) (by rw [VR]; rfl)
  · obtain ⟨k, e, ht⟩ := ht
    have hl : bd (entsE h a) (fun es => bd (Fy es) fun n => some (AV.i .i64 (.ofNat n))) = some u := by cases a <;> exact hl
    obtain ⟨es, he, hl⟩ := Qa hl
    rw [Jg] at hl
    injection hl with hl; subst hl
    rcases Cz s hv he with ⟨rfl, rfl⟩ | ⟨b, l, clock, rfl, hb, hents⟩
    · exact .ok (by simp [Builtin.len_, h0, h1, run_underlying ht, goInt]; rfl) (by rw [VR]; rfl)
    · refine .ok (v := .int .i64 l.size) (by simp [Builtin.len_, h0, h1, run_underlying ht, goInt, Vo hb]) (by rw [VR]; have := Nn hents; simp at this; rw [this]; rfl)
end
theorem cap_spec {u : AV} {ty : TypeId} {ts : Array TypeId} {vs : Array Value} (hv : VR ι a v) (hl : capV a = some u) (ht : P.underlying t = some (.slice e)) (h0 : ts[0]? = some t) (h1 : vs[0]? = some v) : LV P (Builtin.cap_ ts ty vs) w (VR ι u) := by
  cases a <;> try (cases hl; done)
  · rename_i x o n c ex z'
    cases ex with
    | false => cases hl
    | true =>
      injection hl with hl; subst hl
      rw [VR] at hv
      obtain ⟨p, off, c', hp, rfl, g1, g2, g3, _⟩ := hv
      exact .ok (v := .int .i64 c') (by simp [Builtin.cap_, h0, h1, run_underlying ht, goInt]) (by rw [VR, g3 rfl]; rfl)
  · injection hl with hl; subst hl
    rw [VR] at hv
    subst hv
    exact .ok (by simp [Builtin.cap_, h0, h1, run_underlying ht, goInt]; rfl) (by rw [VR]; rfl)
theorem max_spec {b u : AV} {v' : Value} {ty : TypeId} {ts : Array TypeId} (hv : VR ι a v) (hv' : VR ι b v') (hl : maxE a b = some u) : LV P (Builtin.max_ ts ty #[v, v']) w (VR ι u) := by
  cases a <;> try (cases hl; done)
  cases b <;> try (cases hl; done)
  injection hl with hl; subst hl
  rw [VR] at hv hv'
  subst hv; subst hv'
  rename_i k n k' m
  refine .ok (v := .int k (if m > n then m else n)) (by simp [Builtin.max_, Builtin.max2, List.foldlM]) ?_
  rw [ltI_eq]
  by_cases hc : n < m
  · simp only [hc, decide_true, Ve]; rw [VR]; simp [hc]
  · simp only [hc, decide_false, Q9]; rw [VR]; simp [hc]
theorem min_spec {b u : AV} {v' : Value} {ty : TypeId} {ts : Array TypeId} (hv : VR ι a v) (hv' : VR ι b v') (hl : minE a b = some u) : LV P (Builtin.min_ ts ty #[v, v']) w (VR ι u) := by
  cases a <;> try (cases hl; done)
  cases b <;> try (cases hl; done)
  injection hl with hl; subst hl
  rw [VR] at hv hv'
  subst hv; subst hv'
  rename_i k n k' m
  refine .ok (v := .int k (if m < n then m else n)) (by simp [Builtin.min_, Builtin.min2, List.foldlM]) ?_
  rw [ltI_eq]
  by_cases hc : m < n
  · simp only [hc, decide_true, Ve]; rw [VR]; simp [hc]
  · simp only [hc, decide_false, Q9]; rw [VR]; simp [hc]
theorem ta_spec {u zero : AV} {vz : Value} {x : TypeId} {tt : Nat} {ok : Bool} (hv : VR ι a v) (hl : taE a tt ok zero = some u) (ht : P.underlying tt = some d) (hd : ∀ ms, d ≠ .interface ms) (hz : ok = true → ZR P tt vz ∧ VR ι zero vz) : LV P (Instr.typeAssert v x tt ok) w (VR ι u) := by
  cases a <;> try (cases hl; done)
  rename_i y b
  rw [VR] at hv
  obtain ⟨r, rfl, hr⟩ := hv
  have hl : Vd (Nat.beq tt y) (Bool.casesOn (motive := fun _ => Option AV) ok (some b) (some (.tu [b, .b true]))) (Bool.casesOn (motive := fun _ => Option AV) ok none (some (.tu [zero, .b false]))) = some u := hl
  cases hq : Nat.beq tt y with
  | true =>
    have : tt = y := Nat.eq_of_beq_eq_true hq
    subst this
    rw [hq, Ve] at hl
    have hrun : (Instr.typeAssert (.iface tt r) x tt ok).run P w = .ok (if ok then .tuple #[r, .bool true] else r) w := by
      simp only [Instr.typeAssert, Sem.run_bind, run_underlying ht, Result.andThen_ok]
      cases d <;> first | exact absurd rfl (hd _) | simp
    cases ok with
    | false => injection hl with hl; subst hl; exact .ok hrun hr
    | true =>
      injection hl with hl; subst hl
      refine .ok hrun ?_
      rw [if_pos rfl, VR]
      exact ⟨_, rfl, by rw [VRs]; exact ⟨_, _, rfl, hr, by rw [VRs]; exact ⟨_, _, rfl, by rw [VR], by rw [VRs]⟩⟩⟩
  | false =>
    rw [hq, Q9] at hl
    cases ok with
    | false => cases hl
    | true =>
      injection hl with hl; subst hl
      obtain ⟨hz1, hz2⟩ := hz rfl
      have hne : ¬ y = tt := fun e => by subst e; rw [Nat.beq_refl] at hq; cases hq
      refine .ok (v := .tuple #[vz, .bool false]) ?_ ?_
      · simp only [Instr.typeAssert, Sem.run_bind, run_underlying ht, Result.andThen_ok]
        cases d <;> first | exact absurd rfl (hd _) | simp [hne, Vn hz1]
      · rw [VR]
        exact ⟨_, rfl, by rw [VRs]; exact ⟨_, _, rfl, hz2, by rw [VRs]; exact ⟨_, _, rfl, by rw [VR], by rw [VRs]⟩⟩⟩
end
end Go.Ev
namespace Go.Ev
theorem Jz (off : Nat) : ∀ (l : List Value) (s : Nat) (cs : Array Value) (k : Nat), ((l.zipIdx s).foldl (fun (cs : Array Value) (x : Value × Nat) => cs.setIfInBounds (off + x.2) x.1) cs)[k]? =
    if off + s ≤ k ∧ k < off + s + l.length ∧ k < cs.size then l[k - (off + s)]? else cs[k]?
  | [], s, cs, k => by
    have : ¬ (off + s ≤ k ∧ k < off + s + ([] : List Value).length ∧ k < cs.size) := by simp; omega
    rw [if_neg this]; rfl
  | v :: l, s, cs, k => by
    simp only [List.zipIdx_cons, List.foldl_cons]
    rw [Jz off l (s + 1) _ k]
    simp only [Array.size_setIfInBounds, Array.getElem?_setIfInBounds, List.length_cons]
    by_cases h3 : k < cs.size
    · by_cases h1 : off + (s + 1) ≤ k ∧ k < off + (s + 1) + l.length ∧ k < cs.size
      · rw [if_pos h1, if_pos ⟨by omega, by omega, h3⟩]
        rw [show k - (off + s) = (k - (off + (s + 1))) + 1 by omega]
        simp
      · rw [if_neg h1]
        by_cases h2 : off + s = k
        · have hc : off + s ≤ k ∧ k < off + s + (l.length + 1) ∧ k < cs.size := ⟨by omega, by omega, h3⟩
          simp only [if_pos h2, if_pos hc, if_pos h3]
          subst h2
          simp [h3]
        · have hc : ¬ (off + s ≤ k ∧ k < off + s + (l.length + 1) ∧ k < cs.size) := fun c => h1 ⟨by omega, by omega, h3⟩
          simp only [if_neg h2, if_neg hc]
    · have hc1 : ¬ (off + (s + 1) ≤ k ∧ k < off + (s + 1) + l.length ∧ k < cs.size) := fun c => h3 c.2.2
      have hc2 : ¬ (off + s ≤ k ∧ k < off + s + (l.length + 1) ∧ k < cs.size) := fun c => h3 c.2.2
      have : cs[k]? = none := by simp; omega
      simp only [if_neg hc1, if_neg hc2, this]
      by_cases h2 : off + s = k
      · simp only [if_pos h2]; subst h2; simp [h3]
      · simp only [if_neg h2]
section
variable {P : Program} {w : World} {ι : Io}
def CR (ι : Io) (t : Tr AV) (zs : List AV) (n : Nat) (cs : Array Value) : Prop := cs.size = n ∧ ∀ j, j < n → ∃ a v, Nd t zs n j = some a ∧ cs[j]? = some v ∧ VR ι a v
theorem U5 {a : AV} {v : Value} (hv : VR ι a v) : VRs ι (Yp a) v.cells.toList := by
  have one : VR ι a v → v.cells = #[v] → Yp a = [a] → VRs ι (Yp a) v.cells.toList := fun h e1 e2 => by
    rw [e1, e2, VRs]
    exact ⟨v, [], rfl, h, by rw [VRs]⟩
  cases a
  case ag l => rw [VR] at hv; obtain ⟨arr, rfl, h⟩ := hv; exact h
  all_goals (
    refine one hv ?_ rfl
    rw [VR] at hv
    first | (subst hv; rfl) | (obtain ⟨rfl, _⟩ := hv; rfl) | (obtain ⟨_, _, rfl⟩ := hv; rfl) | (obtain ⟨_, _, _, _, rfl, _⟩ := hv; rfl) | (obtain ⟨_, _, rfl, _⟩ := hv; rfl) | (obtain ⟨_, rfl, _⟩ := hv; rfl))
theorem CR.put {t t' : Tr AV} {zs : List AV} {n off : Nat} {cs : Array Value} {l : List AV} {vs : Array Value} (h : CR ι t zs n cs) (hp : Em l t off = some t') (hv : VRs ι l vs.toList) (hfit : off + vs.size ≤ cs.size) :
    CR ι t' zs n (vs.zipIdx.foldl (fun (cs : Array Value) (x : Value × Nat) => cs.setIfInBounds (off + x.2) x.1) cs) := by
  have hsz : ∀ (m : List (Value × Nat)) (cs : Array Value), (m.foldl (fun (cs : Array Value) (x : Value × Nat) => cs.setIfInBounds (off + x.2) x.1) cs).size = cs.size := by
    intro m
    induction m with
    | nil => intro cs; rfl
    | cons a m ih => intro cs; simp [ih]
  have hlen := hv.len
  have hf : vs.zipIdx.foldl (fun (cs : Array Value) (x : Value × Nat) => cs.setIfInBounds (off + x.2) x.1) cs = (vs.toList.zipIdx).foldl (fun (cs : Array Value) (x : Value × Nat) => cs.setIfInBounds (off + x.2) x.1) cs := by
    rw [← Array.foldl_toList]; simp
  rw [hf]
  refine ⟨(hsz _ _).trans h.1, fun j hj => ?_⟩
  rw [Jz off vs.toList 0 cs j]
  have hg := X3 l t off t' hp j
  rw [Xf _ _ _ _ hj, hg]
  simp only [Nat.add_zero, Array.length_toList]
  simp only [Array.length_toList] at hlen
  by_cases c : off ≤ j ∧ j < off + l.length
  · rw [if_pos c, if_pos ⟨c.1, by omega, by rw [h.1]; exact hj⟩]
    have hlt : j - off < l.length := by omega
    obtain ⟨v, e1, e2⟩ := hv.get (i := j - off) (a := l[j - off]) (by simp [hlt])
    exact ⟨_, v, by simp [hlt], e1, e2⟩
  · rw [if_neg c, if_neg (by omega)]
    obtain ⟨a, v, e1, e2, e3⟩ := h.2 j hj
    rw [Xf _ _ _ _ hj] at e1
    exact ⟨a, v, e1, e2, e3⟩
def PtOk (ι : Io) (place : Nat → Option (Nat × Nat)) (n : Nat) : List (Nat × List AV) → List (Nat × Value) → Prop
  | [], l => l = []
  | q :: r, l => ∃ i v s sz, l = (i, v) :: s ∧ place i = some (q.1, sz) ∧ q.2.length = sz ∧ q.1 + sz ≤ n ∧ VRs ι q.2 v.cells.toList ∧ PtOk ι place n r s
theorem No {place : Nat → Option (Nat × Nat)} {zs : List AV} {n : Nat} : ∀ {qs : List (Nat × List AV)} {l : List (Nat × Value)} {t t' : Tr AV} {cs : Array Value}, PtOk ι place n qs l →
    lf (M := Tr AV → Option (Tr AV)) some (fun p _ ih t => bd (Em p.2 t p.1) ih) qs t = some t' → CR ι t zs n cs → ∃ cs', Instr.fill place cs l = some cs' ∧ CR ι t' zs n cs'
  | [], l, t, t', cs, h, hf, hc => by
    have h : l = [] := h
    subst h
    have hf : some t = some t' := hf
    injection hf with hf; subst hf
    exact ⟨cs, rfl, hc⟩
  | q :: qs, l, t, t', cs, h, hf, hc => by
    obtain ⟨i, v, s, sz, rfl, h1, h2, h3, h4, h5⟩ := h
    obtain ⟨t1, ht1, hf⟩ := Qa (x := Em q.2 t q.1) hf
    have hlen := h4.len
    simp only [Array.length_toList] at hlen
    have hfit : q.1 + v.cells.size ≤ cs.size := by rw [hc.1]; omega
    obtain ⟨cs', g1, g2⟩ := No h5 hf (hc.put ht1 h4 hfit)
    refine ⟨cs', ?_, g2⟩
    have e1 : (v.cells.size != sz) = false := by simp; omega
    have e2 : decide (q.1 + v.cells.size > cs.size) = false := by simp; omega
    simp only [Instr.fill, h1, ne_eq]
    rw [if_neg (by simp; omega)]
    exact g1
theorem Fb {l : List AV} {t : Tr AV} {zs : List AV} {cs : Array Value} (h : trOf l = some t) (hv : VRs ι l cs.toList) : CR ι t zs l.length cs := by
  have hlen := hv.len
  simp only [Array.length_toList] at hlen
  refine ⟨hlen, fun j hj => ?_⟩
  have hg := X3 l .e 0 t h j
  rw [Xf _ _ _ _ hj, hg, if_pos (by omega)]
  obtain ⟨v, e1, e2⟩ := hv.get (i := j) (a := l[j]) (by simp [hj])
  exact ⟨l[j], v, by simp [hj], by simpa using e1, e2⟩
theorem CR.list {t : Tr AV} {zs : List AV} {n : Nat} {cs : Array Value} {l : List AV} (h : CR ι t zs n cs) (hc : Ua t zs n n 0 = some l) : VRs ι l cs.toList := by
  obtain ⟨h1, h2⟩ := Ye t zs n n 0 l hc
  have key : ∀ (m : List AV) (d : Nat), d + m.length = n → (∀ i a, m[i]? = some a → Nd t zs n (d + i) = some a) → VRs ι m (cs.toList.drop d) := by
    intro m
    induction m with
    | nil => intro d hd _; rw [VRs]; simp; have := h.1; simp at hd; omega
    | cons a m ih =>
      intro d hd hh
      have hlt : d < n := by simp at hd; omega
      obtain ⟨b, v, e1, e2, e3⟩ := h.2 d hlt
      have := hh 0 a rfl
      rw [Nat.add_zero, e1] at this
      injection this with this; subst this
      have hd2 : cs.toList.drop d = v :: cs.toList.drop (d + 1) := by
        have hsz : d < cs.toList.length := by simp; have := h.1; omega
        rw [List.drop_eq_getElem_cons hsz]
        congr 1
        have : cs[d]? = some cs[d] := by simp
        rw [e2] at this; injection this with this
        simp [this]
      rw [hd2, VRs]
      exact ⟨v, _, rfl, e3, ih (d + 1) (by simp at hd; omega) (fun i b hb => by have := hh (i + 1) b (by simpa using hb); rwa [show d + (i + 1) = d + 1 + i by omega] at this)⟩
  have := key l 0 (by omega) (fun i a hi => h2 i a hi)
  simpa using this
def StPl (P : Program) (fs : Array Field) (i off sz : Nat) : Prop := ∃ f, fs[i]? = some f ∧ f.offset = off ∧ SZ P f.type sz
theorem H2 {fs : Array Field} (h : ∀ (i : Nat) (f : Field), fs[i]? = some f → ∃ z, SZ P f.type z) :
    ∃ ps : Array (Nat × Nat), (fs.mapM fun (f : Field) => (do pure (f.offset, ← sizeOf f.type) : Sem (Nat × Nat))).run P w = .ok ps w ∧ ∀ i off sz, StPl P fs i off sz → ps[i]? = some (off, sz) := by
  have key : ∀ (l : List Field), (∀ f ∈ l, ∃ z, SZ P f.type z) → ∃ ps : List (Nat × Nat), (l.mapM fun (f : Field) => (do pure (f.offset, ← sizeOf f.type) : Sem (Nat × Nat))).run P w = .ok ps w ∧ ∀ (i : Nat) (f : Field) (z : Nat), l[i]? = some f → SZ P f.type z → ps[i]? = some (f.offset, z) := by
    intro l
    induction l with
    | nil => exact fun _ => ⟨[], rfl, fun i f z hi => by simp at hi⟩
    | cons f l ih =>
      intro hl
      obtain ⟨z, hz⟩ := hl f (by simp)
      obtain ⟨ps, h1, h2⟩ := ih (fun g hg => hl g (by simp [hg]))
      refine ⟨(f.offset, z) :: ps, ?_, fun i g z' hi hz' => ?_⟩
      · simp only [List.mapM_cons, Sem.run_bind, Q6 hz, Result.andThen_ok, Sem.run_pure, h1]
      · cases i with
        | zero =>
          simp at hi; subst hi
          have : some z = some z' := by rw [← hz, ← hz']
          injection this with this; subst this; rfl
        | succ i => simp at hi; simpa using h2 i g z' hi hz'
  obtain ⟨ps, h1, h2⟩ := key fs.toList (fun f hf => by
    obtain ⟨i, hi⟩ := List.getElem?_of_mem hf
    exact h i f (by simpa using hi))
  refine ⟨ps.toArray, ?_, fun i off sz ⟨f, hf, ho, hs⟩ => by rw [← ho]; simpa using h2 i f sz (by simpa using hf) hs⟩
  rw [Array.mapM_eq_mapM_toList]
  simp only [Sem.run_map, h1, Result.andThen_ok]
theorem Gt {t : TypeId} {fs : Array Field} {vz : Value} {parts : Array (Nat × Value)} {z : List AV} {qs : List (Nat × List AV)} {tr : Tr AV} {l : List AV}
    (hu : P.underlying t = some (.struct fs)) (hz : ZR P t vz) (hzv : VRs ι z vz.cells.toList) (hall : ∀ (i : Nat) (f : Field), fs[i]? = some f → ∃ z, SZ P f.type z)
    (hp : ∀ ps : Array (Nat × Nat), (∀ i off sz, StPl P fs i off sz → ps[i]? = some (off, sz)) → PtOk ι (ps[·]?) z.length qs parts.toList) (hf : fillE z qs = some tr) (hl : Ua tr [] z.length z.length 0 = some l) :
    LV P (Instr.build t parts) w (VR ι (.ag l)) := by
  obtain ⟨t0, ht0, hf⟩ := Qa hf
  obtain ⟨ps, h1, h2⟩ := H2 (P := P) (w := w) hall
  obtain ⟨cs, h3, h4⟩ := No (zs := []) (hp ps h2) hf (Fb ht0 hzv)
  refine .ok (v := .agg cs) ?_ (by rw [VR]; exact ⟨cs, rfl, h4.list hl⟩)
  simp only [Instr.build, Sem.run_bind, Vn hz, Result.andThen_ok, run_underlying hu, h1, h3, Sem.run_pure]
theorem Rm {t : TypeId} {n sz : Nat} {e : TypeId} {vz : Value} {parts : Array (Nat × Value)} {z : List AV} {qs : List (Nat × List AV)} {tr : Tr AV} {l : List AV}
    (hu : P.underlying t = some (.array n e)) (hz : ZR P t vz) (hzv : VRs ι z vz.cells.toList) (hsz : SZ P e sz)
    (hp : PtOk ι (fun i => some (i * sz, sz)) z.length qs parts.toList) (hf : fillE z qs = some tr) (hl : Ua tr [] z.length z.length 0 = some l) :
    LV P (Instr.build t parts) w (VR ι (.ag l)) := by
  obtain ⟨t0, ht0, hf⟩ := Qa hf
  obtain ⟨cs, h3, h4⟩ := No (zs := []) hp hf (Fb ht0 hzv)
  refine .ok (v := .agg cs) ?_ (by rw [VR]; exact ⟨cs, rfl, h4.list hl⟩)
  simp only [Instr.build, Sem.run_bind, Vn hz, Result.andThen_ok, run_underlying hu, Q6 hsz, h3, Sem.run_pure]
end
end Go.Ev
namespace Go.Ev
def OdR : Od → Operand → Prop
  | .t p, .tmp t => p.dec = t
  | .c a, .const v => ∀ ι, VR ι a v
  | .c a, .func f => ∀ ι, VR ι a (.func (.func f) #[] #[])
  | _, _ => False
theorem Qs {ι : Io} {fr : Fm} {a : Act} {x : Od} {X : Operand} {u : AV} (h : OdR x X) (hf : FR ι fr a.tmps) (he : ev fr x = some u) : VR ι u (a.eval X) := by
  cases x with
  | t p => cases X <;> first | exact h.elim | (have h : p.dec = _ := h; subst h; exact hf p u he)
  | c b =>
    have he : some b = some u := he
    injection he with he; subst he
    cases X <;> first | exact h.elim | exact h ι
def OdsR : List Od → List Operand → Prop
  | [], l => l = []
  | x :: r, l => ∃ X s, l = X :: s ∧ OdR x X ∧ OdsR r s
theorem J0 {ι : Io} {fr : Fm} {a : Act} (hf : FR ι fr a.tmps) : ∀ {l : List Od} {L : List Operand} {us : List AV}, OdsR l L → evs fr l = some us → VRs ι us (L.map a.eval)
  | [], L, us, h, he => by
    have h : L = [] := h
    subst h
    injection he with he; subst he
    rw [VRs]; rfl
  | x :: l, L, us, h, he => by
    obtain ⟨X, s, rfl, h1, h2⟩ := h
    obtain ⟨u, hu, he⟩ := Qa (x := ev fr x) he
    obtain ⟨r, hr, he⟩ := Qa (x := evs fr l) he
    injection he with he; subst he
    rw [VRs]
    exact ⟨_, _, rfl, Qs h1 hf hu, J0 hf h2 hr⟩
def H3 : Option Od → Option Operand → Prop
  | none, X => X = none
  | some x, X => ∃ Y, X = some Y ∧ OdR x Y
theorem Zu {ι : Io} {fr : Fm} {a : Act} (hf : FR ι fr a.tmps) {x : Option Od} {X : Option Operand} {d m : Nat} (h : H3 x X) (he : U8 fr d x = some m) : BdR d m (X.map a.eval) := by
  cases x with
  | none =>
    have h : X = none := h
    subst h
    have he : some d = some m := he
    injection he with he; subst he; rfl
  | some x =>
    obtain ⟨Y, rfl, h⟩ := h
    obtain ⟨u, hu, he⟩ := Qa (x := ev fr x) he
    have hv := Qs h hf hu
    cases u <;> try (cases he; done)
    have hn := Vv he
    rw [VR] at hv
    exact ⟨_, by rw [← hn]; exact hv⟩
def PsR (place : Nat → Nat → Nat → Prop) (n : Nat) : List (Nat × Nat × Od) → List (Nat × Operand) → Prop
  | [], l => l = []
  | p :: r, l => ∃ i X s, l = (i, X) :: s ∧ place i p.1 p.2.1 ∧ p.1 + p.2.1 ≤ n ∧ OdR p.2.2 X ∧ PsR place n r s
theorem Um {ι : Io} {fr : Fm} {a : Act} (hf : FR ι fr a.tmps) {place : Nat → Nat → Nat → Prop} {n : Nat} {pl : Nat → Option (Nat × Nat)} (hpl : ∀ i off sz, place i off sz → pl i = some (off, sz)) :
    ∀ {ps : List (Nat × Nat × Od)} {L : List (Nat × Operand)} {qs : List (Nat × List AV)}, PsR place n ps L → E5 fr ps = some qs → PtOk ι pl n qs (L.map fun (i, x) => (i, a.eval x))
  | [], L, qs, h, he => by
    have h : L = [] := h
    subst h
    injection he with he; subst he
    rfl
  | p :: ps, L, qs, h, he => by
    obtain ⟨i, X, s, rfl, h1, h2, h3, h4⟩ := h
    obtain ⟨q, hq, he⟩ := Qa (x := bd (ev fr p.2.2) fun v => Vd (Nat.beq (R7 (Yp v)) p.2.1) (some (p.1, Yp v)) none) he
    obtain ⟨r, hr, he⟩ := Qa (x := E5 fr ps) he
    injection he with he; subst he
    obtain ⟨u, hu, hq⟩ := Qa hq
    obtain ⟨hc, hq⟩ := Qx hq
    injection hq with hq; subst hq
    have hc : R7 (Yp u) = p.2.1 := Nat.eq_of_beq_eq_true hc
    rw [X4] at hc
    exact ⟨i, a.eval X, _, p.2.1, rfl, hpl _ _ _ h1, hc, h2, U5 (Qs h3 hf hu), Um hf hpl h4 hr⟩
theorem PsR.mono {place place' : Nat → Nat → Nat → Prop} {n : Nat} (h : ∀ i a b, place i a b → place' i a b) : ∀ {ps : List (Nat × Nat × Od)} {L : List (Nat × Operand)}, PsR place n ps L → PsR place' n ps L
  | [], _, q => q
  | p :: ps, _, ⟨i, X, s, h0, h1, h2, h3, h4⟩ => ⟨i, X, s, h0, h _ _ _ h1, h2, h3, PsR.mono h h4⟩
def ArPl (z i off sz : Nat) : Prop := off = i * z ∧ sz = z
def FldOk (P : Program) : Nat → List Tg0 → List Field → Prop
  | _, [], l => l = []
  | i, k :: ks, l => ∃ f r, l = f :: r ∧ f.name ≠ "_" ∧ f.offset = i ∧ Bk P f.type k ∧ (∀ n, k ≠ .g n) ∧ FldOk P (i + 1) ks r
inductive LOk (P : Program) : LOp → Op → Prop
  | mv {x X} : OdR x X → LOk P (.mv x) (.move X)
  | asg {x X} : OdR x X → LOk P (.mv x) (.assign X)
  | cvs {x X s d d0} : P.underlying s = some d0 → P.underlying d = some .string → OdR x X → LOk P (.cvs x) (.convert s d X)
  | pick {c a b C A B} : OdR c C → OdR a A → OdR b B → LOk P (.pick c a b) (.pick C A B)
  | buildS {z ps t parts fs vz} : P.underlying t = some (.struct fs) → ZR P t vz → (∀ ι, VRs ι z vz.cells.toList) → (∀ (i : Nat) (f : Field), fs[i]? = some f → ∃ z, SZ P f.type z) → PsR (StPl P fs) z.length ps parts.toList → LOk P (.build z ps) (.build t parts)
  | buildA {z ps t parts n e sz vz} : P.underlying t = some (.array n e) → ZR P t vz → (∀ ι, VRs ι z vz.cells.toList) → SZ P e sz → PsR (ArPl sz) z.length ps parts.toList → LOk P (.build z ps) (.build t parts)
  | bin {op g x y t X Y yt} : EqOk P t g → OdR x X → OdR y Y → LOk P (.bin op g x y) (.binOp op t X Y yt)
  | eqa {ne ks t fs X Y x y yt} : P.underlying t = some (.struct fs) → P.stoodInHeld t = false → P.eqGuardType P.depth t = false → FldOk P 0 ks fs.toList → OdR x X → OdR y Y → LOk P (.eqa ne ks x y) (.binOp (if ne then .neq else .eql) t X Y yt)
  | un {op t x X} : OdR x X → LOk P (.un op x) (.unOp op t X)
  | cvi {k x s d d0 X} : P.underlying s = some d0 → P.underlying d = some (.int k) → OdR x X → LOk P (.cvi k x) (.convert s d X)
  | bts {x s d e X} : P.underlying s = some (.slice e) → P.underlying e = some (.int .u8) → P.underlying d = some .string → OdR x X → LOk P (.bts x) (.convert s d X)
  | idxs {x i t X I} : P.underlying t = some .string → OdR x X → OdR i I → LOk P (.idxs x i) (.index t X I)
  | idxa {x i n z agg t e d X I} : P.underlying t = some (.array n e) → P.underlying e = some d → F7 d = agg → SZ P e z → OdR x X → OdR i I → LOk P (.idxa x i n z agg) (.index t X I)
  | fld {x off n agg t fs f fd d X} : P.underlying t = some (.struct fs) → fs[f]? = some fd → fd.offset = off → P.underlying fd.type = some d → F7 d = agg → SZ P fd.type n → OdR x X → LOk P (.fld x off n agg) (.field t X f)
  | ext {x i X} : OdR x X → LOk P (.ext x i) (.extract X i)
  | mkf {g f first cap First Cap} : g.dec = f → OdsR first First.toList → OdsR cap Cap.toList → LOk P (.mkf g first cap) (.makeFunc (.func f) First Cap)
  | mki {t x d X} : P.underlying t = some d → (∀ ms, d ≠ .interface ms) → OdR x X → LOk P (.mki t x) (.makeInterface t X)
  | nilc {x X} : OdR x X → LOk P (.nilc x) (.nilCheck X)
  | len {g x t X c} : LnOk P t g → c.callee = .builtin .len → c.argTypes[0]? = some t → c.args.toList = [X] → OdR x X → LOk P (.len g x) (.call c)
  | cap {x t e X c} : P.underlying t = some (.slice e) → c.callee = .builtin .cap → c.argTypes[0]? = some t → c.args.toList = [X] → OdR x X → LOk P (.cap x) (.call c)
  | slcS {x lo hi z t X Lo Hi} : P.underlying t = some .string → OdR x X → H3 lo Lo → H3 hi Hi → LOk P (.slc .x x lo hi none z) (.slice t X Lo Hi none)
  | slcV {x lo hi mx z t e X Lo Hi Mx} : P.underlying t = some (.slice e) → SZ P e z → (mx.isSome = true → hi.isSome = true) → OdR x X → H3 lo Lo → H3 hi Hi → H3 mx Mx → LOk P (.slc .s x lo hi mx z) (.slice t X Lo Hi Mx)
  | sla {x lo hi mx n z t e X Lo Hi Mx} : ArrOk P t n e → n ≤ 65536 → SZ P e z → (mx.isSome = true → hi.isSome = true) → OdR x X → H3 lo Lo → H3 hi Hi → H3 mx Mx → LOk P (.sla x lo hi mx n z) (.slice t X Lo Hi Mx)
  | fa {x off t fs f fd z X} : P.underlying t = some (.struct fs) → fs[f]? = some fd → fd.offset = off → SZ P fd.type z → z ≠ 0 → OdR x X → LOk P (.fa x off) (.fieldAddr t X f)
  | ia {x i z t e X I} : P.underlying t = some (.slice e) → SZ P e z → OdR x X → OdR i I → LOk P (.ia x i z) (.indexAddr t X I)
  | iap {x i n z t e X I} : P.underlying t = some (.array n e) → SZ P e z → OdR x X → OdR i I → LOk P (.iap x i n z) (.indexAddr t X I)
  | maxi {a b A B c} : c.callee = .builtin .max → c.args.toList = [A, B] → OdR a A → OdR b B → LOk P (.maxi a b) (.call c)
  | mini {a b A B c} : c.callee = .builtin .min → c.args.toList = [A, B] → OdR a A → OdR b B → LOk P (.mini a b) (.call c)
  | load {n x t d X} : P.underlying t = some d → LdOk P t d n → OdR x X → LOk P (.load n x) (.load t X)
  | lkp {g m k zero ok t kt e vz M K'} : P.underlying t = some (.map kt e) → Bk P kt g → ZR P e vz → (∀ ι, VR ι zero vz) → OdR m M → OdR k K' → LOk P (.lkp g m k zero ok) (.lookup t M K' ok)
  | entry {x X} : OdR x X → LOk P (.entry x) (.entry X)
  | ta {x t ok zero d vz xt X} : P.underlying t = some d → (∀ ms, d ≠ .interface ms) → (ok = true → ZR P t vz ∧ ∀ ι, VR ι zero vz) → OdR x X → LOk P (.ta x t ok zero) (.typeAssert X xt t ok)
def ValQ (ι : Io) (u : AV) (n : Next) : Prop := ∃ v, n = .value v ∧ VR ι u v
theorem LV.value {P : Program} {X : Sem Value} {w : World} {ι : Io} {u : AV} (h : LV P X w (VR ι u)) : LV P (do pure (Next.value (← X))) w (ValQ ι u) := by
  obtain ⟨v, h1, h2⟩ := h
  exact ⟨.value v, by simp [h1], v, rfl, h2⟩
theorem Vx {P : Program} {w : World} {a : Act} {c : Call} {b : Builtin} {t : TypeId} (hc : c.callee = .builtin b) :
    (do let d ← resolve a.eval c t; invoke d.target d.args : Sem Next).run P w = (builtin b c.argTypes t (c.args.map fun | .const _ => true | _ => false) (c.args.map a.eval)).run P w := by
  simp only [resolve, hc, Sem.run_bind, Sem.run_pure, Result.andThen_ok, invoke]
  rfl
end Go.Ev
namespace Go.Ev
section
variable {P : Program} {Ck : CkT} {w₀ w : World} {K : Gd} {ι : Io} {h : H} {fr : Fm} {a : Act}
theorem LV.ret {v : Value} {u : AV} (hv : VR ι u v) : LV P (pure (Next.value v)) w (ValQ ι u) := ⟨.value v, rfl, v, rfl, hv⟩
theorem binE_spec (s : SR Ck w₀ K ι h w) {op : BinOp} {g : Tg0} {t : TypeId} {x y u : AV} {vx vy : Value} (X Y : Operand) (hx : VR ι x vx) (hy : VR ι y vy) (ht : EqOk P t g) (he : binE op g h x y = some u) :
    LV P (do eqGuard op t X Y vx vy; binOp op t vx vy) w (VR ι u) := by
  have num : ∀ {Q : Value → Prop}, (∀ X Y, eqGuard op t X Y vx vy = (if !(op matches .eql | .neq) then pure () else pure ())) → LV P (binOp op t vx vy) w Q → LV P (do eqGuard op t X Y vx vy; binOp op t vx vy) w Q := by
    intro Q h1 ⟨v, h2, h3⟩
    refine ⟨v, ?_, h3⟩
    rw [h1]
    split <;> simp [h2]
  have weak : ∀ {X : Sem Value}, LV P X w (fun v => ∀ ι, VR ι u v) → LV P X w (VR ι u) := fun ⟨v, h1, h2⟩ => ⟨v, h1, h2 ι⟩
  have eqs : (op = .eql ∨ op = .neq) → (∃ r, eqG g h x y = some r ∧ (op = .eql → u = .b r) ∧ (op = .neq → u = .b (!r))) → LV P (do eqGuard op t X Y vx vy; binOp op t vx vy) w (VR ι u) := by
    intro ho ⟨r, hr, h1, h2⟩
    obtain ⟨e1, e2, e3, e4⟩ := eqG_spec s hx hy hr ht
    rcases ho with rfl | rfl
    · rw [h1 rfl]
      exact .ok (v := .bool r) (by simp [e2, e3, e1]) (by rw [VR])
    · rw [h2 rfl]
      exact .ok (v := .bool !r) (by simp [e2, e4, e1]) (by rw [VR])
  by_cases hint : ∃ k n j m, x = .i k n ∧ y = .i j m
  · obtain ⟨k, n, j, m, rfl, rfl⟩ := hint
    rw [VR] at hx hy
    subst hx; subst hy
    refine num (fun X Y => by cases op <;> rfl) (weak ?_)
    by_cases h1 : op = .shl
    · subst h1; exact shlE_spec j he
    by_cases h2 : op = .shr
    · subst h2; exact shrE_spec j he
    have he : Vd (kEq k j) (binI op k n m) none = some u := by cases op <;> first | exact absurd rfl h1 | exact absurd rfl h2 | exact he
    obtain ⟨hk, he'⟩ := Qx he
    have := Jx hk
    subst this
    exact Cs t h1 h2 he'
  by_cases hq : ∃ n j m, x = .q n ∧ y = .i j m
  · obtain ⟨n, j, m, rfl, rfl⟩ := hq
    have he : binQ op n j m = some u := he
    rw [VR] at hx
    rw [VR] at hy
    obtain ⟨b, rfl, hb, hn⟩ := hx
    subst hy
    cases op <;> try (cases he; done)
    cases j <;> try (cases he; done)
    obtain ⟨hm, he⟩ := Qx he
    injection he with he; subst he
    rw [Rf] at hm
    have hm := eq_of_beq hm
    subst hm
    have hr : binI .rem .u8 (Int.ofNat b) (Int.ofNat 12) = some (.i .u8 (.ofNat n)) := by rw [← hn]; rfl
    exact num (fun X Y => rfl) (weak (Cs t (by decide) (by decide) hr))
  by_cases hstr : ∃ l m, x = .s l ∧ y = .s m
  · obtain ⟨l, m, rfl, rfl⟩ := hstr
    rw [VR] at hx hy
    obtain ⟨rfl, hl⟩ := hx
    obtain ⟨rfl, hm⟩ := hy
    exact num (fun X Y => by cases op <;> rfl) (weak (binS_spec t hl hm he))
  have he : binO op g h x y = some u := by
    cases x <;> cases y <;> first | exact he | exact absurd ⟨_, _, _, _, rfl, rfl⟩ hint | exact absurd ⟨_, _, _, rfl, rfl⟩ hq | exact absurd ⟨_, _, rfl, rfl⟩ hstr
  cases op <;> try (cases he; done)
  · obtain ⟨r, hr, he⟩ := Qa (x := eqG g h x y) he
    rw [Ut] at he; injection he with he
    exact eqs (.inl rfl) ⟨r, hr, fun _ => he.symm, fun h => by cases h⟩
  · obtain ⟨r, hr, he⟩ := Qa (x := eqG g h x y) he
    rw [Ut, Jy] at he; injection he with he
    exact eqs (.inr rfl) ⟨r, hr, fun h => (by cases h), fun _ => he.symm⟩
theorem unE_spec {op : UnOp} {x u : AV} {vx : Value} (hx : VR ι x vx) (he : unE op x = some u) : LV P (Op.unary op vx) w (VR ι u) := by
  cases op <;> cases x <;> try (cases he; done)
  · rename_i k n
    rw [VR] at hx; subst hx
    exact .ok (by simp only [Op.unary, Op.intArith, Sem.run_pure]; rfl) (Gz (f := Int.sub) he ι)
  · rename_i k n
    rw [VR] at hx; subst hx
    obtain ⟨m, hm, he⟩ := Qa (x := kMax k) he
    obtain ⟨x, hx, he⟩ := Qa (x := Bd n) he
    obtain ⟨hc, he⟩ := Qx he
    obtain ⟨r, hr, he⟩ := Qa he
    have hr : some (Nat.xor m x) = some r := hr
    injection hr with hr; subst hr
    injection he with he; subst he
    have hn := Vv hx
    subst hn
    have hc : x ≤ m := Nat.le_of_ble_eq_true hc
    have key : ∃ hs : k.signed = false, (k.max = (m : Int)) ∧ m < kTop k ∧ m + 1 = kTop k := by
      cases k <;> first | (cases hm; done) | (injection hm with hm; subst hm; exact ⟨rfl, by decide, by decide, by decide⟩)
    obtain ⟨hs, hmax, hm1, hm2⟩ := key
    refine .ok (v := .int k (k.wrap (Nat.xor m x : Nat))) ?_ ?_
    · simp only [Op.unary, hs, Bool.false_eq_true, if_false, hmax, Op.intBits, Sem.run_pure]
      rw [BitVec.toNat_xor, Zi k m hm1, Zi k x (by omega)]
      rfl
    · obtain ⟨j, h1, h2, h3⟩ := Rg k
      rw [VR, h3 _ (by rw [h1]; exact Nat.xor_lt_two_pow (by omega) (by omega))]
      rfl
  · rw [VR] at hx; subst hx
    have he : Jm (Y2 _) = some u := he
    rw [Ut, Jy] at he; injection he with he; subst he
    exact .ok (by simp [Op.unary]; rfl) (by rw [VR])
theorem scal_eq {t : TypeId} {k : Tg0} {x y : AV} {vx vy : Value} {q : Bool} (dd : Nat) (hk : Bk P t k) (hn : ∀ n, k ≠ .g n) (h1 : Ud k x = true) (h2 : Ud k y = true) (hx : VR ι x vx) (hy : VR ι y vy) (he : U3 x y = some q) :
    (∃ d, P.underlying t = some d ∧ F7 d = false) ∧ (Op.equalIn (dd + 1) t vx vy).run P w = .ok q w := by
  cases k <;> cases x <;> try (cases h1; done)
  all_goals (cases y <;> try (cases h2; done))
  all_goals try (exact absurd rfl (hn _))
  all_goals (rw [VR] at hx)
  all_goals (rw [VR] at hy)
  · have hk : P.underlying t = some .string := hk
    obtain ⟨rfl, b1⟩ := hx
    obtain ⟨rfl, b2⟩ := hy
    injection he with he; subst he
    refine ⟨⟨_, hk, rfl⟩, ?_⟩
    rw [run_equalIn_string w dd t _ _ hk, Yq, Yq, Bj b1 b2]
  · have hk : P.underlying t = some .bool := hk
    subst hx; subst hy
    injection he with he; subst he
    refine ⟨⟨_, hk, rfl⟩, ?_⟩
    rw [run_equalIn_bool' w dd t _ _ hk, Re]
  · obtain ⟨k', hk⟩ := hk
    subst hx; subst hy
    obtain ⟨hkk, he'⟩ := Qx he
    injection he' with he'; subst he'
    have := Jx hkk
    subst this
    refine ⟨⟨_, hk, rfl⟩, ?_⟩
    rw [run_equalIn_int w dd t _ _ _ _ hk, Rf]
theorem F8 (dd : Nat) {xs ys : Array Value} : ∀ {ks : List Tg0} {fs : List Field} {i : Nat} {a b : List AV} {q : Bool}, FldOk P i ks fs → eqaE ks a b = some q → VRs ι a (xs.toList.drop i) → VRs ι b (ys.toList.drop i) → (Op.eqFields (dd + 1) xs ys fs).run P w = .ok q w
  | [], fs, i, a, b, q, hf, he, ha, hb => by
    have hf : fs = [] := hf
    subst hf
    have he : some true = some q := he
    injection he with he; subst he
    rfl
  | k :: ks, fs, i, a, b, q, hf, he, ha, hb => by
    obtain ⟨f, r, rfl, h1, h2, h3, h4, h5⟩ := hf
    cases a with
    | nil => cases he
    | cons x a =>
    cases b with
    | nil => cases he
    | cons y b =>
    have he : Vd (Z3 (Ud k x) (Ud k y)) (bd (U3 x y) fun q => Vd q (eqaE ks a b) (some false)) none = some q := he
    obtain ⟨hc, he⟩ := Qx he
    obtain ⟨c1, c2⟩ := Q2 hc
    obtain ⟨q', hq, he⟩ := Qa he
    rw [VRs] at ha
    rw [VRs] at hb
    obtain ⟨vx, sx, e1, e2, e3⟩ := ha
    obtain ⟨vy, sy, e4, e5, e6⟩ := hb
    obtain ⟨⟨d, hd, hagg⟩, hrun⟩ := scal_eq (P := P) (w := w) dd h3 h4 c1 c2 e2 e5 hq
    have gx : xs[i]? = some vx := by rw [← Array.getElem?_toList]; have := congrArg (fun l => l[0]?) e1; simpa using this
    have gy : ys[i]? = some vy := by rw [← Array.getElem?_toList]; have := congrArg (fun l => l[0]?) e4; simpa using this
    have nx : xs.toList.drop (i + 1) = sx := by have := congrArg (List.drop 1) e1; simpa [Nat.add_comm] using this
    have ny : ys.toList.drop (i + 1) = sy := by have := congrArg (List.drop 1) e4; simpa [Nat.add_comm] using this
    have px : (part f.type xs f.offset).run P w = .ok vx w := by simp [part, Y7 hd, hagg, h2, gx]
    have py : (part f.type ys f.offset).run P w = .ok vy w := by simp [part, Y7 hd, hagg, h2, gy]
    simp only [Op.eqFields, ne_eq, h1, not_false_eq_true, if_true, Sem.run_bind, px, py, Result.andThen_ok, hrun]
    cases q' with
    | true =>
      simp only [Bool.not_true, Bool.false_eq_true, if_false]
      exact F8 dd h5 he (by rw [nx]; exact e3) (by rw [ny]; exact e6)
    | false =>
      have he : some false = some q := he
      injection he with he; subst he
      rfl
theorem lightOk (s : SR Ck w₀ K ι h w) (hf : FR ι fr a.tmps) {lo : LOp} {o : Oper} {u : AV} (hok : LOk P lo o.op) (he : lE lo fr h = some u) : LV P (execOp a.eval o) w (ValQ ι u) := by
  obtain ⟨dst, op, type, pos, after, guard⟩ := o
  simp only at hok
  cases hok with
  | mv hx => exact LV.ret (Qs hx hf he)
  | asg hx => exact LV.ret (Qs hx hf he)
  | cvs h1 h2 hx =>
    obtain ⟨v, hv, he⟩ := Qa he
    have hv := Qs hx hf hv
    cases v <;> try (cases he; done)
    injection he with he; subst he
    rw [VR] at hv
    obtain ⟨hv, hb⟩ := hv
    refine LV.value (.ok (v := .string (Xa _)) ?_ (by rw [VR]; exact ⟨rfl, hb⟩))
    rw [hv]
    simp only [convert, Sem.run_bind, run_underlying h1, run_underlying h2, Result.andThen_ok, Sem.run_pure]
  | pick h1 h2 h3 =>
    obtain ⟨vc, hc, he⟩ := Qa he
    obtain ⟨cb, hcb, he⟩ := Qa he
    obtain ⟨va, ha, he⟩ := Qa he
    obtain ⟨vb, hb, he⟩ := Qa he
    have hc := Qs h1 hf hc
    have ha := Qs h2 hf ha
    have hb := Qs h3 hf hb
    cases vc with
    | b q =>
      injection hcb with hcb; subst hcb
      rw [VR] at hc
      cases q with
      | true =>
        have he : some va = some u := he
        injection he with he; subst he
        exact ⟨.value (a.eval _), by simp only [execOp, asBool, hc, Sem.run_bind, Sem.run_pure, Result.andThen_ok, if_true], _, rfl, ha⟩
      | false =>
        have he : some vb = some u := he
        injection he with he; subst he
        exact ⟨.value (a.eval _), by simp only [execOp, asBool, hc, Sem.run_bind, Sem.run_pure, Result.andThen_ok, if_false, Bool.false_eq_true], _, rfl, hb⟩
    | _ => cases hcb
  | buildS h1 h2 h3 h4 h5 =>
    obtain ⟨qs, hq, he⟩ := Qa he
    obtain ⟨tr, htr, he⟩ := Qa he
    obtain ⟨n, hn, he⟩ := Qa he
    rw [Jg] at hn; injection hn with hn; subst hn
    obtain ⟨l, hl, he⟩ := Qa he
    injection he with he; subst he
    refine LV.value (Gt h1 h2 (h3 ι) h4 (fun ps hps => ?_) htr hl)
    have := Um hf (pl := (ps[·]?)) hps h5 hq
    simpa using this
  | buildA h1 h2 h3 h4 h5 =>
    obtain ⟨qs, hq, he⟩ := Qa he
    obtain ⟨tr, htr, he⟩ := Qa he
    obtain ⟨n, hn, he⟩ := Qa he
    rw [Jg] at hn; injection hn with hn; subst hn
    obtain ⟨l, hl, he⟩ := Qa he
    injection he with he; subst he
    refine LV.value (Rm h1 h2 (h3 ι) h4 ?_ htr hl)
    have := Um hf (pl := fun i => some (i * _, _)) (fun i off sz h => by obtain ⟨rfl, rfl⟩ := h; rfl) h5 hq
    simpa using this
  | bin h1 h2 h3 =>
    obtain ⟨vx, hx, he⟩ := Qa he
    obtain ⟨vy, hy, he⟩ := Qa he
    exact LV.value (binE_spec s _ _ (Qs h2 hf hx) (Qs h3 hf hy) h1 he)
  | @eqa ne ks t' fs X' Y' x' y' yt h1 h2 h3 h4 hx hy =>
    obtain ⟨vx, hvx, he⟩ := Qa he
    obtain ⟨vy, hvy, he⟩ := Qa he
    obtain ⟨xs, hxs, he⟩ := Qa he
    obtain ⟨ys, hys, he⟩ := Qa he
    obtain ⟨q, hq, he⟩ := Qa he
    rw [Ut] at he
    injection he with he; subst he
    have hx := Qs hx hf hvx
    have hy := Qs hy hf hvy
    cases vx <;> try (cases hxs; done)
    cases vy <;> try (cases hys; done)
    injection hxs with hxs; subst hxs
    injection hys with hys; subst hys
    rw [VR] at hx
    rw [VR] at hy
    obtain ⟨ax, hx, rx⟩ := hx
    obtain ⟨ay, hy, ry⟩ := hy
    have hrun := F8 (P := P) (w := w) 9998 (i := 0) h4 hq (by simpa using rx) (by simpa using ry)
    have hft : P.fieldsOf t' = fs := by unfold Program.fieldsOf; rw [h1]
    have hrun2 : (Op.equalIn (9999 + 1) t' (.agg ax) (.agg ay)).run P w = .ok q w := by
      rw [run_equalIn_struct w 9999 t' ax ay (by rw [hft]; exact h1) h2, hft]
      exact hrun
    refine LV.value ?_
    rw [hx, hy]
    cases ne with
    | false =>
      refine .ok (v := .bool q) ?_ (by rw [VR])
      simp only [Bool.false_eq_true, if_false, Sem.run_bind, run_eqGuard_agg w _ _ _ _ _ _ h3, Result.andThen_ok]
      rw [run_eql_struct, show (10000 : Nat) = 9999 + 1 from rfl, hrun2]; rfl
    | true =>
      refine .ok (v := .bool !q) ?_ (by rw [VR]; simp [Vd, Jy])
      simp only [if_true, Sem.run_bind, run_eqGuard_agg w _ _ _ _ _ _ h3, Result.andThen_ok]
      rw [run_neq_struct, show (10000 : Nat) = 9999 + 1 from rfl, hrun2]; rfl
  | un h1 =>
    obtain ⟨vx, hx, he⟩ := Qa he
    exact LV.value (unE_spec (Qs h1 hf hx) he)
  | cvi h1 h2 hx =>
    obtain ⟨v, hv, he⟩ := Qa he
    obtain ⟨n, hn, he⟩ := Qa he
    obtain ⟨r, hr, he⟩ := Qa he
    injection he with he; subst he
    have hv := Qs hx hf hv
    cases v <;> try (cases hn; done)
    injection hn with hn; subst hn
    rw [VR] at hv
    refine LV.value (.ok (v := .int _ r) ?_ (by rw [VR]))
    rw [hv]
    simp only [convert, Sem.run_bind, run_underlying h1, run_underlying h2, Result.andThen_ok, Conv.intToInt, Sem.run_pure, Jo hr]
  | bts h1 h2 h3 hx =>
    obtain ⟨v, hv, he⟩ := Qa he
    exact LV.value (bts_spec s (Qs hx hf hv) he h1 h2 h3)
  | idxs h1 hx hi =>
    obtain ⟨vx, hvx, he⟩ := Qa he
    obtain ⟨vi, hvi, he⟩ := Qa he
    obtain ⟨i, hii, he⟩ := Qa he
    have hx := Qs hx hf hvx
    have hi := Qs hi hf hvi
    cases vx <;> try (cases he; done)
    cases vi <;> try (cases hii; done)
    injection hii with hii; subst hii
    rw [VR] at hx
    rw [VR] at hi
    obtain ⟨hx, hb⟩ := hx
    refine LV.value ?_
    rw [hx, hi]
    obtain ⟨v, h2, h3⟩ := idxS_spec (P := P) (w := w) h1 hb he
    exact ⟨v, h2, h3 ι⟩
  | idxa h1 h2 h3 h4 hx hi =>
    obtain ⟨vx, hvx, he⟩ := Qa he
    obtain ⟨vi, hvi, he⟩ := Qa he
    obtain ⟨l, hl, he⟩ := Qa he
    obtain ⟨i, hii, he⟩ := Qa he
    obtain ⟨hlt, he4⟩ := Qx he
    have hx := Qs hx hf hvx
    have hi := Qs hi hf hvi
    cases vx <;> try (cases hl; done)
    cases vi <;> try (cases hii; done)
    injection hl with hl; subst hl
    have hn := Vv hii
    subst hn
    rw [VR] at hx
    rw [VR] at hi
    obtain ⟨arr, hx, hvs⟩ := hx
    have hlt := Nat.le_of_ble_eq_true hlt
    refine LV.value ?_
    rw [hx, hi]
    obtain ⟨v, g1, g2⟩ := Cw (P := P) (w := w) hvs he4 h2 h3 h4
    refine ⟨v, ?_, g2⟩
    have e1 : (0 : Int) ≤ (i : Int) ∧ (i : Int) < ((_ : Nat) : Int) := ⟨by omega, Int.ofNat_lt.2 hlt⟩
    simp only [Instr.index, asIntOf, Sem.run_bind, Sem.run_pure, Result.andThen_ok, run_underlying h1, if_pos e1, Q6 h4, Int.toNat_natCast]
    exact g1
  | fld h1 h2 h3 h4 h5 h6 hx =>
    obtain ⟨vx, hvx, he⟩ := Qa he
    obtain ⟨l, hl, he⟩ := Qa he
    have hx := Qs hx hf hvx
    cases vx <;> try (cases hl; done)
    injection hl with hl; subst hl
    rw [VR] at hx
    obtain ⟨arr, hx, hvs⟩ := hx
    refine LV.value ?_
    rw [hx]
    subst h3
    obtain ⟨v, g1, g2⟩ := Cw (P := P) (w := w) hvs he h4 h5 h6
    refine ⟨v, ?_, g2⟩
    simp only [Instr.field, Sem.run_bind, run_underlying h1, Result.andThen_ok, h2, asAgg, Sem.run_pure]
    exact g1
  | @ext x' i' X' hx =>
    obtain ⟨vx, hvx, he⟩ := Qa he
    obtain ⟨l, hl, he⟩ := Qa he
    have hx := Qs hx hf hvx
    cases vx <;> try (cases hl; done)
    injection hl with hl; subst hl
    rw [VR] at hx
    obtain ⟨arr, hx, hvs⟩ := hx
    rw [Rb] at he
    obtain ⟨v, g1, g2⟩ := hvs.get he
    have g1 : arr[i']? = some v := by simpa using g1
    refine LV.value (.ok (v := v) ?_ g2)
    rw [hx]
    simp only [Instr.extract, g1, Sem.run_pure]
  | mkf hg h1 h2 =>
    obtain ⟨va, hva, he⟩ := Qa he
    obtain ⟨vc, hvc, he⟩ := Qa he
    injection he with he; subst he
    subst hg
    refine LV.value (.ok (by simp [Instr.makeFunc]; rfl) ?_)
    rw [VR]
    exact ⟨_, _, rfl, by have := J0 hf h1 hva; simpa using this, by have := J0 hf h2 hvc; simpa using this⟩
  | mki h1 h2 hx =>
    obtain ⟨vx, hvx, he⟩ := Qa he
    injection he with he; subst he
    refine LV.value (.ok (v := .iface _ (a.eval _)) ?_ (by rw [VR]; exact ⟨_, rfl, Qs hx hf hvx⟩))
    simp only [Instr.makeInterface, Sem.run_bind, run_underlying h1, Result.andThen_ok]
    rename_i d _
    cases d <;> first | exact absurd rfl (h2 _) | rfl
  | @nilc x' X' hx =>
    obtain ⟨vx, hvx, he⟩ := Qa he
    have hx := Qs hx hf hvx
    have key : ∀ v, a.eval X' = v → (execOp a.eval ⟨dst, .nilCheck X', type, pos, after, guard⟩ = pure (.value v)) → VR ι u v → LV P (execOp a.eval ⟨dst, .nilCheck X', type, pos, after, guard⟩) w (ValQ ι u) := fun v _ h1 h2 => by rw [h1]; exact LV.ret h2
    cases vx <;> try (cases he; done)
    all_goals (injection he with he; subst he)
    · have hv := hx
      rw [VR] at hx
      obtain ⟨p, hp, hx⟩ := hx
      exact key _ hx (by simp only [execOp, hx]) (by rw [← hx]; exact hv)
    · have hv := hx
      rw [VR] at hx
      obtain ⟨a', c', hx, _⟩ := hx
      exact key _ hx (by simp only [execOp, hx]) (by rw [← hx]; exact hv)
    · have hv := hx
      rw [VR] at hx
      obtain ⟨p, hp, hx⟩ := hx
      exact key _ hx (by simp only [execOp, hx]) (by rw [← hx]; exact hv)
    · have hv := hx
      rw [VR] at hx
      obtain ⟨p, hx, _⟩ := hx
      exact key _ hx (by simp only [execOp, hx]) (by rw [← hx]; exact hv)
  | @len g' x' t' X' c' h1 h2 h3 h4 hx =>
    obtain ⟨vx, hvx, he⟩ := Qa he
    obtain ⟨v, g1, g2⟩ := LV.value (len_spec (P := P) s (ty := type) (vs := c'.args.map a.eval) (Qs hx hf hvx) he h1 h3 (by rw [← Array.getElem?_toList, Array.toList_map, h4]; rfl))
    exact ⟨v, (Vx h2).trans g1, g2⟩
  | @cap x' t' e' X' c' h1 h2 h3 h4 hx =>
    obtain ⟨vx, hvx, he⟩ := Qa he
    obtain ⟨v, g1, g2⟩ := LV.value (cap_spec (P := P) (w := w) (ty := type) (vs := c'.args.map a.eval) (Qs hx hf hvx) he h1 h3 (by rw [← Array.getElem?_toList, Array.toList_map, h4]; rfl))
    exact ⟨v, (Vx h2).trans g1, g2⟩
  | slcS h1 hx hlo hhi =>
    obtain ⟨vx, hvx, he⟩ := Qa he
    have hx := Qs hx hf hvx
    cases vx <;> try (cases he; done)
    obtain ⟨x, hxx, he⟩ := Qa he
    obtain ⟨y, hyy, he⟩ := Qa he
    obtain ⟨hc, he⟩ := Qx he
    obtain ⟨l, hl, he⟩ := Qa he
    rw [X4] at hyy hc
    injection he with he; subst he
    obtain ⟨c1, c2⟩ := Q2 hc
    obtain ⟨e1, e2⟩ := F4 hl
    rw [VR] at hx
    obtain ⟨hx, hb⟩ := hx
    refine LV.value ?_
    rw [hx]
    refine .ok (slcS_spec h1 (Zu hf hlo hxx) (Zu hf hhi hyy) (Nat.le_of_ble_eq_true c1) (Nat.le_of_ble_eq_true c2)) ?_
    rw [VR]
    exact ⟨by rw [e1]; rfl, fun b hb' => hb b (by rw [e1] at hb'; exact List.mem_of_mem_drop (List.mem_of_mem_take hb'))⟩
  | @slcV x' lo' hi' mx' z' t' e' X' Lo' Hi' Mx' h1 h2 h3 hx hlo hhi hmx =>
    obtain ⟨vx, hvx, he⟩ := Qa he
    have hx := Qs hx hf hvx
    have hsome : ∀ {x : Option Od} {X : Option Operand}, H3 x X → (X.map a.eval).isSome = x.isSome := fun {x X} h => by
      cases x with
      | none => have h : X = none := h; subst h; rfl
      | some x => obtain ⟨Y, rfl, _⟩ := h; rfl
    cases vx <;> try (cases he; done)
    · obtain ⟨hz, he1⟩ := Qx he
      have hz := Nat.eq_of_beq_eq_true hz
      clear he
      subst hz
      obtain ⟨x, hxx, he⟩ := Qa he1
      obtain ⟨y, hyy, he⟩ := Qa he
      obtain ⟨m, hmm, he⟩ := Qa he
      refine LV.value (slc_spec hx he h1 h2 (Zu hf hlo hxx) (Zu hf hhi hyy) (Zu hf hmx hmm) ?_ (fun h => ?_))
      · rw [hsome hmx]; cases mx' <;> rfl
      · rw [hsome hhi]; rw [hsome hmx] at h; exact h3 h
    · obtain ⟨x, hxx, he⟩ := Qa he
      obtain ⟨y, hyy, he⟩ := Qa he
      obtain ⟨m, hmm, he⟩ := Qa he
      obtain ⟨hc, he⟩ := Qx he
      injection he with he; subst he
      obtain ⟨c1, hc⟩ := Q2 hc
      obtain ⟨c2, c3⟩ := Q2 hc
      have c1 := Nat.eq_of_beq_eq_true c1
      have c2 := Nat.eq_of_beq_eq_true c2
      have c3 := Nat.eq_of_beq_eq_true c3
      subst c1; subst c2; subst c3
      rw [VR] at hx
      refine LV.value ?_
      rw [hx]
      refine slcn_spec h1 h2 (Zu hf hlo hxx) (Zu hf hhi hyy) (Zu hf hmx hmm) (fun h => ?_)
      rw [hsome hhi]; rw [hsome hmx] at h; exact h3 h
  | sla h1 hn65 h2 h3 hx hlo hhi hmx =>
    obtain ⟨vx, hvx, he⟩ := Qa he
    have hx := Qs hx hf hvx
    have hsome : ∀ {x : Option Od} {X : Option Operand}, H3 x X → (X.map a.eval).isSome = x.isSome := fun {x X} h => by
      cases x with
      | none => have h : X = none := h; subst h; rfl
      | some x => obtain ⟨Y, rfl, _⟩ := h; rfl
    cases vx <;> try (cases he; done)
    obtain ⟨x, hxx, he⟩ := Qa he
    obtain ⟨y, hyy, he⟩ := Qa he
    obtain ⟨m, hmm, he⟩ := Qa he
    obtain ⟨ob, hob, he⟩ := Qa he
    cases ob <;> try (cases he; done)
    obtain ⟨hc, he⟩ := Qx he
    refine LV.value (sla_spec s hx hob (Nat.le_of_ble_eq_true hc) (Nat.le_trans hn65 (by decide)) he h1 h2 (Zu hf hlo hxx) (Zu hf hhi hyy) (Zu hf hmx hmm) (fun h => ?_))
    rw [hsome hhi]; rw [hsome hmx] at h; exact h3 h
  | fa h1 h2 h3 h4 h5 hx =>
    obtain ⟨vx, hvx, he⟩ := Qa he
    subst h3
    exact LV.value (fa_spec (Qs hx hf hvx) he h1 h2 h4 h5)
  | ia h1 h2 hx hi =>
    obtain ⟨vx, hvx, he⟩ := Qa he
    obtain ⟨vi, hvi, he⟩ := Qa he
    obtain ⟨i, hii, he⟩ := Qa he
    have hi := Qs hi hf hvi
    cases vi <;> try (cases hii; done)
    injection hii with hii; subst hii
    rw [VR] at hi
    refine LV.value ?_
    rw [hi]
    exact ia_spec (Qs hx hf hvx) he h1 h2
  | iap h1 h2 hx hi =>
    obtain ⟨vx, hvx, he⟩ := Qa he
    obtain ⟨vi, hvi, he⟩ := Qa he
    obtain ⟨i, hii, he⟩ := Qa he
    have hi := Qs hi hf hvi
    cases vi <;> try (cases hii; done)
    injection hii with hii; subst hii
    rw [VR] at hi
    refine LV.value ?_
    rw [hi]
    exact iap_spec (Qs hx hf hvx) he h1 h2
  | @maxi a' b' A' B' c' h1 h2 hx hy =>
    obtain ⟨vx, hvx, he⟩ := Qa he
    obtain ⟨vy, hvy, he⟩ := Qa he
    obtain ⟨v, g1, g2⟩ := LV.value (max_spec (P := P) (w := w) (ty := type) (ts := c'.argTypes) (Qs hx hf hvx) (Qs hy hf hvy) he)
    refine ⟨v, (Vx h1).trans (Eq.trans ?_ g1), g2⟩
    have : c'.args.map a.eval = #[a.eval A', a.eval B'] := by rw [← Array.toArray_toList (xs := c'.args.map a.eval), Array.toList_map, h2]; rfl
    rw [this]; rfl
  | @mini a' b' A' B' c' h1 h2 hx hy =>
    obtain ⟨vx, hvx, he⟩ := Qa he
    obtain ⟨vy, hvy, he⟩ := Qa he
    obtain ⟨v, g1, g2⟩ := LV.value (min_spec (P := P) (w := w) (ty := type) (ts := c'.argTypes) (Qs hx hf hvx) (Qs hy hf hvy) he)
    refine ⟨v, (Vx h1).trans (Eq.trans ?_ g1), g2⟩
    have : c'.args.map a.eval = #[a.eval A', a.eval B'] := by rw [← Array.toArray_toList (xs := c'.args.map a.eval), Array.toList_map, h2]; rfl
    rw [this]; rfl
  | load h1 h2 hx =>
    obtain ⟨vx, hvx, he⟩ := Qa he
    exact LV.value (Rh s (Qs hx hf hvx) he h1 h2)
  | lkp h1 h2 h3 h4 hm hk =>
    obtain ⟨vm, hvm, he⟩ := Qa he
    obtain ⟨vk, hvk, he⟩ := Qa he
    exact LV.value (lkp_spec s (Qs hm hf hvm) (Qs hk hf hvk) (h4 ι) he h1 h2 h3)
  | entry hx =>
    obtain ⟨vx, hvx, he⟩ := Qa he
    exact LV.value (H1 s (Qs hx hf hvx) he)
  | ta h1 h2 h3 hx =>
    obtain ⟨vx, hvx, he⟩ := Qa he
    exact LV.value (ta_spec (Qs hx hf hvx) he h1 h2 (fun h => ⟨(h3 h).1, (h3 h).2 ι⟩))
end
end Go.Ev
namespace Go.Ev
section
variable {P : Program} {Ck : CkT} {w₀ w : World} {K : Gd} {ι : Io} {h : H} {fr : Fm} {a : Act}
theorem CR.br {t : Tr AV} {zs : List AV} {n b : Nat} {cs : Array Value} {el : TypeId} (hc : CR ι t zs n cs) : BR Ck ι ⟨b, 0, cs.size, Zt zs⟩ (.cells t zs n) (.cells cs el) := by
  refine ⟨cs, el, 0, 0, rfl, rfl, by simp [hc.1], fun j hj => ?_, fun j hj => by omega, fun _ => ⟨rfl, rfl⟩, rfl, Nat.le_refl _⟩
  obtain ⟨a, v, e1, e2, e3⟩ := hc.2 j hj
  exact ⟨a, v, e1, by simpa using e2, e3⟩
theorem getN_e {α : Type} (k : Nat) : B6 (.e : Tr α) k = none := rfl
theorem C1 {zs : List AV} {vs : List Value} (hv : VRs ι zs vs) (h0 : zs ≠ []) (j : Nat) : ∃ a v, dflt zs j = some a ∧ vs[j % vs.length]? = some v ∧ VR ι a v := by
  have hlen := hv.len
  cases zs with
  | nil => exact absurd rfl h0
  | cons z r =>
    cases r with
    | nil =>
      rw [VRs] at hv
      obtain ⟨v, s, rfl, h1, h2⟩ := hv
      rw [VRs] at h2; subst h2
      exact ⟨z, v, rfl, by simp [Nat.mod_one], h1⟩
    | cons y r =>
      have hpos : 0 < (z :: y :: r).length := by simp
      have hlt : j % (z :: y :: r).length < (z :: y :: r).length := Nat.mod_lt _ hpos
      obtain ⟨v, e1, e2⟩ := hv.get (i := j % (z :: y :: r).length) (a := (z :: y :: r)[j % (z :: y :: r).length]) (by simp)
      refine ⟨_, v, ?_, by rw [hlen]; exact e1, e2⟩
      show nthE (z :: y :: r) (Nat.mod j (R7 (z :: y :: r))) = _
      rw [Rb, X4]
      show (z :: y :: r)[j % (z :: y :: r).length]? = _
      simp
theorem Bl {zs : List AV} {vz : Value} {z n : Nat} (hv : VRs ι zs vz.cells.toList) (hz : zs.length = z) (zero : Array Value) (h0 : zero = if n * z = 0 then #[] else vz.cells) : CR ι .e zs (n * z) ((Array.range (n * z)).map (zero[· % zero.size]!)) := by
  refine ⟨by simp, fun j hj => ?_⟩
  have hne : n * z ≠ 0 := by omega
  rw [if_neg hne] at h0
  subst h0
  have hzs : zs ≠ [] := fun e => by subst e; simp at hz; subst hz; simp at hne
  obtain ⟨a, v, e1, e2, e3⟩ := C1 hv hzs j
  refine ⟨a, v, by rw [Xf _ _ _ _ hj, getN_e]; exact e1, ?_, e3⟩
  simp only [Array.length_toList] at e2
  have e2 : vz.cells[j % vz.cells.size]? = some v := by simpa using e2
  rw [Array.getElem?_map]
  have : (Array.range (n * z))[j]? = some j := by simp [hj]
  rw [this]
  simp only [Option.map_some]
  congr 1
  rw [getElem!_def, e2]
theorem fill_any {place : Nat → Option (Nat × Nat)} {zs : List AV} {n : Nat} {qs : List (Nat × List AV)} {l : List (Nat × Value)} {t' : Tr AV} {cs : Array Value} {al : List AV} (h : PtOk ι place n qs l)
    (hf : lf (M := Tr AV → Option (Tr AV)) some (fun p _ ih t => bd (Em p.2 t p.1) ih) qs .e = some t') (hs : cs.size = n) (hl : Ua t' [] n n 0 = some al) : ∃ cs', Instr.fill place cs l = some cs' ∧ CR ι t' zs n cs' := by
  have key : ∀ {qs : List (Nat × List AV)} {l : List (Nat × Value)} {t t' : Tr AV} {cs : Array Value}, PtOk ι place n qs l → lf (M := Tr AV → Option (Tr AV)) some (fun p _ ih t => bd (Em p.2 t p.1) ih) qs t = some t' → cs.size = n →
      (∀ j a, B6 t j = some a → j < n → ∃ v, cs[j]? = some v ∧ VR ι a v) → ∃ cs', Instr.fill place cs l = some cs' ∧ cs'.size = n ∧ ∀ j a, B6 t' j = some a → j < n → ∃ v, cs'[j]? = some v ∧ VR ι a v := by
    intro qs
    induction qs with
    | nil =>
      intro l t t' cs h hf hs hk
      have h : l = [] := h
      subst h
      have hf : some t = some t' := hf
      injection hf with hf; subst hf
      exact ⟨cs, rfl, hs, hk⟩
    | cons q qs ih =>
      intro l t t' cs h hf hs hk
      obtain ⟨i, v, s, sz, rfl, h1, h2, h3, h4, h5⟩ := h
      obtain ⟨t1, ht1, hf⟩ := Qa (x := Em q.2 t q.1) hf
      have hlen := h4.len
      simp only [Array.length_toList] at hlen
      have hf2 : v.cells.zipIdx.foldl (fun (cs : Array Value) (x : Value × Nat) => cs.setIfInBounds (q.1 + x.2) x.1) cs = (v.cells.toList.zipIdx).foldl (fun (cs : Array Value) (x : Value × Nat) => cs.setIfInBounds (q.1 + x.2) x.1) cs := by
        rw [← Array.foldl_toList]; simp
      have hsz : ∀ (m : List (Value × Nat)) (cs : Array Value), (m.foldl (fun (cs : Array Value) (x : Value × Nat) => cs.setIfInBounds (q.1 + x.2) x.1) cs).size = cs.size := by
        intro m
        induction m with
        | nil => intro cs; rfl
        | cons a m ih => intro cs; simp [ih]
      obtain ⟨cs', g1, g2⟩ := ih (cs := v.cells.zipIdx.foldl (fun (cs : Array Value) (x : Value × Nat) => cs.setIfInBounds (q.1 + x.2) x.1) cs) h5 hf (by rw [hf2, hsz]; exact hs) (fun j a hj hjn => by
        rw [X3 _ _ _ _ ht1 j] at hj
        rw [hf2, Jz q.1 v.cells.toList 0 cs j]
        simp only [Nat.add_zero, Array.length_toList]
        by_cases c : q.1 ≤ j ∧ j < q.1 + q.2.length
        · rw [if_pos c] at hj
          rw [if_pos ⟨c.1, by omega, by omega⟩]
          obtain ⟨u, e1, e2⟩ := h4.get hj
          exact ⟨u, e1, e2⟩
        · rw [if_neg c] at hj
          rw [if_neg (by omega)]
          exact hk j a hj hjn)
      refine ⟨cs', ?_, g2⟩
      simp only [Instr.fill, h1, ne_eq]
      rw [if_neg (by simp; omega)]
      exact g1
  obtain ⟨cs', g1, g2, g3⟩ := key h hf hs (fun j a hj _ => by rw [getN_e] at hj; cases hj)
  refine ⟨cs', g1, g2, fun j hj => ?_⟩
  obtain ⟨_, e2⟩ := Ye t' [] n n 0 al hl
  have hlen := (Ye t' [] n n 0 al hl).1
  have e3 := e2 j al[j] (by simp)
  rw [Nat.zero_add, Xf _ _ _ _ hj] at e3
  cases hg : B6 t' j with
  | none => rw [hg] at e3; cases e3
  | some b =>
    obtain ⟨v, g4, g5⟩ := g3 j b hg hj
    exact ⟨b, v, by rw [Xf _ _ _ _ hj, hg], g4, g5⟩
def BY (P : Program) (t : TypeId) (b : Nat) : Prop := (P.info? t).map (·.bytes) = some b
inductive KOk (P : Program) : KOp → Op → Prop
  | alloc {z e vz} : ZR P e vz → (∀ ι, VRs ι z vz.cells.toList) → KOk P (.alloc z) (.alloc e)
  | box {x e X} : OdR x X → KOk P (.box x) (.box e X)
  | bsl {n z zs ps t e vz parts} : P.underlying t = some (.slice e) → SZ P e z → n * z ≤ 2 ^ 24 → n ≤ 65536 → ZR P e vz → (∀ ι, VRs ι zs vz.cells.toList) → zs.length = z → PsR (ArPl z) (n * z) ps parts.toList → KOk P (.bsl n z zs ps) (.buildSlice t n parts)
  | bslm {n z ps t e vz parts} : P.underlying t = some (.slice e) → SZ P e z → n * z ≤ 2 ^ 24 → n ≤ 65536 → ZR P e vz → vz.cells.size = z → PsR (ArPl z) (n * z) ps parts.toList → KOk P (.bslm n z ps) (.buildSlice t n parts)
  | mkm {x t k e X} : P.underlying t = some (.map k e) → H3 x X → KOk P (.mkm x) (.makeMap t X)
  | mks {l c z zs t e vz b L C} : P.underlying t = some (.slice e) → SZ P e z → BY P e b → b ≤ 4294967296 → ZR P e vz → (∀ ι, VRs ι zs vz.cells.toList) → zs.length = z → OdR l L → OdR c C → KOk P (.mks l c z zs) (.makeSlice t L C)
  | rng {x t k e X} : P.underlying t = some (.map k e) → OdR x X → KOk P (.rng x) (.range t X)
  | stb {x s d e X} : P.underlying s = some .string → P.underlying d = some (.slice e) → P.underlying e = some (.int .u8) → OdR x X → KOk P (.stb x) (.convert s d X)
def Gm (Ck : CkT) (P : Program) (ι : Io) (X : Sem Next) (w : World) (x : AO × (Pa → AV)) : Prop :=
  ∃ obj v w₁ sz m, X.run P w = .ok (.value v) w₁ ∧ w₁.heap = w.heap.push obj ∧ w₁.os = w.os ∧ w₁.tape = w.tape ∧ w₁.output = w.output ∧ BR Ck ι ⟨w.heap.size, 0, sz, m⟩ x.1 obj ∧ ∀ κ y, κ y = some ⟨w.heap.size, 0, sz, m⟩ → VR κ (x.2 y) v
theorem Gm.of {X : Sem Value} {x : AO × (Pa → AV)} {obj : Obj} {v : Value} {w₁ : World} {sz : Nat} {m : Bool} (h : X.run P w = .ok v w₁) (h1 : w₁.heap = w.heap.push obj) (h2 : w₁.os = w.os) (h3 : w₁.tape = w.tape) (h4 : w₁.output = w.output)
    (h5 : BR Ck ι ⟨w.heap.size, 0, sz, m⟩ x.1 obj) (h6 : ∀ κ y, κ y = some ⟨w.heap.size, 0, sz, m⟩ → VR κ (x.2 y) v) : Gm Ck P ι (do pure (Next.value (← X))) w x :=
  ⟨obj, v, w₁, sz, m, by simp [h], h1, h2, h3, h4, h5, h6⟩
def rngOp : KOp → Bool | .rng _ => true | _ => false
theorem Fc {α : Type} (a : Array α) (o : α) (f : α → α) : (a.push o).modify a.size f = a.push (f o) := by
  apply Array.ext
  · simp
  · intro i h1 h2
    simp only [Array.getElem_modify, Array.getElem_push]
    by_cases h : a.size = i
    · subst h; simp
    · have : i < a.size := by simp at h1; omega
      simp [h, this]
theorem N5 (e : TypeId) (s : ByteArray) : ∃ (cap : Nat) (row : Array Value), s.size ≤ cap ∧ (s.size ≤ 65536 → cap ≤ maxLen) ∧ row.size = cap ∧ row = s.data.map (fun b => Value.int .u8 b.toNat) ++ Array.replicate (cap - s.size) (.int .u8 0) ∧
    (Conv.stringToBytes e s).run P w = .ok (.slice (some ⟨w.heap.size, 0, none⟩) s.size cap) { w with drawn := w.drawn + 1, heap := w.heap.push (.cells row e (cap, cap + 1)) } := by
  obtain ⟨cap, hc⟩ : ∃ cap, cap = (Question.appendCap s.size 0 e).cut (w.tape w.drawn (Question.appendCap s.size 0 e)) := ⟨_, rfl⟩
  obtain ⟨row, hr⟩ : ∃ row : Array Value, row = s.data.map (fun b => Value.int .u8 b.toNat) ++ Array.replicate (cap - s.size) (.int .u8 0) := ⟨_, rfl⟩
  have hcap : s.size ≤ cap := by rw [hc]; simp only [Question.cut]; omega
  have hrow : row.size = cap := by
    rw [hr]
    simp only [Array.size_append, Array.size_map, Array.size_replicate]
    have : s.data.size = s.size := rfl
    omega
  refine ⟨cap, row, hcap, fun hsm => ?_, hrow, hr, ?_⟩
  · rw [hc]; simp only [Question.cut, maxLen]; have := Nat.mod_lt (w.tape w.drawn (Question.appendCap s.size 0 e)) (show 0 < 2 ^ 63 - s.size by omega); omega
  have hq : (Question.appendCap s.size 0 e).forced = false := rfl
  simp only [Conv.stringToBytes, Sem.run_bind, run_choose, hq, Bool.false_eq_true, if_false, Result.andThen_ok, ← hc, ← hr, newRow, run_newObj, Sem.run_pure, markStringish, run_shape]
  have hsh : World.shape? { w with heap := w.heap.push (.cells row e (0, 0)), drawn := w.drawn + 1 } w.heap.size = some (e, cap) := by
    simp [World.shape?, hrow]
  simp only [hsh, run_freeze, Result.andThen_ok, Sem.run_pure]
  congr 1
  simp only [World.freeze, Nat.one_ne_zero, if_false, Fc]
  simp
theorem Dq (hf : FR ι fr a.tmps) {ko : KOp} {o : Oper} {x : AO × (Pa → AV)} (hok : KOk P ko o.op) (hr : rngOp ko = false) (he : kE ko fr h = some x) : Gm Ck P ι (execOp a.eval o) w x := by
  obtain ⟨dst, op, type, pos, after, guard⟩ := o
  simp only at hok
  cases hok with
  | @alloc z e' vz h1 h2 =>
    have he : bd (Fy z) (fun n => some (AO.cells .e z n, fun x => AV.p x 0)) = some x := he
    rw [Jg] at he
    injection he with he; subst he
    refine .of (v := .pointer (some ⟨w.heap.size, 0, none⟩)) (w₁ := { w with heap := w.heap.push (.cells vz.cells e') }) (sz := vz.cells.size) (m := Zt z) (by simp [Instr.alloc, Vn h1, newVar, newRow]) rfl rfl rfl rfl ?_ (fun κ y hy => by rw [VR]; exact ⟨_, hy, rfl⟩)
    refine CR.br (t := .e) (zs := z) (n := z.length) ⟨by have := (h2 ι).len; simpa using this, fun j hj => ?_⟩
    obtain ⟨b, v, e1, e2, e3⟩ := C1 (h2 ι) (fun e => by subst e; simp at hj) j
    refine ⟨b, v, by rw [Xf _ _ _ _ hj, getN_e]; exact e1, ?_, e3⟩
    rw [(h2 ι).len, Nat.mod_eq_of_lt hj] at e2
    simpa using e2
  | @box x' e' X' hx =>
    obtain ⟨u, hu, he⟩ := Qa he
    obtain ⟨t, ht, he⟩ := Qa he
    obtain ⟨n, hn, he⟩ := Qa he
    rw [Jg] at hn; injection hn with hn; subst hn
    injection he with he; subst he
    have hv := U5 (Qs hx hf hu)
    exact .of (v := .pointer (some ⟨w.heap.size, 0, none⟩)) (w₁ := { w with heap := w.heap.push (.cells (a.eval X').cells e') }) (by simp [Instr.box, newVar, newRow]) rfl rfl rfl rfl (Fb ht hv).br (fun κ y hy => by rw [VR]; exact ⟨_, hy, rfl⟩)
  | @bsl n z zs ps t e vz parts h1 h2 h3 hn65 h4 h5 h6 h7 =>
    obtain ⟨qs, hq, he⟩ := Qa he
    obtain ⟨tr, htr, he⟩ := Qa he
    obtain ⟨k, hk, he⟩ := Qa he
    have hk : some (n * z) = some k := hk
    injection hk with hk; subst hk
    injection he with he; subst he
    have htr : lf (M := Tr AV → Option (Tr AV)) some (fun p _ ih t => bd (Em p.2 t p.1) ih) qs .e = some tr := htr
    have hps := Um hf (pl := fun i => some (i * z, z)) (fun i off sz h => by obtain ⟨rfl, rfl⟩ := h; rfl) h7 hq
    have hps : PtOk ι (fun i => some (i * z, z)) (n * z) qs (parts.map fun (i, x) => (i, a.eval x)).toList := by simpa using hps
    obtain ⟨cs, g1, g2⟩ := No hps htr (Bl (h5 ι) h6 _ rfl)
    have hbig : ¬ (n * z > 2 ^ 24) := by omega
    refine .of (v := .slice (some ⟨w.heap.size, 0, none⟩) n n) (w₁ := { w with heap := w.heap.push (.cells cs e) }) ?_ rfl rfl rfl rfl g2.br (fun κ y hy => by
      rw [VR]; exact ⟨_, 0, n, hy, rfl, ⟨Nat.le_refl _, Nat.le_trans hn65 (by decide)⟩, Nat.le_refl _, fun _ => rfl, by rw [g2.1]; simp, .inl rfl⟩)
    simp only [Instr.buildSlice, Sem.run_bind, run_underlying h1, Result.andThen_ok, Q6 h2, if_neg hbig, Sem.run_pure]
    by_cases hz : n * z = 0
    · rw [if_pos hz] at g1
      simp only [if_pos hz, Sem.run_pure, Result.andThen_ok, g1, newRow, Sem.run_bind, run_newObj]
    · rw [if_neg hz] at g1
      simp only [if_neg hz, Sem.run_bind, Vn h4, Sem.run_pure, Result.andThen_ok, g1, newRow, run_newObj]
  | @bslm n z ps t e vz parts h1 h2 h3 hn65 h4 h6 h7 =>
    obtain ⟨qs, hq, he⟩ := Qa he
    obtain ⟨tr, htr, he⟩ := Qa he
    have he : bd (Ua tr [] (n * z) (n * z) 0) (fun _ => some (AO.cells tr [.pn] (n * z), fun x => AV.sl x 0 n n true z)) = some x := he
    obtain ⟨l, hl, he⟩ := Qa he
    injection he with he; subst he
    have htr : lf (M := Tr AV → Option (Tr AV)) some (fun p _ ih t => bd (Em p.2 t p.1) ih) qs .e = some tr := htr
    have hps := Um hf (pl := fun i => some (i * z, z)) (fun i off sz h => by obtain ⟨rfl, rfl⟩ := h; rfl) h7 hq
    have hps : PtOk ι (fun i => some (i * z, z)) (n * z) qs (parts.map fun (i, x) => (i, a.eval x)).toList := by simpa using hps
    obtain ⟨cs, g1, g2⟩ := fill_any hps htr (cs := (Array.range (n * z)).map ((if n * z = 0 then #[] else vz.cells)[· % (if n * z = 0 then #[] else vz.cells).size]!)) (by simp) hl
    have hbig : ¬ (n * z > 2 ^ 24) := by omega
    refine .of (v := .slice (some ⟨w.heap.size, 0, none⟩) n n) (w₁ := { w with heap := w.heap.push (.cells cs e) }) ?_ rfl rfl rfl rfl g2.br (fun κ y hy => by
      rw [VR]; exact ⟨_, 0, n, hy, rfl, ⟨Nat.le_refl _, Nat.le_trans hn65 (by decide)⟩, Nat.le_refl _, fun _ => rfl, by rw [g2.1]; simp, .inl rfl⟩)
    simp only [Instr.buildSlice, Sem.run_bind, run_underlying h1, Result.andThen_ok, Q6 h2, if_neg hbig, Sem.run_pure]
    by_cases hz : n * z = 0
    · rw [if_pos hz] at g1
      simp only [if_pos hz, Sem.run_pure, Result.andThen_ok, g1, newRow, Sem.run_bind, run_newObj]
    · rw [if_neg hz] at g1
      simp only [if_neg hz, Sem.run_bind, Vn h4, Sem.run_pure, Result.andThen_ok, g1, newRow, run_newObj]
  | mkm h1 hx =>
    obtain ⟨n, hn, he⟩ := Qa he
    injection he with he; subst he
    have hb := Zu hf hx hn
    refine .of (v := .map (some w.heap.size)) (w₁ := { w with heap := w.heap.push (.map #[] 0) }) (sz := 0) (m := false) ?_ rfl rfl rfl rfl ⟨#[], rfl, rfl⟩ (fun κ y hy => by rw [VR]; exact ⟨_, hy, rfl⟩)
    rename_i X
    cases X with
    | none => simp [Instr.makeMap]
    | some X =>
      obtain ⟨k, hk⟩ := hb
      simp [Instr.makeMap, run_underlying h1, asInt, asIntOf, hk]
  | @mks l c z zs t e vz b L C h1 h2 h3 h4 h5 h6 h7 hl hc =>
    obtain ⟨vl, hvl, he⟩ := Qa he
    obtain ⟨l', hl', he⟩ := Qa he
    obtain ⟨vc, hvc, he⟩ := Qa he
    obtain ⟨c', hc', he⟩ := Qa he
    obtain ⟨hb, he⟩ := Qx he
    obtain ⟨k, hk, he⟩ := Qa he
    have hk : some (c' * z) = some k := hk
    injection hk with hk; subst hk
    injection he with he; subst he
    obtain ⟨b1, b2⟩ := Q2 hb
    have b1 : l' ≤ c' := Nat.le_of_ble_eq_true b1
    have b2 : c' ≤ 65536 := Nat.le_of_ble_eq_true b2
    have hl := Qs hl hf hvl
    have hc := Qs hc hf hvc
    cases vl <;> try (cases hl'; done)
    cases vc <;> try (cases hc'; done)
    have := Vv hl'; subst this
    have := Vv hc'; subst this
    rw [VR] at hl hc
    have hcr := Bl (n := c') (h6 ι) h7 _ rfl
    refine .of (v := .slice (some ⟨w.heap.size, 0, none⟩) l' c') (w₁ := { w with heap := w.heap.push (.cells _ e) }) ?_ rfl rfl rfl rfl hcr.br (fun κ y hy => by
      rw [VR]; exact ⟨_, 0, c', hy, rfl, ⟨Nat.le_refl _, Nat.le_trans b2 (by decide)⟩, b1, fun _ => rfl, by simp, .inl rfl⟩)
    obtain ⟨i, hi, hbi⟩ : ∃ i, P.info? e = some i ∧ i.bytes = b := by
      unfold BY at h3
      cases hi : P.info? e with
      | none => rw [hi] at h3; cases h3
      | some i => rw [hi] at h3; injection h3 with h3; exact ⟨i, rfl, h3⟩
    have wr : ∀ n : Nat, n ≤ 65536 → IntKind.i64.wrap (n : Int) = n := fun n hn => by simp only [IntKind.wrap, IntKind.bits, IntKind.signed]; simp; omega
    have hmul : (b : Int) * (c' : Int) ≤ 2 ^ 48 := by
      have : b * c' ≤ 4294967296 * 65536 := Nat.mul_le_mul h4 b2
      have h' : ((b * c' : Nat) : Int) ≤ ((4294967296 * 65536 : Nat) : Int) := Int.ofNat_le.2 this
      simpa using h'
    have e1 : (decide ((c' : Int) < 0) || decide ((b : Int) * (c' : Int) > 2 ^ 48)) = false := by rw [Bool.or_eq_false_iff]; exact ⟨decide_eq_false (by omega), decide_eq_false (by omega)⟩
    have e2 : decide ((l' : Int) < 0) = false := decide_eq_false (by omega)
    have e3 : decide ((l' : Int) > (c' : Int)) = false := decide_eq_false (by omega)
    simp only [Instr.makeSlice, Sem.run_bind, run_underlying h1, Result.andThen_ok, asInt, asIntOf, hl, hc, Sem.run_pure, Xg hi, hbi, wr l' (by omega), wr c' b2, e1, e2, e3, Bool.or_false, Bool.false_eq_true, if_false, run_askRoom, Q6 h2, Int.toNat_natCast]
    by_cases hz : c' * z = 0
    · simp only [if_pos hz, Sem.run_pure, Result.andThen_ok, newRow, Sem.run_bind, run_newObj]
    · simp only [if_neg hz, Sem.run_bind, Vn h5, Sem.run_pure, Result.andThen_ok, newRow, run_newObj]
  | rng => cases hr
  | @stb x s d e X h1 h2 h3 hx =>
    obtain ⟨u, hu, he⟩ := Qa he
    have hv := Qs hx hf hu
    cases u <;> try (cases he; done)
    rename_i l
    obtain ⟨cs, hcs, he⟩ := Qa he
    obtain ⟨t, ht, he⟩ := Qa he
    obtain ⟨n, hn, he⟩ := Qa he
    rw [Jg] at hn; injection hn with hn; subst hn
    obtain ⟨hsm, he⟩ := Qx he
    injection he with he; subst he
    rw [VR] at hv
    obtain ⟨hv, hb⟩ := hv
    obtain ⟨m1, m2⟩ := Rc hcs
    have hls : (Xa l).size = l.length := Xt l
    obtain ⟨cap, row, hcap, hcm, hrow, hrw, hrun⟩ := N5 (P := P) (w := w) e (Xa l)
    refine .of (v := .slice (some ⟨w.heap.size, 0, none⟩) l.length cap) (w₁ := { w with drawn := w.drawn + 1, heap := w.heap.push (.cells row e (cap, cap + 1)) }) (obj := .cells row e (cap, cap + 1)) (sz := cap) (m := true) ?_ rfl rfl rfl rfl ?_ (fun κ y hy => by
      rw [VR]; exact ⟨_, 0, cap, hy, rfl, ⟨by omega, hcm (by have := Nat.le_of_ble_eq_true hsm; omega)⟩, Nat.le_refl _, fun h => (by cases h), by simp, .inl rfl⟩)
    · rw [hv]
      simp only [convert, Sem.run_bind, run_underlying h1, run_underlying h2, run_underlying h3, Result.andThen_ok, hrun, hls]
    · refine ⟨row, e, cap, cap + 1, rfl, hrow, by simp; omega, fun j hj => ?_, fun j hj => by simp at hj; omega, fun h => (by cases h), rfl, Nat.le_succ _⟩
      have hg := X3 cs .e 0 t ht j
      have hjl : j < cs.length := by omega
      obtain ⟨c, g1, g2⟩ := m2 j l[j] (by simp [hj])
      injection g2 with g2
      refine ⟨c, .int .u8 l[j], ?_, ?_, by rw [← g2, VR]; rfl⟩
      · rw [Xf _ _ _ _ hj, hg, if_pos (by omega)]
        simp [g1]
      · rw [hrw, Nat.zero_add, Array.getElem?_append_left (by simp [Xa]; omega)]
        have : (Xa l).data[j]? = some (UInt8.ofNat l[j]) := by simp [Xa, hj]
        rw [Array.getElem?_map, this]
        have hlt := hb l[j] (by simp)
        simp [Nat.mod_eq_of_lt hlt]
end
end Go.Ev
namespace Go.Ev
def RA {α : Type} (r : Rs α) (S : α → Prop) : Prop := match r with | .z => False | .one a => S a | .many l => ∀ a ∈ l, S a
theorem RA.mono {α : Type} {r : Rs α} {S T : α → Prop} (h : RA r S) (hs : ∀ a, S a → T a) : RA r T := by
  cases r with
  | z => exact h
  | one a => exact hs a h
  | many l => exact fun a ha => hs a (h a ha)
theorem Q0 {α β : Type} {x : Option α} {f : α → Rs β} {S : β → Prop} (h : RA (ob x f) S) : ∃ a, x = some a ∧ RA (f a) S := by
  cases x with
  | none => exact h.elim
  | some a => exact ⟨a, rfl, h⟩
theorem Y8 {α : Type} {c : Bool} {x : Rs α} {S : α → Prop} (h : RA (Vd c x .z) S) : c = true ∧ RA x S := by
  cases c
  · exact h.elim
  · exact ⟨rfl, h⟩
theorem appE_eq {α : Type} (m : List α) : ∀ l : List α, appE l m = l ++ m
  | [] => rfl
  | a :: l => by
    show a :: appE l m = _
    rw [appE_eq m l]; rfl
theorem RA_all {α β : Type} {f : α → Rs β} {l : List α} {S : β → Prop} (h : RA (Rs.all f l) S) : ∀ a ∈ l, RA (f a) S := by
  have toL : ∀ {r : Rs β} {x : List β}, Gj r = some x → (∀ o ∈ x, S o) → RA r S := by
    intro r x hr hs
    cases r with
    | z => cases hr
    | one a => injection hr with hr; subst hr; exact hs a (by simp)
    | many m => injection hr with hr; subst hr; exact hs
  have key : ∀ {l : List α} {L : List β}, lf (M := Option (List β)) (some []) (fun a _ ih => bd (Gj (f a)) fun x => bd ih fun r => some (appE x r)) l = some L → (∀ o ∈ L, S o) → ∀ a ∈ l, RA (f a) S := by
    intro l
    induction l with
    | nil => intro L _ _ a ha; simp at ha
    | cons b l ih =>
      intro L hL hs a ha
      obtain ⟨x, hx, hL⟩ := Qa (x := Gj (f b)) hL
      obtain ⟨r, hr, hL⟩ := Qa (x := lf (M := Option (List β)) (some []) (fun a _ ih => bd (Gj (f a)) fun x => bd ih fun r => some (appE x r)) l) hL
      injection hL with hL; subst hL
      rw [appE_eq] at hs
      rcases List.mem_cons.1 ha with rfl | ha
      · exact toL hx (fun o ho => hs o (by simp [ho]))
      · exact ih hr (fun o ho => hs o (by simp [ho])) a ha
  unfold Rs.all at h
  generalize hc : lf (M := Option (List β)) (some []) (fun a _ ih => bd (Gj (f a)) fun x => bd ih fun r => some (appE x r)) l = c at h
  cases c with
  | none => exact h.elim
  | some L =>
    refine key hc ?_
    cases L with
    | nil => exact h.elim
    | cons a L => cases L with
      | nil => intro o ho; simp at ho; subst ho; exact h
      | cons b L => exact h
theorem Yw {α β : Type} {x : Rs α} {f : α → Rs β} {S : β → Prop} (h : RA (Fx x f) S) : RA x fun a => RA (f a) S := by
  cases x with
  | z => exact h
  | one a => exact h
  | many l => exact RA_all h
structure Ext (h h' : H) (ι κ : Io) : Prop where
  le : ι.le κ
  nx : h.nx.dec ≤ h'.nx.dec
  old : ∀ x : Pa, x.dec < h.nx.dec → ι x = none → κ x = none
theorem Ext.same {h h' : H} {ι : Io} (e : h'.nx = h.nx) : Ext h h' ι ι := ⟨Io.le_refl ι, by rw [e]; exact Nat.le_refl _, fun _ _ hx => hx⟩
theorem Ext.trans {h h' h'' : H} {ι κ μ : Io} (a : Ext h h' ι κ) (b : Ext h' h'' κ μ) : Ext h h'' ι μ := ⟨Io.le_trans a.le b.le, Nat.le_trans a.nx b.nx, fun x hx hn => b.old x (Nat.lt_of_lt_of_le hx a.nx) (a.old x hx hn)⟩
theorem N6 {h h' : H} {ob : AO} (hn : Ij ob h = some h') : h'.nx.dec = h.nx.dec + 1 := by
  obtain ⟨ro, rw', nx⟩ := h
  obtain ⟨rw2, n1, hn⟩ := Qa (x := Nu (some ob) nx rw') hn
  obtain ⟨nx2, n2, hn⟩ := Qa hn
  injection hn with hn; subst hn
  exact Zg n2
theorem Ext.set {h h' : H} {ι : Io} {p : Pl} (hle : ι.le (ι.set h.nx p)) (hn : h.nx.dec ≤ h'.nx.dec) : Ext h h' ι (ι.set h.nx p) := ⟨hle, hn, fun x hx hi => by
  have : x ≠ h.nx := fun e => by subst e; omega
  rw [Ql this]; exact hi⟩
theorem Ext.eqs {h h1 h' : H} {ι κ : Io} (e : Ext h1 h' ι κ) (hn : h1.nx = h.nx) : Ext h h' ι κ := ⟨e.le, by rw [← hn]; exact e.nx, by rw [← hn]; exact e.old⟩
theorem C2 {h h' : H} {x : Pa} {o : Nat} {l : List AV} (hs : stE x o l h = some h') : h'.nx = h.nx := by
  obtain ⟨ro, rw', nx⟩ := h
  obtain ⟨ob, ha, hs⟩ := Qa (x := Q5 x rw') hs
  cases ob with
  | cells t zs n =>
    obtain ⟨hc, hs⟩ := Qx hs
    obtain ⟨t', ht, hs⟩ := Qa hs
    obtain ⟨r, hr, hs⟩ := Qa hs
    have hs : some (⟨ro, r, nx⟩ : H) = some h' := hs
    injection hs with hs; subst hs; rfl
  | _ => cases hs
theorem wrE_nx {h h' : H} {x : Pa} {o : Nat} {l : List AV} (hs : wrE x o l h = some h') : h'.nx = h.nx := by
  obtain ⟨ro, rw', nx⟩ := h
  obtain ⟨ob, ha, hs⟩ := Qa (x := Q5 x rw') hs
  cases ob with
  | cells t zs n =>
    obtain ⟨hc, hs⟩ := Qx hs
    obtain ⟨n', hn, hs⟩ := Qa hs
    obtain ⟨t', ht, hs⟩ := Qa hs
    obtain ⟨r, hr, hs⟩ := Qa hs
    have hs : some (⟨ro, r, nx⟩ : H) = some h' := hs
    injection hs with hs; subst hs; rfl
  | _ => cases hs
section
variable {P : Program} {Ck : CkT} {w₀ w : World} {K : Gd} {ι : Io} {h h' : H}
theorem SR.same {w' : World} (s : SR Ck w₀ K ι h w) (h1 : w'.heap = w.heap) (h2 : w'.os = w.os) (h3 : w'.tape = w.tape) (h4 : w'.output = w.output) : SR Ck w₀ K ι h w' :=
  ⟨h2.trans s.os, h3.trans s.tape, h4.trans s.output, fun c o hc => by rw [h1]; exact s.gd c o hc, fun x a hx => by rw [h1]; exact s.rw x a hx, s.ro, s.inj, s.injo, s.new, fun x p hx => by rw [h1]; exact s.lt x p hx, s.one⟩
theorem Jp {x : Pa} (h1 : Gr x h = some h') : (∃ a, Q5 x h.rw = some a) ∧ h'.ro = h.ro ∧ h'.nx = h.nx ∧ ∀ y, Q5 y h'.rw = (open Classical in if y = x then none else Q5 y h.rw) := by
  obtain ⟨ro, rw', nx⟩ := h
  obtain ⟨a, ha, h1⟩ := Qa (x := Q5 x rw') h1
  obtain ⟨rw2, h2, h1⟩ := Qa (x := Nu none x rw') h1
  injection h1 with h1; subst h1
  exact ⟨⟨a, ha⟩, rfl, rfl, fun y => V6 _ _ _ _ h2 y⟩
open Classical in
theorem SR.steal (s : SR Ck w₀ K ι h w) {x : Pa} {a ob : AO} {h1 h2 : H} {p q : Pl} {w' : World} {o : Obj} (ha : Q5 x h.rw = some a) (hp : ι x = some p) (hd : Gr x h = some h1) (hn : Ij ob h1 = some h2) (hq : q.cb = p.cb) (hqb : q.by' = p.by')
    (hb : BR Ck (ι.set h.nx q) q ob o) (e1 : w'.os = w.os) (e2 : w'.tape = w.tape) (e3 : w'.output = w.output) (e4 : w'.heap.size = w.heap.size) (e5 : w'.heap[p.cb]? = some o) (e6 : ∀ c, c ≠ p.cb → w'.heap[c]? = w.heap[c]?) :
    ι.le (ι.set h.nx q) ∧ SR Ck w₀ K (ι.set h.nx q) h2 w' := by
  obtain ⟨_, d1, d2, d3⟩ := Jp hd
  obtain ⟨ro, rw', nx⟩ := h
  obtain ⟨ro1, rw1, nx1⟩ := h1
  simp only at d1 d2 d3 ha hb ⊢
  have d1 : ro = ro1 := d1.symm
  have d2 : nx = nx1 := d2.symm
  subst d1; subst d2
  obtain ⟨rw2, n1, hn⟩ := Qa (x := Nu (some ob) nx rw1) hn
  obtain ⟨nx2, n2, hn⟩ := Qa hn
  injection hn with hn; subst hn
  have hset := V6 _ _ _ _ n1
  have hsucc := Zg n2
  have hnone : ι nx = none := s.new nx (Nat.le_refl _)
  have hle : ι.le (ι.set nx q) := Xz hnone
  obtain ⟨p', o0, q1, q2, q3, q4⟩ := s.rw x a ha
  rw [hp] at q1; injection q1 with q1; subst q1
  have live : ∀ y b, Q5 y rw1 = some b → y ≠ x ∧ Q5 y rw' = some b := fun y b hy => by
    rw [d3 y] at hy
    by_cases e : y = x
    · simp [e] at hy
    · exact ⟨e, by simpa [e] using hy⟩
  have other : ∀ y b r, Q5 y rw1 = some b → ι y = some r → r.cb ≠ p.cb := fun y b r hy hr he => by
    obtain ⟨e, hy⟩ := live y b hy
    exact e (s.inj y x r p (by show (Q5 y rw').isSome = true; rw [hy]; rfl) (by show (Q5 x rw').isSome = true; rw [ha]; rfl) hr hp he)
  have old : ∀ y, (Q5 y rw1).isSome = true → y ≠ nx := fun y hy e => by
    subst e
    cases hg : Q5 y rw1 with
    | none => rw [hg] at hy; cases hy
    | some b => obtain ⟨_, hg⟩ := live y b hg; obtain ⟨r, _, hr, _⟩ := s.rw y b hg; rw [hnone] at hr; cases hr
  refine ⟨hle, ⟨e1.trans s.os, e2.trans s.tape, e3.trans s.output, fun c v hc => ?_, ?_, ?_, ?_, ?_, ?_, ?_, ?_⟩⟩
  · have : c ≠ p.cb := fun e => by subst e; rw [q3] at hc; cases hc
    exact (e6 c this).trans (s.gd c v hc)
  · intro y b hy
    rw [hset y] at hy
    by_cases e : y = nx
    · subst e
      simp at hy; subst hy
      exact ⟨q, o, Qw _ _ _, by rw [hq]; exact e5, by rw [hq]; exact q3, hb⟩
    · simp only [e, if_false] at hy
      obtain ⟨_, hy'⟩ := live y b hy
      obtain ⟨r, c, r1, r2, r3, r4⟩ := s.rw y b hy'
      exact ⟨r, c, hle _ _ r1, (e6 _ (other y b r hy r1)).trans r2, r3, r4.mono hle⟩
  · intro y b hy
    obtain ⟨r, c, r1, r2, r3⟩ := s.ro y b hy
    exact ⟨r, c, hle _ _ r1, r2, r3.mono hle⟩
  · intro y z r t hy hz hr ht hrt
    rw [hset y] at hy; rw [hset z] at hz
    by_cases ey : y = nx <;> by_cases ez : z = nx
    · rw [ey, ez]
    · subst ey
      simp only [ez, if_false] at hz
      rw [Qw] at hr; injection hr with hr; subst hr
      rw [Ql ez] at ht
      cases hg : Q5 z rw1 with
      | none => rw [hg] at hz; cases hz
      | some b => exact absurd (hrt.symm.trans hq) (other z b t hg ht)
    · subst ez
      simp only [ey, if_false] at hy
      rw [Qw] at ht; injection ht with ht; subst ht
      rw [Ql ey] at hr
      cases hg : Q5 y rw1 with
      | none => rw [hg] at hy; cases hy
      | some b => exact absurd (hrt.trans hq) (other y b r hg hr)
    · simp only [ey, ez, if_false] at hy hz
      rw [Ql ey] at hr; rw [Ql ez] at ht
      have l1 : (Q5 y rw').isSome = true := by
        cases hg : Q5 y rw1 with
        | none => rw [hg] at hy; cases hy
        | some b => rw [(live y b hg).2]; rfl
      have l2 : (Q5 z rw').isSome = true := by
        cases hg : Q5 z rw1 with
        | none => rw [hg] at hz; cases hz
        | some b => rw [(live z b hg).2]; rfl
      exact s.inj y z r t l1 l2 hr ht hrt
  · intro y z r t hy hz hr ht hrt
    have ne : ∀ z, (Q5 z ro).isSome → z ≠ nx := fun z hz e => by
      subst e
      cases hg : Q5 z ro with
      | none => rw [hg] at hz; cases hz
      | some a => obtain ⟨q, _, hq, _⟩ := s.ro z a hg; rw [hnone] at hq; cases hq
    rw [Ql (ne y hy)] at hr; rw [Ql (ne z hz)] at ht
    exact s.injo y z r t hy hz hr ht hrt
  · intro y hy
    have hy : nx2.dec ≤ y.dec := hy
    have : y ≠ nx := fun e => by subst e; omega
    rw [Ql this]
    exact s.new y (by show nx.dec ≤ y.dec; omega)
  · intro y r hr
    rw [e4]
    by_cases e : y = nx
    · subst e; rw [Qw] at hr; injection hr with hr; subst hr; rw [hq]; exact s.lt _ _ hp
    · rw [Ql e] at hr; exact s.lt _ _ hr
  · intro y z r t hr ht hrt
    by_cases ey : y = nx <;> by_cases ez : z = nx
    · subst ey; subst ez
      rw [hr] at ht; injection ht with ht; rw [ht]
    · subst ey
      rw [Qw] at hr; injection hr with hr; subst hr
      rw [Ql ez] at ht
      rw [hqb]; exact s.one x z p t hp ht (hq.symm.trans hrt)
    · subst ez
      rw [Qw] at ht; injection ht with ht; subst ht
      rw [Ql ey] at hr
      rw [hqb]; exact s.one y x r p hr hp (hrt.trans hq)
    · rw [Ql ey] at hr; rw [Ql ez] at ht
      exact s.one y z r t hr ht hrt
end
end Go.Ev
namespace Go.Ev
section
variable {P : Program} {Ck : CkT} {w₀ w : World} {K : Gd} {ι : Io} {h h' : H}
def HvQ (Ck : CkT) (P : Program) (w₀ : World) (K : Gd) (ι : Io) (h : H) (X : Sem Next) (w : World) (r : Rs Ou) : Prop :=
  ∀ S : Ou → Prop, RA r S → ∃ u h' nx v w' ι', S (u, h') ∧ X.run P w = .ok nx w' ∧ (nx = .value v ∨ (nx = .skip ∧ v = undef)) ∧ Ext h h' ι ι' ∧ SR Ck w₀ K ι' h' w' ∧ VR ι' u v
theorem HvQ.val {X : Sem Value} {r : Rs Ou} (hh : ∀ S : Ou → Prop, RA r S → ∃ u h' v w' ι', S (u, h') ∧ X.run P w = .ok v w' ∧ Ext h h' ι ι' ∧ SR Ck w₀ K ι' h' w' ∧ VR ι' u v) : HvQ Ck P w₀ K ι h (do pure (Next.value (← X))) w r := fun S hS => by
  obtain ⟨u, h', v, w', ι', h1, h2, h3⟩ := hh S hS
  exact ⟨u, h', .value v, v, w', ι', h1, by simp [h2], .inl rfl, h3⟩
theorem HvQ.unit {X : Sem Unit} {r : Rs Ou} (hh : ∀ S : Ou → Prop, RA r S → ∃ h' w' ι', S (.tu [], h') ∧ X.run P w = .ok () w' ∧ Ext h h' ι ι' ∧ SR Ck w₀ K ι' h' w') : HvQ Ck P w₀ K ι h (do X; pure Next.skip) w r := fun S hS => by
  obtain ⟨h', w', ι', h1, h2, h3, h4⟩ := hh S hS
  exact ⟨_, h', .skip, undef, w', ι', h1, by simp [h2], .inr ⟨rfl, rfl⟩, h3, h4, by rw [VR]; exact ⟨#[], rfl, by rw [VRs]⟩⟩
theorem H4 (s : SR Ck w₀ K ι h w) {n : Nat} {t : TypeId} {x v : AV} {vx vv : Value} (hx : VR ι x vx) (hv : VR ι v vv) (hz : SZ P t n) {S : Ou → Prop}
    (hS : RA (Fz n x v h) S) :
    ∃ h' w' ι', S (.tu [], h') ∧ (Instr.storeAt t vx vv).run P w = .ok () w' ∧ Ext h h' ι ι' ∧ SR Ck w₀ K ι' h' w' := by
  cases x <;> try exact hS.elim
  rename_i x o
  obtain ⟨hc, hS⟩ := Y8 hS
  obtain ⟨h', hst, hS⟩ := Q0 hS
  rw [VR] at hx
  obtain ⟨p, hp, rfl⟩ := hx
  have hcs := U5 hv
  obtain ⟨w', h1, h2⟩ := s.stE P hst hp hcs
  refine ⟨h', w', ι, hS, ?_, Ext.same (C2 hst), h2⟩
  have hlen := hcs.len
  have hc : R7 (Yp v) = n := Nat.eq_of_beq_eq_true hc
  rw [X4] at hc
  simp only [Array.length_toList] at hlen
  have e1 : vv.cells.size = n := by omega
  simp only [Instr.storeAt, Instr.sureAddr, storeVar, Sem.run_bind, Sem.run_pure, Result.andThen_ok, Q6 hz, e1, ne_eq, not_true_eq_false, if_false]
  exact h1
theorem Dr {w : World} {b o : Nat} {us : List Value} {m : Nat} (hm : m ≤ us.length) (h : ∀ j v, us[j]? = some v → w.cell? ⟨b, o + j, none⟩ = some v) : (loadCells ⟨b, o, none⟩ m).run P w = .ok (us.take m).toArray w := by
  have := run_loadCells_list (P := P) w ⟨b, o, none⟩ (us.take m) (fun j v hj => by
    rw [Xl]
    apply h
    rw [List.getElem?_take] at hj
    split at hj
    · exact hj
    · cases hj)
  rwa [show (us.take m).length = m by simp [hm]] at this
theorem C3 (s : SR Ck w₀ K ι h w) {x : AV} {vx : Value} {z : Nat} {k : Nat × List AV} (hv : VR ι x vx) (hn : Bg h x z = some k) :
    ∃ us, VRs ι k.2 us ∧ us.length = k.1 * z ∧ (Builtin.lenOf vx).run P w = .ok k.1 w ∧ ∀ m w', w'.heap = w.heap → m ≤ k.1 → (Builtin.firstCells z m vx).run P w' = .ok (us.take (m * z)).toArray w' := by
  cases x <;> try (cases hn; done)
  · rename_i l
    obtain ⟨hz, hn⟩ := Qx hn
    have hz : z = 1 := Nat.eq_of_beq_eq_true hz
    have hn : bd (Gq (fun b => some (AV.i .u8 (.ofNat b))) l) (fun r => some (R7 l, r)) = some k := hn
    obtain ⟨cs, hcs, hn⟩ := Qa hn
    injection hn with hn; subst hn
    rw [VR] at hv
    obtain ⟨rfl, hb⟩ := hv
    obtain ⟨m1, m2⟩ := Rc hcs
    refine ⟨l.map fun b : Nat => Value.int .u8 b, ?_, by simp [X4, hz], by simp [Builtin.lenOf, Xt, X4], fun m w' hw hm => ?_⟩
    · have key : ∀ {l : List Nat} {cs : List AV}, Gq (fun b => some (AV.i .u8 (.ofNat b))) l = some cs → VRs ι cs (l.map fun b : Nat => Value.int .u8 b) := by
        intro l
        induction l with
        | nil => intro cs h; injection h with h; subst h; rw [VRs]; rfl
        | cons b l ih =>
          intro cs h
          obtain ⟨r, hr, h⟩ := Qa (x := Gq (fun b => some (AV.i .u8 (.ofNat b))) l) h
          injection h with h; subst h
          rw [VRs]
          exact ⟨_, _, rfl, by rw [VR]; rfl, ih hr⟩
      exact key hcs
    · subst hz
      rw [X4] at hm
      simp only [Builtin.firstCells, Sem.run_pure, Nk, Nat.mul_one, List.drop_zero, Nat.sub_zero]
      congr 1
      simp only [Xa, List.map_toArray, List.map_map, List.map_take]
      congr 2
      refine List.map_congr_left (fun b hb' => ?_)
      have : b < 256 := hb b hb'
      simp [Nat.mod_eq_of_lt this]
  · rename_i x o n c ex z'
    obtain ⟨hz, hn⟩ := Qx hn
    obtain ⟨l, hl, hn⟩ := Qa hn
    injection hn with hn; subst hn
    rw [VR] at hv
    obtain ⟨p, off, c', hp, rfl, g1, g2, g3, g4, g5⟩ := hv
    obtain ⟨p', us, q1, q2, q3, q4⟩ := s.cells hl
    rw [hp] at q1; injection q1 with q1; subst q1
    have q3 : us.length = n * z := q3
    refine ⟨us, q2, q3, rfl, fun m w' hw hm => ?_⟩
    have hle : m * z ≤ us.length := by rw [q3]; exact Nat.mul_le_mul_right z hm
    refine Dr hle (fun j v hj => ?_)
    have : j < us.length := by
      rcases Nat.lt_or_ge j us.length with h | h
      · exact h
      · rw [List.getElem?_eq_none h] at hj; cases hj
    have hn0 : n ≠ 0 := fun e => by subst e; simp at q3; rw [q3] at this; simp at this
    have hoff : off = p.bs + o := g5.resolve_right (fun h => hn0 h.1)
    rw [hoff]; have := q4 j v hj; simp only [World.cell?, hw] at this ⊢; exact this
  · injection hn with hn; subst hn
    rw [VR] at hv
    subst hv
    exact ⟨[], by rw [VRs], by simp, rfl, fun m w' hw hm => by simp [Builtin.firstCells]⟩
theorem Ds (s : SR Ck w₀ K ι h w) {zs l : List AV} {us rest : List Value} {n c z : Nat} {arr : Array Value} {el : TypeId} {w' : World} (hv : VRs ι l us) (hn : n ≤ c) (hcm : c ≤ maxLen) (hl : us.length = n * z) (harr : arr.toList = us ++ rest) (hsz : arr.size = c * z)
    (e0 : w'.heap = w.heap.push (.cells arr el)) (e1 : w'.os = w.os) (e2 : w'.tape = w.tape) (e3 : w'.output = w.output) {S : Ou → Prop} (hS : RA (Nf zs l n z h) S) :
    ∃ u h' ι', S (u, h') ∧ Ext h h' ι ι' ∧ SR Ck w₀ K ι' h' w' ∧ VR ι' u (.slice (some ⟨w.heap.size, 0, none⟩) n c) := by
  obtain ⟨t, ht, hS⟩ := Q0 hS
  rw [Jg] at hS
  have hS : RA (ob (Ij (.cells t zs l.length) h) fun h' => .one (AV.sl h.nx 0 n n false z, h')) S := hS
  obtain ⟨h', hh, hS⟩ := Q0 hS
  have hlen := hv.len
  have hnone : ι h.nx = none := s.new h.nx (Nat.le_refl _)
  let p : Pl := ⟨w.heap.size, 0, c * z, Zt zs⟩
  have hbr : BR Ck ι p (.cells t zs l.length) (.cells arr el) := by
    refine ⟨arr, el, 0, 0, rfl, hsz, ?_, fun j hj => ?_, fun j hj => by omega, fun _ => ⟨rfl, rfl⟩, rfl, Nat.le_refl _⟩
    · show 0 + l.length ≤ c * z
      have : n * z ≤ c * z := Nat.mul_le_mul_right z hn
      omega
    · have hg := X3 l .e 0 t ht j
      obtain ⟨v, g1, g2⟩ := hv.get (i := j) (a := l[j]) (by simp)
      refine ⟨l[j], v, by rw [Xf _ _ _ _ hj, hg, if_pos (by omega)]; simp [hj], ?_, g2⟩
      show arr[0 + j]? = some v
      rw [Nat.zero_add, ← Array.getElem?_toList, harr, List.getElem?_append_left (by omega)]
      exact g1
  obtain ⟨a1, a2⟩ := s.alloc hh p rfl _ (hbr.mono (Xz hnone))
  refine ⟨_, h', _, hS, Ext.set a1 (by have := N6 hh; omega), a2.same (w' := w') e0 e1 e2 e3, ?_⟩
  rw [VR]
  exact ⟨p, 0, c, Qw _ _ _, rfl, ⟨hn, hcm⟩, Nat.le_refl _, fun h => (by cases h), by show 0 + c * z ≤ c * z; omega, .inl rfl⟩
end
theorem C4 (n : Nat) : ∀ (r c : Nat), Builtin.growBy n r c ≤ (c + 768) * 2 ^ r
  | 0, c => by simp [Builtin.growBy]
  | r + 1, c => by
    have hp : 1 ≤ 2 ^ r := Nat.one_le_two_pow
    unfold Builtin.growBy
    split
    · calc c ≤ (c + 768) * 1 := by omega
        _ ≤ (c + 768) * 2 ^ (r + 1) := Nat.mul_le_mul_left _ Nat.one_le_two_pow
    · refine Nat.le_trans (C4 n r _) ?_
      rw [Nat.pow_succ, Nat.mul_comm (2 ^ r) 2, ← Nat.mul_assoc]
      exact Nat.mul_le_mul_right _ (by omega)
theorem nsc_le {n c : Nat} (hn : n ≤ 65536) (hc : c < n) : Builtin.nextslicecap n c ≤ 2097152 := by
  unfold Builtin.nextslicecap
  split
  · omega
  · split
    · omega
    · refine Nat.le_trans (C4 n 4 c) ?_
      have : (c + 768) * 2 ^ 4 ≤ (65536 + 768) * 2 ^ 4 := Nat.mul_le_mul_right _ (by omega)
      omega
section
variable {P : Program} {Ck : CkT} {w₀ w : World} {K : Gd} {ι : Io} {h h' : H}
structure AppOk (P : Program) (ts : Array TypeId) (z : Nat) : Prop where
  ex : ∃ t e b vz, ts[0]? = some t ∧ P.underlying t = some (.slice e) ∧ SZ P e z ∧ BY P e b ∧ b ≤ 65536 ∧ ZR P e vz ∧ vz.cells.size = z
  nz : ∀ t, ts[1]? = some t → ∃ d, P.underlying t = some d ∧ ∀ k, d ≠ .int k
theorem appArr (a b : List Value) (c : Array Value) : a.toArray ++ b.toArray ++ c = (a ++ b ++ c.toList).toArray := by apply Array.ext'; simp
theorem notInt {d : TypeDesc} (h : ∀ k, d ≠ .int k) : (match d with | TypeDesc.int _ => true | _ => false) = false := by cases d <;> first | rfl | exact absurd rfl (h _)
theorem Y1 {ts : Array TypeId} {ty : TypeId} {vs : Array Value} {z n c' k : Nat} {base : Option Addr} {vx : Value} {us : List Value} {w' : World} (ha : AppOk P ts z) (h0 : vs[0]? = some (.slice base n c')) (h1 : vs[1]? = some vx)
    (hlen : (Builtin.lenOf vx).run P w = .ok k w) (hus : (Builtin.firstCells z k vx).run P w = .ok us.toArray w) (hfit : n + k ≤ c')
    (hst : ∀ a, base = some a → (storeCells (a.add (n * z)) us).run P w = .ok () w') (hnone : base = none → w' = w) : (Builtin.append_ ts ty vs).run P w = .ok (.slice base (n + k) c') w' := by
  obtain ⟨⟨t, e, b, vz, t0, hu, hz, hb, hb2, hzr, hzl⟩, hnz⟩ := ha
  cases h1t : ts[1]? with
  | none =>
    simp only [Builtin.append_, t0, h0, h1, h1t, Sem.run_bind, run_underlying hu, Result.andThen_ok, Q6 hz, Bool.false_eq_true, if_false, hlen, Sem.run_pure, if_pos hfit, Bool.not_false, if_true, hus]
    cases base with
    | none => rw [hnone rfl]; rfl
    | some a => simp only [Sem.run_bind, hst a rfl, Result.andThen_ok, Sem.run_pure]
  | some t1 =>
    obtain ⟨d, hd, hi⟩ := hnz t1 h1t
    have hm := notInt hi
    simp only [Builtin.append_, t0, h0, h1, h1t, Sem.run_bind, run_underlying hu, run_underlying hd, hm, Result.andThen_ok, Q6 hz, Bool.false_eq_true, if_false, hlen, Sem.run_pure, if_pos hfit, Bool.not_false, if_true, hus]
    cases base with
    | none => rw [hnone rfl]; rfl
    | some a => simp only [Sem.run_bind, hst a rfl, Result.andThen_ok, Sem.run_pure]
theorem U0 {ts : Array TypeId} {ty : TypeId} {vs : Array Value} {z n c' k : Nat} {base : Option Addr} {vx : Value} {us old : List Value} (ha : AppOk P ts z) (h0 : vs[0]? = some (.slice base n c')) (h1 : vs[1]? = some vx)
    (hlen : (Builtin.lenOf vx).run P w = .ok k w) (hus : ∀ w', w'.heap = w.heap → (Builtin.firstCells z k vx).run P w' = .ok us.toArray w') (hold : ∀ w', w'.heap = w.heap → (Builtin.firstCells z n (.slice base n c')).run P w' = .ok old.toArray w') (hfit : ¬ n + k ≤ c') (hbig : n + k ≤ 65536) :
    ∃ (c : Nat) (el : TypeId) (rest : List Value), n + k ≤ c ∧ c ≤ maxLen ∧ rest.length = (c - (n + k)) * z ∧ (Builtin.append_ ts ty vs).run P w = .ok (.slice (some ⟨w.heap.size, 0, none⟩) (n + k) c) { w with drawn := w.drawn + 1, heap := w.heap.push (.cells (old ++ us ++ rest).toArray el) } := by
  obtain ⟨⟨t, e, b, vz, t0, hu, hz, hb, hb2, hzr, hzl⟩, hnz⟩ := ha
  obtain ⟨i, hi, hbi⟩ : ∃ i, P.info? e = some i ∧ i.bytes = b := by
    unfold BY at hb
    cases hi : P.info? e with
    | none => rw [hi] at hb; cases hb
    | some i => rw [hi] at hb; injection hb with hb; exact ⟨i, rfl, hb⟩
  obtain ⟨c, hc⟩ : ∃ c, c = (Question.appendCap (n + k) c' e).cut (w.tape w.drawn (Question.appendCap (n + k) c' e)) := ⟨_, rfl⟩
  have hcap : n + k ≤ c := by rw [hc]; simp only [Question.cut]; omega
  have hq : (Question.appendCap (n + k) c' e).forced = false := rfl
  have c1 : ¬ (((n + k : Nat) : Int) > IntKind.i64.max ∧ (False ∨ b = 0)) := fun hh => by have := hh.1; simp at this; omega
  have c2 : ¬ (Builtin.nextslicecap (n + k) c' * b > 2 ^ 48) := by
    have h1 := nsc_le hbig (by omega : c' < n + k)
    have h2 : Builtin.nextslicecap (n + k) c' * b ≤ 2097152 * 65536 := Nat.mul_le_mul h1 hb2
    omega
  have hcm : c ≤ maxLen := by rw [hc]; simp only [Question.cut, maxLen]; have := Nat.mod_lt (w.tape w.drawn (Question.appendCap (n + k) c' e)) (show 0 < 2 ^ 63 - (n + k) by omega); omega
  refine ⟨c, e, (Builtin.zeroCells vz.cells (c - (n + k))).toList, hcap, hcm, by simp [Builtin.zeroCells, hzl], ?_⟩
  have hus' := hus { w with drawn := w.drawn + 1 } rfl
  have hold' := hold { w with drawn := w.drawn + 1 } rfl
  cases h1t : ts[1]? with
  | none =>
    simp only [Builtin.append_, t0, h0, h1, h1t, Sem.run_bind, run_underlying hu, Result.andThen_ok, Q6 hz, Bool.false_eq_true, if_false, hlen, Sem.run_pure, if_neg hfit, Bool.not_false, if_true, Xg hi, hbi, if_neg c1, if_neg c2, run_choose, hq, ← hc, run_askRoom, hold', hus', Vn hzr, newRow, run_newObj, appArr]
  | some t1 =>
    obtain ⟨d, hd, hi'⟩ := hnz t1 h1t
    have hm := notInt hi'
    simp only [Builtin.append_, t0, h0, h1, h1t, Sem.run_bind, run_underlying hu, run_underlying hd, hm, Result.andThen_ok, Q6 hz, Bool.false_eq_true, if_false, hlen, Sem.run_pure, if_neg hfit, Bool.not_false, if_true, Xg hi, hbi, if_neg c1, if_neg c2, run_choose, hq, ← hc, run_askRoom, hold', hus', Vn hzr, newRow, run_newObj, appArr]
end
end Go.Ev
namespace Go.Ev
section
variable {P : Program} {Ck : CkT} {w₀ w : World} {K : Gd} {ι : Io} {h h' : H}
theorem SR.wr0 (s : SR Ck w₀ K ι h w) {x : Pa} {o : Nat} {p : Pl} (hp : ι x = some p) (hs : Go.Ev.wrE x o [] h = some h') : SR Ck w₀ K ι h' w := by
  obtain ⟨ob, ha, hs'⟩ := Qa (x := Q5 x h.rw) hs
  obtain ⟨p', o', q1, q2, q3, q4⟩ := s.rw x ob ha
  rw [hp] at q1; injection q1 with q1; subst q1
  cases ob with
  | cells t zs n =>
    obtain ⟨arr, el, lo, hi, _, b1, b2, _⟩ := q4
    obtain ⟨hc, _⟩ := Qx hs'
    have hle : o ≤ n := Nat.le_of_ble_eq_true (Q2 hc).1
    obtain ⟨w', h1, h2⟩ := s.wrE default hs hp (vs := []) (by simp; omega) (by rw [VRs])
    have h1 : Result.ok () w = Result.ok () w' := h1
    injection h1 with _ h1; subst h1; exact h2
  | _ => cases hs'
theorem SR.st0 (s : SR Ck w₀ K ι h w) {x : Pa} {o : Nat} {p : Pl} (hp : ι x = some p) (hs : Go.Ev.stE x o [] h = some h') : SR Ck w₀ K ι h' w := by
  obtain ⟨w', h1, h2⟩ := s.stE default hs hp (vs := []) (by rw [VRs])
  have h1 : Result.ok () w = Result.ok () w' := h1
  injection h1 with _ h1; subst h1; exact h2
theorem SR.behind (P : Program) (s : SR Ck w₀ K ι h w) {x : Pa} {ob : AO} {h1 : H} {p : Pl} {off n0 : Nat} {old news : List AV} {us vs : List Value} (ha : Q5 x h.rw = some ob) (hc : ∃ t zs n, ob = .cells t zs n) (hp : ι x = some p)
    (hd : Gr x h = some h1) (hus : VRs ι old us) (hvs : VRs ι news vs) (hlen : us.length = n0) (hcell : ∀ j v, us[j]? = some v → w.cell? ⟨p.cb, off + j, none⟩ = some v) (hfit : off + n0 + news.length ≤ p.sz)
    (hone : ∀ v ∈ vs, v.oneCell' = true) {n c z : Nat} (hn : n * z = (old ++ news).length) (hnc : n ≤ c ∧ c ≤ maxLen) (hcz : off + c * z ≤ p.sz) {S : Ou → Prop} (hS : RA (Nf (U4 ob) (old ++ news) n z h1) S) :
    ∃ w' u h' ι', (storeCells ⟨p.cb, off + n0, none⟩ vs 0).run P w = .ok () w' ∧ S (u, h') ∧ Ext h h' ι ι' ∧ SR Ck w₀ K ι' h' w' ∧ VR ι' u (.slice (some ⟨p.cb, off, none⟩) n c) := by
  obtain ⟨t, zs, m, rfl⟩ := hc
  obtain ⟨p', o', q1, q2, q3, q4⟩ := s.rw x _ ha
  rw [hp] at q1; injection q1 with q1; subst q1
  obtain ⟨arr, el, lo, hi, rfl, b1, b2, b3, b4, b5, b6, b7⟩ := q4
  have hvl := hvs.len
  have hul := hus.len
  have hrun := Xp P p.cb (off + n0) el lo hi vs 0 arr w q2 (fun j hj => b4 j (by omega)) (by omega) hone
  simp only [Nat.add_zero] at hrun
  obtain ⟨tr, ht, hS⟩ := Q0 hS
  rw [Jg] at hS
  have hS : RA (ob (Ij (.cells tr (U4 (.cells t zs m)) (old ++ news).length) h1) fun h' => .one (AV.sl h1.nx 0 n n false z, h')) S := hS
  obtain ⟨h', hh, hS⟩ := Q0 hS
  obtain ⟨_, d1, d2, d3⟩ := Jp hd
  have hnone : ι h.nx = none := s.new h.nx (Nat.le_refl _)
  have hheap := setRow_heap w p.cb arr (arr.toList.take (off + n0) ++ vs ++ arr.toList.drop (off + n0 + vs.length)).toArray el (lo, hi) q2
  have hsz : (arr.toList.take (off + n0) ++ vs ++ arr.toList.drop (off + n0 + vs.length)).toArray.size = p.sz := by simp; omega
  let q : Pl := ⟨p.cb, off, p.sz, p.by'⟩
  have hbr : BR Ck ι q (.cells tr (U4 (.cells t zs m)) (old ++ news).length) (.cells (arr.toList.take (off + n0) ++ vs ++ arr.toList.drop (off + n0 + vs.length)).toArray el (lo, hi)) := by
    refine ⟨_, el, lo, hi, rfl, hsz, ?_, fun j hj => ?_, b4, b5, ?_, b7⟩
    · show off + (old ++ news).length ≤ p.sz
      simp; omega
    · have hg := X3 (old ++ news) .e 0 tr ht j
      obtain ⟨v, g1, g2⟩ := (hus.append hvs).get (i := j) (a := (old ++ news)[j]) (by simp)
      refine ⟨(old ++ news)[j], v, by rw [Xf _ _ _ _ hj, hg, if_pos (by omega), Nat.sub_zero, List.getElem?_eq_getElem hj], ?_, g2⟩
      simp only [List.getElem?_toArray]
      show (arr.toList.take (off + n0) ++ vs ++ arr.toList.drop (off + n0 + vs.length))[off + j]? = some v
      by_cases hj2 : j < us.length
      · rw [List.getElem?_append_left (by simp; omega), List.getElem?_append_left (by simp; omega), List.getElem?_take, if_pos (by omega)]
        rw [List.getElem?_append_left hj2] at g1
        have := hcell j v g1
        simp only [World.cell?, q2] at this
        simpa using this
      · have hj3 : j < old.length + news.length := by simpa using hj
        rw [List.getElem?_append_left (by simp; omega), List.getElem?_append_right (by simp; omega)]
        rw [List.getElem?_append_right (by omega)] at g1
        rw [← g1]
        congr 1
        simp; omega
    · show p.by' = Zt (Vd (Zt zs) zs [])
      rw [b6]
      cases hz : Zt zs with
      | false => rfl
      | true => rw [Ve, hz]
  obtain ⟨a1, a2⟩ := s.steal (q := q) ha hp hd hh rfl rfl (hbr.mono (Xz hnone)) (w' := w.setRow p.cb (arr.toList.take (off + n0) ++ vs ++ arr.toList.drop (off + n0 + vs.length)).toArray) rfl rfl rfl (by simp) hheap (fun c hc => by simp only [World.setRow]; rw [Array.getElem?_modify]; simp [Ne.symm hc])
  refine ⟨_, _, h', _, hrun, hS, Ext.set a1 (by have := N6 hh; rw [d2] at this; omega), a2, ?_⟩
  rw [VR, d2]
  exact ⟨q, off, c, Qw _ _ _, rfl, hnc, Nat.le_refl _, fun h => (by cases h), hcz, .inl rfl⟩
theorem app_spec (s : SR Ck w₀ K ι h w) {ts : Array TypeId} {ty : TypeId} {vs : Array Value} {z : Nat} {sv xv : AV} {v0 v1 : Value} {k : Nat × List AV} (ha : AppOk P ts z) (h0 : vs[0]? = some v0) (h1 : vs[1]? = some v1) (hs : VR ι sv v0) (hx : VR ι xv v1)
    (hk : Bg h xv z = some k) {S : Ou → Prop} (hS : RA (appV sv k z h) S) :
    ∃ u h' v w' ι', S (u, h') ∧ (Builtin.append_ ts ty vs).run P w = .ok v w' ∧ Ext h h' ι ι' ∧ SR Ck w₀ K ι' h' w' ∧ VR ι' u v := by
  obtain ⟨us, n1, n2, n3, n4⟩ := C3 (P := P) s hx hk
  have htake : us.take (k.1 * z) = us := by rw [← n2]; simp
  have n5 : ∀ w', w'.heap = w.heap → (Builtin.firstCells z k.1 v1).run P w' = .ok us.toArray w' := fun w' hw => by have := n4 k.1 w' hw (Nat.le_refl _); rwa [htake] at this
  have hklen : k.2.length = k.1 * z := by rw [← n1.len, n2]
  cases sv <;> try exact hS.elim
  ·
    rename_i x o n c ex z'
    obtain ⟨hz, hS1⟩ := Y8 hS
    have hz : z = z' := Nat.eq_of_beq_eq_true hz
    clear hS
    subst hz
    have hS : RA (Vd (Nat.ble (n + k.1) c) (ob (wrE x (Nat.add o (Nat.mul n z)) k.2 h) fun h => .one (AV.sl x o (n + k.1) c ex z, h)) (growE x o n z ex k.2 (n + k.1) h)) S := hS1
    clear hS1
    have hs0 := hs
    rw [VR] at hs
    obtain ⟨p, off, c', hp, rfl, g1, g2, g3, g4, g5⟩ := hs
    cases hfit : Nat.ble (n + k.1) c with
    | true =>
      rw [hfit, Ve] at hS
      have hfit := Nat.le_of_ble_eq_true hfit
      obtain ⟨h', hw, hS⟩ := Q0 hS
      have hadd : (⟨p.cb, off, none⟩ : Addr).add (n * z) = ⟨p.cb, off + n * z, none⟩ := Xl _ _ _
      by_cases hk0 : k.1 = 0
      · have hl0 : k.2 = [] := by have : k.2.length = 0 := by rw [hklen, hk0, Nat.zero_mul]
                                  exact List.eq_nil_of_length_eq_zero this
        have hu0 : us = [] := by have : us.length = 0 := by rw [n2, hk0, Nat.zero_mul]
                                 exact List.eq_nil_of_length_eq_zero this
        rw [hl0] at hw
        have s' := s.wr0 hp hw
        refine ⟨_, h', _, w, ι, hS, Y1 ha h0 h1 n3 (n5 w rfl) (by omega) (fun a _ => by rw [hu0]; rfl) (fun h => by cases h), Ext.same (wrE_nx hw), s', ?_⟩
        rw [VR]
        exact ⟨p, off, c', hp, rfl, g1, by omega, g3, g4, g5.imp id (fun h => ⟨by omega, h.2⟩)⟩
      · have hoff : off = p.bs + o := g5.resolve_right (fun h => by omega)
        have hmul : (n + k.1) * z ≤ c' * z := Nat.mul_le_mul_right z (by omega)
        have hexp : (n + k.1) * z = n * z + k.1 * z := Nat.add_mul _ _ _
        obtain ⟨w', r1, r2⟩ := s.wrE P hw hp (vs := us) (by show p.bs + (o + n * z) + k.2.length ≤ p.sz; omega) n1
        have r1 : (storeCells ⟨p.cb, off + n * z, none⟩ us 0).run P w = .ok () w' := by rw [hoff, Nat.add_assoc]; exact r1
        refine ⟨_, h', _, w', ι, hS, Y1 ha h0 h1 n3 (n5 w rfl) (by omega) (fun a hh => by injection hh with hh; rw [← hh, hadd]; exact r1) (fun h => by cases h), Ext.same (wrE_nx hw), r2, ?_⟩
        rw [VR]
        exact ⟨p, off, c', hp, rfl, g1, by omega, g3, g4, .inl hoff⟩
    | false =>
      rw [hfit, Q9] at hS
      have hfit : ¬ n + k.1 ≤ c := fun hh => by rw [Nat.ble_eq_true_of_le hh] at hfit; cases hfit
      obtain ⟨hbig, hS⟩ := Y8 hS
      have hbig := Nat.le_of_ble_eq_true hbig
      obtain ⟨l', hl', hS⟩ := Q0 hS
      obtain ⟨l2, hl2, hS⟩ := Q0 hS
      have hl2 := Zn hl2
      subst hl2
      obtain ⟨p', os, q1, q2, q3, q4⟩ := s.cells hl'
      rw [hp] at q1; injection q1 with q1; subst q1
      have q3 : os.length = n * z := q3
      have q5 : ∀ j v, os[j]? = some v → w.cell? ⟨p.cb, off + j, none⟩ = some v := fun j v hj => by
        have : j < os.length := by
          rcases Nat.lt_or_ge j os.length with h | h
          · exact h
          · rw [List.getElem?_eq_none h] at hj; cases hj
        have hn0 : n ≠ 0 := fun e => by subst e; simp at q3; rw [q3] at this; simp at this
        have hoff : off = p.bs + o := g5.resolve_right (fun h => hn0 h.1)
        rw [hoff]; exact q4 j v hj
      have q6 : ∀ w', w'.heap = w.heap → (Builtin.firstCells z n (.slice (some ⟨p.cb, off, none⟩) n c')).run P w' = .ok os.toArray w' := fun w' hw => by
        have := Dr (P := P) (w := w') (b := p.cb) (o := off) (us := os) (m := os.length) (Nat.le_refl _) (fun j v hj => by have := q5 j v hj; simp only [World.cell?, hw] at this ⊢; exact this)
        rw [List.take_length] at this
        rw [q3] at this
        exact this
      have out : ¬ n + k.1 ≤ c' → ∀ {zs : List AV} {h1 : H} {S : Ou → Prop}, SR Ck w₀ K ι h1 w → RA (Nf zs (l' ++ k.2) (n + k.1) z h1) S → ∃ u h' v w' ι', S (u, h') ∧ (Builtin.append_ ts ty vs).run P w = .ok v w' ∧ Ext h1 h' ι ι' ∧ SR Ck w₀ K ι' h' w' ∧ VR ι' u v := by
        intro hno zs h1' S s1 hS
        obtain ⟨cc, el, rest, e1, ecm, e2, e3⟩ := U0 (ty := ty) ha h0 h1 n3 n5 q6 hno hbig
        obtain ⟨u, h', ι', f1, f2, f3, f4⟩ := Ds s1 (us := os ++ us) (rest := rest) (c := cc) (z := z) (arr := (os ++ us ++ rest).toArray) (el := el) (w' := { w with drawn := w.drawn + 1, heap := w.heap.push (.cells (os ++ us ++ rest).toArray el) }) (q2.append n1) e1 ecm (by rw [List.length_append, q3, n2, Nat.add_mul]) rfl
          (by simp only [List.size_toArray, List.length_append, q3, n2, e2]; rw [← Nat.add_mul, ← Nat.add_mul]; congr 1; omega) rfl rfl rfl rfl hS
        exact ⟨u, h', _, _, ι', f1, e3, f2, f3, f4⟩
      cases ex with
      | true =>
        have hx := g3 rfl
        exact out (by omega) s hS
      | false =>
        obtain ⟨hone, hS⟩ := Y8 hS
        obtain ⟨ob', ho, hS⟩ := Q0 hS
        obtain ⟨h1', hd, hS⟩ := Q0 hS
        by_cases hin : n + k.1 ≤ c'
        ·
          have hcells : ∃ t zs m, ob' = .cells t zs m := by
            obtain ⟨ob2, e1, e2⟩ := Qa (x := R8 x h) hl'
            unfold R8 at e1
            rw [ho] at e1
            injection e1 with e1; subst e1
            cases ob' with
            | cells t zs m => exact ⟨t, zs, m, rfl⟩
            | _ => cases e2
          have hmul : (n + k.1) * z ≤ c' * z := Nat.mul_le_mul_right z hin
          have hexp : (n + k.1) * z = n * z + k.1 * z := Nat.add_mul _ _ _
          obtain ⟨w', u, h', ι', f1, f2, f3, f4, f5⟩ := SR.behind P s ho hcells hp hd q2 n1 q3 q5 (by omega) (Uj hone n1) (n := n + k.1) (c := c') (z := z) (by rw [List.length_append, ← q2.len, q3, hklen, hexp]) ⟨hin, g1.2⟩ g4 hS
          exact ⟨u, h', _, w', ι', f2, Y1 ha h0 h1 n3 (n5 w rfl) hin (fun a hh => by injection hh with hh; rw [← hh, Xl]; exact f1) (fun h => by cases h), f3, f4, f5⟩
        · obtain ⟨u, h', v, w', ι', f1, f2, f3, f4⟩ := out hin (s.drop hd) hS
          exact ⟨u, h', v, w', ι', f1, f2, f3.eqs (Jp hd).2.2.1, f4⟩
  ·
    rw [VR] at hs
    subst hs
    cases hk0 : Nat.beq k.1 0 with
    | true =>
      have hk0' : k.1 = 0 := Nat.eq_of_beq_eq_true hk0
      have hS : RA (Vd (Nat.beq k.1 0) (.one (AV.sln, h)) (Vd (Nat.ble k.1 65536) (Nf [] k.2 k.1 z h) .z)) S := hS
      rw [hk0, Ve] at hS
      exact ⟨_, h, .slice none 0 0, w, ι, hS, by have := Y1 (ty := ty) ha h0 h1 n3 (n5 w rfl) (by omega) (w' := w) (fun a hh => by cases hh) (fun _ => rfl); rw [hk0'] at this; exact this, Ext.same rfl, s, by rw [VR]⟩
    | false =>
      have hk0' : k.1 ≠ 0 := fun e => by rw [e] at hk0; cases hk0
      have hS : RA (Vd (Nat.beq k.1 0) (.one (AV.sln, h)) (Vd (Nat.ble k.1 65536) (Nf [] k.2 k.1 z h) .z)) S := hS
      rw [hk0, Q9] at hS
      obtain ⟨hbig, hS⟩ := Y8 hS
      have hbig := Nat.le_of_ble_eq_true hbig
      obtain ⟨cc, el, rest, e1, ecm, e2, e3⟩ := U0 (ty := ty) (old := []) ha h0 h1 n3 n5 (fun w' _ => by simp [Builtin.firstCells]) (by omega) (by omega)
      rw [Nat.zero_add] at e1 e2 e3
      obtain ⟨u, h', ι', f1, f2, f3, f4⟩ := Ds s (us := us) (rest := rest) (c := cc) (z := z) (arr := ([] ++ us ++ rest).toArray) (el := el) (w' := { w with drawn := w.drawn + 1, heap := w.heap.push (.cells ([] ++ us ++ rest).toArray el) }) n1 e1 ecm n2 rfl
        (by simp only [List.size_toArray, List.length_append, List.length_nil, n2, e2]; rw [Nat.zero_add, ← Nat.add_mul]; congr 1; omega) rfl rfl rfl rfl hS
      exact ⟨u, h', _, _, ι', f1, e3, f2, f3, f4⟩
end
end Go.Ev
