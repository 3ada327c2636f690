/- A verified run of the program over an abstract memory, part 5 of 5: what the run tells is what every run of the program does. No condition. -/
import Derived.Test.YtdoafpliifhbaaaGreatDoorE4
import Derived.Below

/- The same run, told so that a reduction of it is short. -/
namespace Go.Abs

/- Truth values, whole numbers. -/
noncomputable def bnotF (b : Bool) : Bool := Bool.rec (motive := fun _ => Bool) true false b
theorem bnotF_eq (b : Bool) : bnotF b = bnot b := by cases b <;> rfl

noncomputable def eqIF (x y : Int) : Bool :=
  Int.rec (motive := fun _ => Int → Bool) (fun a y => Int.rec (motive := fun _ => Bool) (fun b => Nat.beq a b) (fun _ => false) y) (fun a y => Int.rec (motive := fun _ => Bool) (fun _ => false) (fun b => Nat.beq a b) y) x y
theorem eqIF_eq (x y : Int) : eqIF x y = eqI x y := by cases x <;> cases y <;> rfl
noncomputable def ltIF (x y : Int) : Bool :=
  Int.rec (motive := fun _ => Int → Bool) (fun a y => Int.rec (motive := fun _ => Bool) (fun b => Nat.ble (Nat.succ a) b) (fun _ => false) y) (fun a y => Int.rec (motive := fun _ => Bool) (fun _ => true) (fun b => Nat.ble (Nat.succ b) a) y) x y
theorem ltIF_eq (x y : Int) : ltIF x y = ltI x y := by cases x <;> cases y <;> rfl

noncomputable def subNF (a b : Nat) : Int := Bool.rec (motive := fun _ => Int) (.negSucc (Nat.pred (Nat.sub b a))) (.ofNat (Nat.sub a b)) (Nat.ble b a)
theorem subNF_eq (a b : Nat) : subNF a b = (a : Int) - b := by
  unfold subNF
  cases h : Nat.ble b a with
  | true =>
    have := nble h
    show ((a - b : Nat) : Int) = _
    omega
  | false =>
    have := nbgt h
    show Int.negSucc (Nat.pred (b - a)) = _
    have e := Int.negSucc_eq (Nat.pred (b - a))
    have e2 : Nat.pred (b - a) = b - a - 1 := rfl
    rw [e, e2]
    omega
noncomputable def addF (x y : Int) : Int :=
  Int.rec (motive := fun _ => Int → Int) (fun a y => Int.rec (motive := fun _ => Int) (fun b => .ofNat (Nat.add a b)) (fun b => subNF a (Nat.succ b)) y)
    (fun a y => Int.rec (motive := fun _ => Int) (fun b => subNF b (Nat.succ a)) (fun b => .negSucc (Nat.succ (Nat.add a b))) y) x y
theorem addF_eq (x y : Int) : addF x y = Int.add x y := by
  show _ = x + y
  cases x with
  | ofNat a => cases y with
    | ofNat b => rfl
    | negSucc b => show subNF a (b + 1) = _; rw [subNF_eq]; have := Int.negSucc_eq b; simp only [Int.ofNat_eq_natCast]; omega
  | negSucc a => cases y with
    | ofNat b => show subNF b (a + 1) = _; rw [subNF_eq]; have := Int.negSucc_eq a; simp only [Int.ofNat_eq_natCast]; omega
    | negSucc b => rfl
noncomputable def subF (x y : Int) : Int :=
  Int.rec (motive := fun _ => Int → Int) (fun a y => Int.rec (motive := fun _ => Int) (fun b => subNF a b) (fun b => .ofNat (Nat.add a (Nat.succ b))) y)
    (fun a y => Int.rec (motive := fun _ => Int) (fun b => .negSucc (Nat.add a b)) (fun b => subNF (Nat.succ b) (Nat.succ a)) y) x y
theorem subF_eq (x y : Int) : subF x y = Int.sub x y := by
  show _ = x - y
  cases x with
  | ofNat a => cases y with
    | ofNat b => show subNF a b = _; rw [subNF_eq]; rfl
    | negSucc b => show ((a + (b + 1) : Nat) : Int) = _; have := Int.negSucc_eq b; simp only [Int.ofNat_eq_natCast]; omega
  | negSucc a => cases y with
    | ofNat b => show Int.negSucc (a + b) = _; have := Int.negSucc_eq a; have := Int.negSucc_eq (a + b); simp only [Int.ofNat_eq_natCast]; omega
    | negSucc b => show subNF (b + 1) (a + 1) = _; rw [subNF_eq]; have := Int.negSucc_eq a; have := Int.negSucc_eq b; omega

noncomputable def hiF (k : IntKind) : Nat := IntKind.rec (motive := fun _ => Nat) 127 32767 2147483647 9223372036854775807 255 65535 4294967295 18446744073709551615 k
noncomputable def loF (k : IntKind) : Nat := IntKind.rec (motive := fun _ => Nat) 128 32768 2147483648 9223372036854775808 0 0 0 0 k
noncomputable def kN (k : IntKind) : Nat := IntKind.rec (motive := fun _ => Nat) 0 1 2 3 4 5 6 7 k
theorem hiF_eq (k : IntKind) : hiF k = hiK k := by cases k <;> rfl
theorem loF_eq (k : IntKind) : loF k = loK k := by cases k <;> rfl
noncomputable def kEqF (a b : IntKind) : Bool := Nat.beq (kN a) (kN b)
theorem kEqF_eq (a b : IntKind) : kEqF a b = kEq a b := by cases a <;> cases b <;> rfl
noncomputable def wrapF (k : IntKind) (n : Int) : Int :=
  Int.rec (motive := fun _ => IntKind → Int → Int) (fun a k n => Bool.rec (motive := fun _ => Int) (k.wrap n) n (Nat.ble a (hiF k)))
    (fun a k n => Bool.rec (motive := fun _ => Int) (k.wrap n) n (Nat.ble (Nat.succ a) (loF k))) n k n
theorem wrapF_eq (k : IntKind) (n : Int) : wrapF k n = wrapA k n := by
  unfold wrapA
  cases n with
  | ofNat a =>
    show Bool.rec (motive := fun _ => Int) _ _ (Nat.ble a (hiF k)) = _
    rw [hiF_eq]
    unfold inK
    dsimp only
    cases Nat.ble a (hiK k) <;> rfl
  | negSucc a =>
    show Bool.rec (motive := fun _ => Int) _ _ (Nat.ble (Nat.succ a) (loF k)) = _
    rw [loF_eq]
    unfold inK
    dsimp only
    cases Nat.ble (Nat.succ a) (loK k) <;> rfl

/- Operators. -/
noncomputable def iBin (op : BinOp) (k : IntKind) (a b : Int) : AVal :=
  BinOp.rec (motive := fun _ => IntKind → Int → Int → AVal)
    (fun k a b => .int k (wrapF k (addF a b))) (fun k a b => .int k (wrapF k (subF a b))) (fun k a b => intBin .mul k a b) (fun k a b => intBin .quo k a b) (fun k a b => intBin .rem k a b)
    (fun k a b => intBin .and k a b) (fun k a b => intBin .or k a b) (fun k a b => intBin .xor k a b) (fun k a b => intBin .shl k a b) (fun k a b => intBin .shr k a b) (fun k a b => intBin .andNot k a b)
    (fun _ a b => .bool (eqIF a b)) (fun _ a b => .bool (bnotF (eqIF a b))) (fun _ a b => .bool (ltIF a b)) (fun _ a b => .bool (bnotF (ltIF b a))) (fun _ a b => .bool (ltIF b a)) (fun _ a b => .bool (bnotF (ltIF a b))) op k a b
theorem iBin_eq (op : BinOp) (k : IntKind) (a b : Int) : iBin op k a b = intBin op k a b := by
  cases op <;> simp only [iBin, intBin, wrapF_eq, addF_eq, subF_eq, eqIF_eq, bnotF_eq, ltIF_eq]
noncomputable def shF (op : BinOp) : Bool := BinOp.rec (motive := fun _ => Bool) false false false false false false false false true true false false false false false false false op
theorem shF_eq (op : BinOp) : shF op = isShift op := by cases op <;> rfl
noncomputable def sEqF (n m n' m' : Nat) : Bool := Bool.rec (motive := fun _ => Bool) false (Nat.beq m m') (Nat.beq n n')
noncomputable def sBin (op : BinOp) (n m n' m' : Nat) : AVal :=
  BinOp.rec (motive := fun _ => Nat → Nat → Nat → Nat → AVal)
    (fun n m n' m' => Bool.rec (motive := fun _ => AVal) .bot (.str (Nat.add n n') (Nat.add m (Nat.mul (Nat.pow 256 n) m'))) (Nat.ble (Nat.add n n') maxI))
    (fun _ _ _ _ => .bot) (fun _ _ _ _ => .bot) (fun _ _ _ _ => .bot) (fun _ _ _ _ => .bot) (fun _ _ _ _ => .bot) (fun _ _ _ _ => .bot) (fun _ _ _ _ => .bot) (fun _ _ _ _ => .bot) (fun _ _ _ _ => .bot) (fun _ _ _ _ => .bot)
    (fun n m n' m' => .bool (sEqF n m n' m')) (fun n m n' m' => .bool (bnotF (sEqF n m n' m')))
    (fun n m n' m' => strBin .lss n m n' m') (fun n m n' m' => strBin .leq n m n' m') (fun n m n' m' => strBin .gtr n m n' m') (fun n m n' m' => strBin .geq n m n' m') op n m n' m'
theorem sBin_eq (op : BinOp) (n m n' m' : Nat) : sBin op n m n' m' = strBin op n m n' m' := by
  cases op <;> try rfl
  · simp only [sBin, strBin]; cases Nat.ble (Nat.add n n') maxI <;> rfl
  · simp only [sBin, strBin, sEqF]; cases Nat.beq n n' <;> rfl
  · simp only [sBin, strBin, sEqF, bnotF_eq]; cases Nat.beq n n' <;> rfl

noncomputable def aInt (a : AVal) (f : IntKind → Int → AVal) (d : AVal) : AVal :=
  AVal.rec (motive_1 := fun _ => (IntKind → Int → AVal) → AVal → AVal) (motive_2 := fun _ => (IntKind → Int → AVal) → AVal → AVal)
    (fun _ d => d) (fun _ => fun _ d => d) (fun x0 x1 => fun f _ => f x0 x1) (fun _ _ => fun _ d => d) (fun _ d => d) (fun _ _ _ => fun _ d => d) (fun _ d => d) (fun _ _ _ _ _ => fun _ d => d) (fun _ _ _ _ _ => fun _ d => d) (fun _ d => d) (fun _ => fun _ d => d) (fun _ d => d) (fun _ => fun _ d => d) (fun _ d => d) (fun _ _ _ _ _ => fun _ d => d) (fun _ d => d) (fun _ _ _ => fun _ d => d) (fun _ _ => fun _ d => d) (fun _ _ => fun _ d => d) (fun _ d => d) (fun _ _ _ _ => fun _ d => d) a f d

noncomputable def aStr (a : AVal) (f : Nat → Nat → AVal) (d : AVal) : AVal :=
  AVal.rec (motive_1 := fun _ => (Nat → Nat → AVal) → AVal → AVal) (motive_2 := fun _ => (Nat → Nat → AVal) → AVal → AVal)
    (fun _ d => d) (fun _ => fun _ d => d) (fun _ _ => fun _ d => d) (fun x0 x1 => fun f _ => f x0 x1) (fun _ d => d) (fun _ _ _ => fun _ d => d) (fun _ d => d) (fun _ _ _ _ _ => fun _ d => d) (fun _ _ _ _ _ => fun _ d => d) (fun _ d => d) (fun _ => fun _ d => d) (fun _ d => d) (fun _ => fun _ d => d) (fun _ d => d) (fun _ _ _ _ _ => fun _ d => d) (fun _ d => d) (fun _ _ _ => fun _ d => d) (fun _ _ => fun _ d => d) (fun _ _ => fun _ d => d) (fun _ d => d) (fun _ _ _ _ => fun _ d => d) a f d

noncomputable def aPtr (a : AVal) (f : Pth → Nat → Nat → AVal) (d : AVal) : AVal :=
  AVal.rec (motive_1 := fun _ => (Pth → Nat → Nat → AVal) → AVal → AVal) (motive_2 := fun _ => (Pth → Nat → Nat → AVal) → AVal → AVal)
    (fun _ d => d) (fun _ => fun _ d => d) (fun _ _ => fun _ d => d) (fun _ _ => fun _ d => d) (fun _ d => d) (fun x0 x1 x2 => fun f _ => f x0 x1 x2) (fun _ d => d) (fun _ _ _ _ _ => fun _ d => d) (fun _ _ _ _ _ => fun _ d => d) (fun _ d => d) (fun _ => fun _ d => d) (fun _ d => d) (fun _ => fun _ d => d) (fun _ d => d) (fun _ _ _ _ _ => fun _ d => d) (fun _ d => d) (fun _ _ _ => fun _ d => d) (fun _ _ => fun _ d => d) (fun _ _ => fun _ d => d) (fun _ d => d) (fun _ _ _ _ => fun _ d => d) a f d

noncomputable def aBool (a : AVal) (f : Bool → AVal) (d : AVal) : AVal :=
  AVal.rec (motive_1 := fun _ => (Bool → AVal) → AVal → AVal) (motive_2 := fun _ => (Bool → AVal) → AVal → AVal)
    (fun _ d => d) (fun x0 => fun f _ => f x0) (fun _ _ => fun _ d => d) (fun _ _ => fun _ d => d) (fun _ d => d) (fun _ _ _ => fun _ d => d) (fun _ d => d) (fun _ _ _ _ _ => fun _ d => d) (fun _ _ _ _ _ => fun _ d => d) (fun _ d => d) (fun _ => fun _ d => d) (fun _ d => d) (fun _ => fun _ d => d) (fun _ d => d) (fun _ _ _ _ _ => fun _ d => d) (fun _ d => d) (fun _ _ _ => fun _ d => d) (fun _ _ => fun _ d => d) (fun _ _ => fun _ d => d) (fun _ d => d) (fun _ _ _ _ => fun _ d => d) a f d

noncomputable def aSlice (a : AVal) (f : Pth → Nat → Nat → Nat → ACap → AVal) (d : AVal) : AVal :=
  AVal.rec (motive_1 := fun _ => (Pth → Nat → Nat → Nat → ACap → AVal) → AVal → AVal) (motive_2 := fun _ => (Pth → Nat → Nat → Nat → ACap → AVal) → AVal → AVal)
    (fun _ d => d) (fun _ => fun _ d => d) (fun _ _ => fun _ d => d) (fun _ _ => fun _ d => d) (fun _ d => d) (fun _ _ _ => fun _ d => d) (fun _ d => d) (fun x0 x1 x2 x3 x4 => fun f _ => f x0 x1 x2 x3 x4) (fun _ _ _ _ _ => fun _ d => d) (fun _ d => d) (fun _ => fun _ d => d) (fun _ d => d) (fun _ => fun _ d => d) (fun _ d => d) (fun _ _ _ _ _ => fun _ d => d) (fun _ d => d) (fun _ _ _ => fun _ d => d) (fun _ _ => fun _ d => d) (fun _ _ => fun _ d => d) (fun _ d => d) (fun _ _ _ _ => fun _ d => d) a f d

noncomputable def aTuple (a : AVal) (f : List AVal → AVal) (d : AVal) : AVal :=
  AVal.rec (motive_1 := fun _ => (List AVal → AVal) → AVal → AVal) (motive_2 := fun _ => (List AVal → AVal) → AVal → AVal)
    (fun _ d => d) (fun _ => fun _ d => d) (fun _ _ => fun _ d => d) (fun _ _ => fun _ d => d) (fun _ d => d) (fun _ _ _ => fun _ d => d) (fun _ d => d) (fun _ _ _ _ _ => fun _ d => d) (fun _ _ _ _ _ => fun _ d => d) (fun _ d => d) (fun _ => fun _ d => d) (fun _ d => d) (fun _ => fun _ d => d) (fun _ d => d) (fun _ _ _ _ _ => fun _ d => d) (fun _ d => d) (fun _ _ _ => fun _ d => d) (fun _ _ => fun _ d => d) (fun x0 _ => fun f _ => f x0) (fun _ d => d) (fun _ _ _ _ => fun _ d => d) a f d

noncomputable def aAgg (a : AVal) (f : List AVal → AVal) (d : AVal) : AVal :=
  AVal.rec (motive_1 := fun _ => (List AVal → AVal) → AVal → AVal) (motive_2 := fun _ => (List AVal → AVal) → AVal → AVal)
    (fun _ d => d) (fun _ => fun _ d => d) (fun _ _ => fun _ d => d) (fun _ _ => fun _ d => d) (fun _ d => d) (fun _ _ _ => fun _ d => d) (fun _ d => d) (fun _ _ _ _ _ => fun _ d => d) (fun _ _ _ _ _ => fun _ d => d) (fun _ d => d) (fun _ => fun _ d => d) (fun _ d => d) (fun _ => fun _ d => d) (fun _ d => d) (fun _ _ _ _ _ => fun _ d => d) (fun _ d => d) (fun _ _ _ => fun _ d => d) (fun x0 _ => fun f _ => f x0) (fun _ _ => fun _ d => d) (fun _ d => d) (fun _ _ _ _ => fun _ d => d) a f d

noncomputable def binF (P : Program) (op : BinOp) (t : TypeId) (cst : Bool) (x y : AVal) : AVal :=
  aInt x (fun k a => aInt y (fun k' b => Bool.rec (motive := fun _ => AVal) (Bool.rec (motive := fun _ => AVal) .bot (iBin op k a b) (kEqF k k')) (shiftA op k a b) (shF op)) (elseBin P op t cst x y))
    (aStr x (fun n m => aStr y (fun n' m' => sBin op n m n' m') (elseBin P op t cst x y)) (elseBin P op t cst x y))
theorem binF_eq (P : Program) (op : BinOp) (t : TypeId) (cst : Bool) (x y : AVal) : binF P op t cst x y = binA P op t cst x y := by
  cases x <;> cases y <;> try rfl
  · rename_i k a k' b
    show Bool.rec (motive := fun _ => AVal) (Bool.rec (motive := fun _ => AVal) .bot (iBin op k a b) (kEqF k k')) (shiftA op k a b) (shF op) = _
    rw [shF_eq, kEqF_eq, iBin_eq]
    unfold binA
    dsimp only
    cases isShift op <;> cases kEq k k' <;> rfl
  · rename_i n m n' m'
    show sBin op n m n' m' = _
    rw [sBin_eq]
    rfl

noncomputable def qBinF (P : Program) (op : BinOp) (t : TypeId) (cst : Bool) (x y : Opd) : Q := fun s _ => binF P op t cst (opd x s) (opd y s)
theorem qBinF_eq (P : Program) (op : BinOp) (t : TypeId) (cst : Bool) (x y : Opd) : qBinF P op t cst x y = qBin P op t cst x y := by
  funext s h; exact binF_eq _ _ _ _ _ _

noncomputable def pickF (c a b : AVal) : AVal := aBool c (fun t => Bool.rec (motive := fun _ => AVal) b a t) .bot
theorem pickF_eq (c a b : AVal) : pickF c a b = pickA c a b := by
  cases c <;> try rfl
  rename_i t; cases t <;> rfl
noncomputable def qPickF (c a b : Opd) : Q := fun s _ => pickF (opd c s) (opd a s) (opd b s)
theorem qPickF_eq (c a b : Opd) : qPickF c a b = qPick c a b := by funext s h; exact pickF_eq _ _ _

noncomputable def unF (op : UnOp) (x : AVal) : AVal :=
  UnOp.rec (motive := fun _ => AVal → AVal) (fun x => unA .neg x) (fun x => unA .xor x) (fun x => aBool x (fun b => .bool (bnotF b)) .bot) (fun x => unA .plus x) op x
theorem unF_eq (op : UnOp) (x : AVal) : unF op x = unA op x := by
  cases op <;> try rfl
  cases x <;> try rfl
  rename_i b; cases b <;> rfl
noncomputable def qUnF (op : UnOp) (x : Opd) : Q := fun s _ => unF op (opd x s)
theorem qUnF_eq (op : UnOp) (x : Opd) : qUnF op x = qUn op x := by funext s h; exact unF_eq _ _

noncomputable def nilF (x : AVal) : AVal := aPtr x (fun g v o => .ptr g v o) (nilA x)
theorem nilF_eq (x : AVal) : nilF x = nilA x := by cases x <;> rfl
noncomputable def qNilF (x : Opd) : Q := fun s _ => nilF (opd x s)
theorem qNilF_eq (x : Opd) : qNilF x = qNil x := by funext s h; exact nilF_eq _

noncomputable def getBF (o : Option AVal) : AVal := Option.rec (motive := fun _ => AVal) .bot (fun a => a) o
theorem getBF_eq (o : Option AVal) : getBF o = getB o := by cases o <;> rfl
noncomputable def nthF (l : List AVal) (i : Nat) : AVal :=
  List.rec (motive := fun _ => Nat → AVal) (fun _ => .bot) (fun a _ ih i => Nat.rec (motive := fun _ => AVal) a (fun i _ => ih i) i) l i
theorem nthF_eq : ∀ (l : List AVal) (i : Nat), nthF l i = getB l[i]? := by
  intro l
  induction l with
  | nil => intro i; rfl
  | cons a l ih => intro i; cases i with
    | zero => rfl
    | succ i => rw [List.getElem?_cons_succ, ← ih]; rfl
noncomputable def extF (i : Nat) (x : AVal) : AVal := aTuple x (fun vs => nthF vs i) .bot
theorem extF_eq (i : Nat) (x : AVal) : extF i x = extA i x := by
  cases x <;> try rfl
  exact nthF_eq _ _
noncomputable def qExtF (i : Nat) (x : Opd) : Q := fun s _ => extF i (opd x s)
theorem qExtF_eq (i : Nat) (x : Opd) : qExtF i x = qExt i x := by funext s h; exact extF_eq _ _

/- Places. -/
noncomputable def faF (o : Option Nat) (x : AVal) : AVal := Option.rec (motive := fun _ => AVal → AVal) (fun _ => .bot) (fun n x => aPtr x (fun g v k => .ptr g v (Nat.add k n)) .bot) o x
theorem faF_eq (o : Option Nat) (x : AVal) : faF o x = faA o x := by
  cases o with
  | none => rfl
  | some n => cases x <;> rfl
noncomputable def qFaF (P : Program) (t : TypeId) (f : Nat) (x : Opd) : Q := fun s _ => faF (faO P t f) (opd x s)
theorem qFaF_eq (P : Program) (t : TypeId) (f : Nat) (x : Opd) : qFaF P t f x = qFa P t f x := by funext s h; exact faF_eq _ _

noncomputable def natI (i : Int) (f : Nat → AVal) : AVal := Int.rec (motive := fun _ => (Nat → AVal) → AVal) (fun j f => f j) (fun _ _ => .bot) i f
noncomputable def ixF (o : IxK) (x i : AVal) : AVal :=
  IxK.rec (motive := fun _ => AVal → AVal → AVal) (fun _ _ => .bot)
    (fun size x i => aSlice x (fun g v k len _ => aInt i (fun _ j => natI j fun j => Bool.rec (motive := fun _ => AVal) .bot (.ptr g v (Nat.add k (Nat.mul j size))) (Nat.ble (Nat.succ j) len)) .bot) .bot)
    (fun n size x i => aPtr x (fun g v k => aInt i (fun _ j => natI j fun j => Bool.rec (motive := fun _ => AVal) .bot (.ptr g v (Nat.add k (Nat.mul j size))) (Nat.ble (Nat.succ j) n)) .bot) .bot) o x i
theorem ixF_eq (o : IxK) (x i : AVal) : ixF o x i = ixA o x i := by
  cases o with
  | no => rfl
  | sl size =>
    cases x <;> cases i <;> try rfl
    rename_i g v k len c kd j
    cases j with
    | ofNat j => show Bool.rec (motive := fun _ => AVal) _ _ _ = _; unfold ixA; dsimp only; cases Nat.ble (Nat.succ j) len <;> rfl
    | negSucc j => rfl
  | ar n size =>
    cases x <;> cases i <;> try rfl
    rename_i g v k kd j
    cases j with
    | ofNat j => show Bool.rec (motive := fun _ => AVal) _ _ _ = _; unfold ixA; dsimp only; cases Nat.ble (Nat.succ j) n <;> rfl
    | negSucc j => rfl
noncomputable def qIxF (P : Program) (t : TypeId) (x i : Opd) : Q := fun s _ => ixF (ixO P t) (opd x s) (opd i s)
theorem qIxF_eq (P : Program) (t : TypeId) (x i : Opd) : qIxF P t x i = qIx P t x i := by funext s h; exact ixF_eq _ _ _

noncomputable def idxF (o : Option (Option (Nat × TI))) (x i : AVal) : AVal :=
  Option.rec (motive := fun _ => AVal → AVal → AVal) (fun _ _ => .bot)
    (fun r => Option.rec (motive := fun _ => AVal → AVal → AVal)
      (fun x i => aStr x (fun n m => aInt i (fun _ j => natI j fun j => Bool.rec (motive := fun _ => AVal) .bot (.int .u8 (.ofNat (Nat.mod (Nat.div m (Nat.pow 256 j)) 256))) (Nat.ble (Nat.succ j) n)) .bot) .bot)
      (fun r x i => idxA (some (some r)) x i) r) o x i
theorem idxF_eq (o : Option (Option (Nat × TI))) (x i : AVal) : idxF o x i = idxA o x i := by
  cases o with
  | none => rfl
  | some r =>
    cases r with
    | some r => rfl
    | none =>
      cases x <;> cases i <;> try rfl
      rename_i n m kd j
      cases j with
      | ofNat j => show Bool.rec (motive := fun _ => AVal) _ _ _ = _; unfold idxA; dsimp only; cases Nat.ble (Nat.succ j) n <;> rfl
      | negSucc j => rfl
noncomputable def qIdxF (P : Program) (t : TypeId) (x i : Opd) : Q := fun s _ => idxF (idxO P t) (opd x s) (opd i s)
theorem qIdxF_eq (P : Program) (t : TypeId) (x i : Opd) : qIdxF P t x i = qIdx P t x i := by funext s h; exact idxF_eq _ _ _

noncomputable def lenSl (x : AVal) : AVal :=
  AVal.rec (motive_1 := fun _ => AVal) (motive_2 := fun _ => AVal)
    (.bot) (fun _ => .bot) (fun _ _ => .bot) (fun _ _ => .bot) (.bot) (fun _ _ _ => .bot) (.int .i64 (.ofNat 0)) (fun _ _ _ n _ => .int .i64 (.ofNat n)) (fun _ _ _ _ _ => .int .i64 (.ofNat 0)) (.bot) (fun _ => .bot) (.bot) (fun _ => .bot) (.bot) (fun _ _ _ _ _ => .bot) (.bot) (fun _ _ _ => .bot) (fun _ _ => .bot) (fun _ _ => .bot) (.bot) (fun _ _ _ _ => .bot) x

noncomputable def lenF (d : TypeDesc) (x : AVal) : AVal :=
  match d with
  | .string => aStr x (fun n _ => .int .i64 (.ofNat n)) .bot
  | .slice _ => lenSl x
  | d => lenA d x
theorem lenF_eq (d : TypeDesc) (x : AVal) : lenF d x = lenA d x := by
  unfold lenF
  split
  · cases x <;> rfl
  · cases x <;> rfl
  · rfl
noncomputable def qLenF (d : TypeDesc) (x : Opd) : Q :=
  match d with
  | .string => fun s _ => aStr (opd x s) (fun n _ => .int .i64 (.ofNat n)) .bot
  | .slice _ => fun s _ => lenSl (opd x s)
  | d => qLen d x
theorem qLenF_eq (d : TypeDesc) (x : Opd) : qLenF d x = qLen d x := by
  unfold qLenF
  split
  · funext s h; unfold qLen; rw [← lenF_eq]; rfl
  · funext s h; unfold qLen; rw [← lenF_eq]; rfl
  · rfl

/- Loads. -/
noncomputable def clF (v : Nat) (c : Cl) : AVal := Cl.rec (motive := fun _ => Nat → AVal) (fun _ => .bot) (fun u a v => Bool.rec (motive := fun _ => AVal) .bot a (Nat.ble u v)) c v
theorem clF_eq (v : Nat) (c : Cl) : clF v c = clA v c := by
  cases c with
  | no => rfl
  | c u a => show Bool.rec (motive := fun _ => AVal) _ _ _ = _; unfold clA; dsimp only; cases Nat.ble u v <;> rfl
noncomputable def ld1F (grp : Grp) (v x : Nat) : AVal :=
  Grp.rec (motive := fun _ => Nat → Nat → AVal) (fun _ _ => .bot) (fun tr n _ _ _ _ _ v x => Bool.rec (motive := fun _ => AVal) .bot (clF v (getC (pthD x) tr)) (Nat.ble (Nat.succ x) n)) (fun _ _ _ _ => .bot) grp v x
theorem ld1F_eq (grp : Grp) (v x : Nat) : ld1F grp v x = ld1 grp v x := by
  cases grp with
  | none => rfl
  | row tr n lv esz elem flo fhi =>
    show Bool.rec (motive := fun _ => AVal) _ _ _ = _
    rw [clF_eq]
    unfold ld1
    dsimp only
    cases Nat.ble (Nat.succ x) n <;> rfl
  | map => rfl
/-- Cells in a row, one behind the other. -/
noncomputable def ldLF (tr : Tr Cl) (v : Nat) (k : Nat) : Pth → (List AVal → AVal) → AVal :=
  Nat.rec (motive := fun _ => Pth → (List AVal → AVal) → AVal) (fun _ c => c [])
    (fun _ ih p c => Bool.rec (motive := fun _ => AVal) (ih p.inc fun l => c (clF v (getC p tr) :: l)) .bot (isBot (clF v (getC p tr)))) k
theorem pathN_succ (n : Nat) : (pathN n).inc = pathN (n + 1) := Pth.nat_inj (by rw [Pth.nat_inc, nat_pathN, nat_pathN])
theorem ldLF_eq {tr : Tr Cl} {n lv esz : Nat} {elem : TypeId} {flo fhi : Nat} (v : Nat) : ∀ (k x : Nat) (c : List AVal → AVal), x + k ≤ n →
    ldLF tr v k (pathN x) c = match ldL (.row tr n lv esz elem flo fhi) v k x with | some l => c l | none => .bot := by
  intro k
  induction k with
  | zero => intro x c _; rfl
  | succ k ih =>
    intro x c hx
    have h1 : ld1 (.row tr n lv esz elem flo fhi) v x = clF v (getC (pathN x) tr) := by
      rw [← ld1F_eq]
      show Bool.rec (motive := fun _ => AVal) _ _ _ = _
      rw [Nat.ble_eq_true_of_le (show Nat.succ x ≤ n from by omega)]
      rfl
    show Bool.rec (motive := fun _ => AVal) (ldLF tr v k (pathN x).inc fun l => c (clF v (getC (pathN x) tr) :: l)) .bot (isBot (clF v (getC (pathN x) tr))) = _
    rw [ldL_succ, h1, pathN_succ, ih (x + 1) _ (by omega)]
    cases isBot (clF v (getC (pathN x) tr)) with
    | true => rfl
    | false =>
      dsimp only
      cases ldL (.row tr n lv esz elem flo fhi) v k (x + 1) <;> rfl
noncomputable def ldAggF (grp : Grp) (v size k : Nat) : AVal :=
  Grp.rec (motive := fun _ => Nat → Nat → Nat → AVal) (fun _ _ _ => .bot)
    (fun tr n lv esz elem flo fhi v size k => Bool.rec (motive := fun _ => AVal) (match ldL (.row tr n lv esz elem flo fhi) v size k with | some l => .agg l | none => .bot) (ldLF tr v size (pathN k) fun l => .agg l) (Nat.ble (Nat.add k size) n))
    (fun es cl v size k => match ldL (.map es cl) v size k with | some l => .agg l | none => .bot) grp v size k
theorem ldAggF_eq (grp : Grp) (v size k : Nat) (hg : grp ≠ .none) : ldAggF grp v size k = match ldL grp v size k with | some l => .agg l | none => .bot := by
  cases grp with
  | none => exact absurd rfl hg
  | map => rfl
  | row tr n lv esz elem flo fhi =>
    show Bool.rec (motive := fun _ => AVal) _ _ (Nat.ble (Nat.add k size) n) = _
    cases h : Nat.ble (Nat.add k size) n with
    | false => rfl
    | true => exact ldLF_eq v size k _ (nble h)
/-- Nothing is loaded where nothing is told, unless nothing is asked. -/
noncomputable def ldAggG (grp : Grp) (v size k : Nat) : AVal := Nat.rec (motive := fun _ => AVal) (match ldL grp v 0 k with | some l => .agg l | none => .bot) (fun m _ => ldAggF grp v (Nat.succ m) k) size
theorem ldAggG_eq (grp : Grp) (v size k : Nat) : ldAggG grp v size k = match ldL grp v size k with | some l => .agg l | none => .bot := by
  cases size with
  | zero => rfl
  | succ m =>
    show ldAggF grp v (m + 1) k = _
    by_cases hg : grp = .none
    · subst hg
      rw [ldL_succ]
      rfl
    · exact ldAggF_eq grp v (m + 1) k hg
noncomputable def ldF (I : TI) (h : Hp) (x : AVal) : AVal :=
  aPtr x (fun g v k => Bool.rec (motive := fun _ => AVal) (ld1F (h.get g) v k) (ldAggG (h.get g) v I.size k) I.ag) .bot
theorem ldF_eq (I : TI) (h : Hp) (x : AVal) : ldF I h x = ldA I h x := by
  cases x <;> try rfl
  rename_i g v k
  show Bool.rec (motive := fun _ => AVal) _ _ I.ag = _
  unfold ldA
  dsimp only
  cases I.ag with
  | true => exact ldAggG_eq _ _ _ _
  | false => exact ld1F_eq _ _ _
noncomputable def qLdF (I : TI) (x : Opd) : Q := fun s h => ldF I h (opd x s)
theorem qLdF_eq (I : TI) (x : Opd) : qLdF I x = qLd I x := by funext s h; exact ldF_eq _ _ _

/- Guards, conditions. -/

noncomputable def w3F (x : AVal) (want : Bool) : W3 :=
  AVal.rec (motive_1 := fun _ => Bool → W3) (motive_2 := fun _ => Bool → W3)
    (fun _ => .bad) (fun b => fun want => Bool.rec (motive := fun _ => W3) (Bool.rec (motive := fun _ => W3) .yes .no want) (Bool.rec (motive := fun _ => W3) .no .yes want) b) (fun _ _ => fun _ => .no) (fun _ _ => fun _ => .no) (fun _ => .no) (fun _ _ _ => fun _ => .no) (fun _ => .no) (fun _ _ _ _ _ => fun _ => .no) (fun _ _ _ _ _ => fun _ => .no) (fun _ => .no) (fun _ => fun _ => .no) (fun _ => .no) (fun _ => fun _ => .no) (fun _ => .no) (fun _ _ _ _ _ => fun _ => .no) (fun _ => .no) (fun _ _ _ => fun _ => .no) (fun _ _ => fun _ => .no) (fun _ _ => fun _ => .no) (fun _ => .no) (fun _ _ _ _ => fun _ => .no) x want

noncomputable def bWF (x : AVal) : W3 :=
  AVal.rec (motive_1 := fun _ => W3) (motive_2 := fun _ => W3)
    (.bad) (fun b => Bool.rec (motive := fun _ => W3) .no .yes b) (fun _ _ => .bad) (fun _ _ => .bad) (.bad) (fun _ _ _ => .bad) (.bad) (fun _ _ _ _ _ => .bad) (fun _ _ _ _ _ => .bad) (.bad) (fun _ => .bad) (.bad) (fun _ => .bad) (.bad) (fun _ _ _ _ _ => .bad) (.bad) (fun _ _ _ => .bad) (fun _ _ => .bad) (fun _ _ => .bad) (.bad) (fun _ _ _ _ => .bad) x

theorem w3F_eq (x : AVal) (want : Bool) : w3F x want = w3 x want := by
  cases x <;> try rfl
  rename_i b
  cases b <;> cases want <;> rfl
theorem bWF_eq (x : AVal) : bWF x = bW x := by
  cases x <;> try rfl
  rename_i b
  cases b <;> rfl

/- Calls. -/
noncomputable def dfFF (fn : Fn) : Option FuncId :=
  match fn with
  | .func f => some f
  | _ => none
noncomputable def scal1F (a : AVal) : Bool :=
  AVal.rec (motive_1 := fun _ => Bool) (motive_2 := fun _ => Bool)
    (false) (fun _ => true) (fun _ _ => true) (fun _ _ => true) (true) (fun _ _ _ => true) (true) (fun _ _ _ _ _ => true) (fun _ _ _ _ _ => true) (true) (fun _ => true) (true) (fun _ => true) (true) (fun _ _ _ _ _ => true) (true) (fun _ _ _ => true) (fun _ _ => false) (fun _ _ => false) (true) (fun _ _ _ _ => true) a
theorem scal1F_eq (a : AVal) : scal1F a = scal1 a := by cases a <;> rfl
noncomputable def cellsF (a : AVal) : List AVal :=
  AVal.rec (motive_1 := fun _ => AVal → List AVal) (motive_2 := fun _ => AVal → List AVal)
    (fun a => [a]) (fun _ => fun a => [a]) (fun _ _ => fun a => [a]) (fun _ _ => fun a => [a]) (fun a => [a]) (fun _ _ _ => fun a => [a]) (fun a => [a]) (fun _ _ _ _ _ => fun a => [a]) (fun _ _ _ _ _ => fun a => [a]) (fun a => [a]) (fun _ => fun a => [a]) (fun a => [a]) (fun _ => fun a => [a]) (fun a => [a]) (fun _ _ _ _ _ => fun a => [a]) (fun a => [a]) (fun _ _ _ => fun a => [a]) (fun l _ => fun _ => l) (fun _ _ => fun a => [a]) (fun a => [a]) (fun _ _ _ _ => fun a => [a]) a a
theorem cellsF_eq (a : AVal) : cellsF a = cellsA a := by cases a <;> rfl
noncomputable def opdsF (S : Nat) (s : Sl) (xs : List Operand) (c : List AVal → LR) : LR :=
  List.rec (motive := fun _ => (List AVal → LR) → LR) (fun c => c []) (fun x _ ih c => Bool.rec (motive := fun _ => LR) (ih fun l => c (opd (cOpd S x) s :: l)) .bad (isBot (opd (cOpd S x) s))) xs c
theorem opdsF_eq (S : Nat) (s : Sl) : ∀ (xs : List Operand) (c : List AVal → LR), opdsF S s xs c = match opds S s xs with | some l => c l | none => .bad := by
  intro xs
  induction xs with
  | nil => intro c; rfl
  | cons x xs ih =>
    intro c
    show Bool.rec (motive := fun _ => LR) (opdsF S s xs fun l => c (opd (cOpd S x) s :: l)) .bad (isBot (opd (cOpd S x) s)) = _
    rw [ih]
    have e : opds S s (x :: xs) = match isBot (opd (cOpd S x) s) with
      | true => none
      | false => match opds S s xs with
        | none => none
        | some l => some (opd (cOpd S x) s :: l) := by
      conv => lhs; unfold opds
      rfl
    rw [e]
    cases isBot (opd (cOpd S x) s) with
    | true => rfl
    | false => cases opds S s xs <;> rfl

/-- What stands behind a function's number. -/
inductive FK where
  | no
  | go
  | ext (k : XK)
noncomputable def fK (P : Program) (f : FuncId) : FK :=
  match P.funcs[f]? with
  | none => .no
  | some fn => match fn.name == "runtime.NumGoroutine" with
    | true => .no
    | false => match fn.body with
      | some _ => .go
      | none => .ext (extK P fn)
noncomputable def cfF (P : Program) (f : FuncId) (h : Hp) (args : List AVal) : LR := FK.rec (motive := fun _ => LR) .bad (.call f args) (fun k => xtA k h args) (fK P f)
theorem cfF_eq (P : Program) (f : FuncId) (h : Hp) (args : List AVal) : cfF P f h args = cfA P f h args := by
  unfold cfF cfA fK
  cases P.funcs[f]? with
  | none => rfl
  | some fn =>
    dsimp only
    cases fn.name == "runtime.NumGoroutine" with
    | true => rfl
    | false =>
      dsimp only
      cases fn.body <;> rfl

noncomputable def lFunc (a : AVal) (f : Fn → List AVal → List AVal → LR) (d : LR) : LR :=
  AVal.rec (motive_1 := fun _ => (Fn → List AVal → List AVal → LR) → LR → LR) (motive_2 := fun _ => (Fn → List AVal → List AVal → LR) → LR → LR)
    (fun _ d => d) (fun _ => fun _ d => d) (fun _ _ => fun _ d => d) (fun _ _ => fun _ d => d) (fun _ d => d) (fun _ _ _ => fun _ d => d) (fun _ d => d) (fun _ _ _ _ _ => fun _ d => d) (fun _ _ _ _ _ => fun _ d => d) (fun _ d => d) (fun _ => fun _ d => d) (fun _ d => d) (fun _ => fun _ d => d) (fun _ d => d) (fun x0 x1 x2 _ _ => fun f _ => f x0 x1 x2) (fun _ d => d) (fun _ _ _ => fun _ d => d) (fun _ _ => fun _ d => d) (fun _ _ => fun _ d => d) (fun _ d => d) (fun _ _ _ _ => fun _ d => d) a f d

noncomputable def lPtr (a : AVal) (f : Pth → Nat → Nat → LR) (d : LR) : LR :=
  AVal.rec (motive_1 := fun _ => (Pth → Nat → Nat → LR) → LR → LR) (motive_2 := fun _ => (Pth → Nat → Nat → LR) → LR → LR)
    (fun _ d => d) (fun _ => fun _ d => d) (fun _ _ => fun _ d => d) (fun _ _ => fun _ d => d) (fun _ d => d) (fun x0 x1 x2 => fun f _ => f x0 x1 x2) (fun _ d => d) (fun _ _ _ _ _ => fun _ d => d) (fun _ _ _ _ _ => fun _ d => d) (fun _ d => d) (fun _ => fun _ d => d) (fun _ d => d) (fun _ => fun _ d => d) (fun _ d => d) (fun _ _ _ _ _ => fun _ d => d) (fun _ d => d) (fun _ _ _ => fun _ d => d) (fun _ _ => fun _ d => d) (fun _ _ => fun _ d => d) (fun _ d => d) (fun _ _ _ _ => fun _ d => d) a f d

noncomputable def lCvF (P : Program) (S : Nat) (f : Opd) (args : List Operand) : LQ := fun s h =>
  lFunc (opd f s) (fun fn first captured => Option.rec (motive := fun _ => LR) .bad (fun f => opdsF S s args fun as => cfF P f h (cat (cat first as) captured)) (dfFF fn)) .bad
theorem lCvF_eq (P : Program) (S : Nat) (f : Opd) (args : List Operand) : lCvF P S f args = lCv P S f args := by
  funext s h
  unfold lCvF lCv
  cases opd f s <;> try rfl
  rename_i fn first captured
  show Option.rec (motive := fun _ => LR) .bad (fun f => opdsF S s args fun as => cfF P f h (cat (cat first as) captured)) (dfFF fn) = _
  unfold dfFF
  cases fn <;> try rfl
  rename_i f
  show opdsF S s args _ = _
  rw [opdsF_eq]
  dsimp only
  cases opds S s args with
  | none => rfl
  | some as => exact cfF_eq _ _ _ _

/- Stores. -/
noncomputable def scalF (l : List AVal) : Bool := List.rec (motive := fun _ => Bool) true (fun a _ ih => Bool.rec (motive := fun _ => Bool) false ih (scal1F a)) l
theorem scalF_eq : ∀ l : List AVal, scalF l = scalL l := by
  intro l
  induction l with
  | nil => rfl
  | cons a l ih =>
    show Bool.rec (motive := fun _ => Bool) false (scalF l) (scal1F a) = _
    rw [ih, scal1F_eq]
    have e : scalL (a :: l) = match scal1 a with | true => scalL l | false => false := by
      conv => lhs; unfold scalL
      rfl
    rw [e]
    cases scal1 a <;> rfl
noncomputable def lenL (l : List AVal) : Nat := List.rec (motive := fun _ => Nat) 0 (fun _ _ ih => Nat.succ ih) l
theorem lenL_eq : ∀ l : List AVal, lenL l = l.length := by
  intro l
  induction l with
  | nil => rfl
  | cons a l ih => show Nat.succ (lenL l) = _; rw [ih]; rfl
noncomputable def frzF' (x k flo fhi : Nat) : Bool := Bool.rec (motive := fun _ => Bool) (Nat.ble fhi x) true (Nat.ble (Nat.add x k) flo)
theorem frzF'_eq (x k flo fhi : Nat) : frzF' x k flo fhi = frzOk x k flo fhi := by
  unfold frzF' frzOk
  cases Nat.ble (Nat.add x k) flo <;> rfl
noncomputable def stGF (h : Hp) (g : Pth) (v x len : Nat) (l : List AVal) : LR :=
  Grp.rec (motive := fun _ => Hp → Pth → Nat → Nat → Nat → List AVal → LR) (fun _ _ _ _ _ _ => .bad)
    (fun tr n lv esz elem flo fhi h g v x len l => Bool.rec (motive := fun _ => LR) .bad (Bool.rec (motive := fun _ => LR) .bad (Bool.rec (motive := fun _ => LR) .bad (Bool.rec (motive := fun _ => LR) .bad
      (.skp (h.put g (.row (stL lv l x tr) n lv esz elem flo fhi))) (scalF l)) (frzF' x len flo fhi)) (Nat.ble (Nat.add x len) n)) (Nat.beq v lv))
    (fun _ _ _ _ _ _ _ _ => .bad) (h.get g) h g v x len l
theorem stGF_eq (h : Hp) (g : Pth) (v x len : Nat) (l : List AVal) (hl : l.length = len) : stGF h g v x len l = match stG h g v x l with | some h' => .skp h' | none => .bad := by
  subst hl
  unfold stGF stG
  cases h.get g <;> try rfl
  rename_i tr n lv esz elem flo fhi
  dsimp only
  rw [scalF_eq, frzF'_eq]
  cases Nat.beq v lv <;> cases Nat.ble (Nat.add x l.length) n <;> cases frzOk x l.length flo fhi <;> cases scalL l <;> rfl
noncomputable def stF (size : Nat) (h : Hp) (x v : AVal) : LR :=
  lPtr x (fun g ver k => Bool.rec (motive := fun _ => LR) (Bool.rec (motive := fun _ => LR) .bad (Bool.rec (motive := fun _ => LR) (.skp h) (stGF h g ver k size (cellsF v)) (Nat.ble 1 size)) (Nat.beq (lenL (cellsF v)) size)) .bad (isBot v)) .bad
theorem stF_eq (size : Nat) (h : Hp) (x v : AVal) : stF size h x v = stA size h x v := by
  cases x <;> try rfl
  rename_i g ver k
  show Bool.rec (motive := fun _ => LR) (Bool.rec (motive := fun _ => LR) .bad (Bool.rec (motive := fun _ => LR) (.skp h) (stGF h g ver k size (cellsF v)) (Nat.ble 1 size)) (Nat.beq (lenL (cellsF v)) size)) .bad (isBot v) = _
  rw [lenL_eq, cellsF_eq]
  unfold stA
  dsimp only
  cases hb : isBot v <;> cases hl : Nat.beq (cellsA v).length size <;> cases Nat.ble 1 size <;> try rfl
  exact stGF_eq _ _ _ _ _ _ (Nat.eq_of_beq_eq_true hl)
noncomputable def lStF (size : Nat) (x v : Opd) : LQ := fun s h => stF size h (opd x s) (opd v s)
theorem lStF_eq (size : Nat) (x v : Opd) : lStF size x v = lSt size x v := by funext s h; exact stF_eq _ _ _ _

/- The table of operations. -/
noncomputable def ldOKF (P : Program) (S : Nat) (t : TypeId) (x : Operand) : OK :=
  match tyI P t with
  | some I => .q true (qLdF I (cOpd S x))
  | none => .bad
noncomputable def stOKF (P : Program) (S : Nat) (t : TypeId) (x y : Operand) : OK :=
  match tyI P t with
  | some I => .l (lStF I.size (cOpd S x) (cOpd S y))
  | none => .bad
theorem ldOKF_eq (P : Program) (S : Nat) (t : TypeId) (x : Operand) : ldOKF P S t x = ldOK P S t x := by
  unfold ldOKF ldOK
  cases tyI P t with
  | none => rfl
  | some I => dsimp only; rw [qLdF_eq]
theorem stOKF_eq (P : Program) (S : Nat) (t : TypeId) (x y : Operand) : stOKF P S t x y = stOK P S t x y := by
  unfold stOKF stOK
  cases tyI P t with
  | none => rfl
  | some I => dsimp only; rw [lStF_eq]
noncomputable def biOKF (P : Program) (S : Nat) (b : Builtin) (args : List Operand) (tys : List TypeId) : OK :=
  match b, args, tys with
  | .len, [x], [t] => match P.underlying t with
    | some d => .q false (qLenF d (cOpd S x))
    | none => .bad
  | b, args, tys => biOK P S b args tys
def constP (parts : List (Nat × Operand)) : Bool :=
  match parts with
  | [] => true
  | (_, x) :: parts => match x with
    | .tmp _ => false
    | _ => constP parts
theorem constP_ok {S : Nat} {s s' : Sl} : ∀ {parts : List (Nat × Operand)}, constP parts = true → ∀ p ∈ parts, opd (cOpd S p.2) s = opd (cOpd S p.2) s' := by
  intro parts
  induction parts with
  | nil => intro _ p hp; cases hp
  | cons q parts ih =>
    obtain ⟨i, x⟩ := q
    intro h p hp
    unfold constP at h
    split at h
    · cases h
    · rename_i hx
      rcases List.mem_cons.1 hp with rfl | hp
      · cases x with
        | tmp n => exact absurd rfl (hx n)
        | const v => rfl
        | global g =>
          show opd (match Nat.ble (Nat.succ g) S with | true => .c (.ptr (pathN g) 0 0) | false => .c .bot) s = opd (match Nat.ble (Nat.succ g) S with | true => .c (.ptr (pathN g) 0 0) | false => .c .bot) s'
          cases Nat.ble (Nat.succ g) S <;> rfl
        | func f => rfl
      · exact ih h p hp
/-- A row of constants is made once. -/
noncomputable def nBslF (P : Program) (S : Nat) (t : TypeId) (len : Nat) (parts : List (Nat × Operand)) : NQ :=
  Bool.rec (motive := fun _ => NQ) (nBsl P S t len parts) (fun _ => nBsl P S t len parts (sNil 0)) (constP parts)
theorem nBslF_eq (P : Program) (S : Nat) (t : TypeId) (len : Nat) (parts : List (Nat × Operand)) : nBslF P S t len parts = nBsl P S t len parts := by
  unfold nBslF
  cases hc : constP parts with
  | false => rfl
  | true =>
    funext s
    show nBsl P S t len parts (sNil 0) = nBsl P S t len parts s
    unfold nBsl bslA
    split <;> first | rfl | skip
    split <;> first | rfl | skip
    split <;> first | rfl | skip
    split <;> first | rfl | skip
    rw [fillA_congr _ parts _ (constP_ok (s := sNil 0) (s' := s) hc)]
noncomputable def opKF (P : Program) (S : Nat) (o : Oper) : OK :=
  match o.op with
  | .pick c a b => .q false (qPickF (cOpd S c) (cOpd S a) (cOpd S b))
  | .load t a => ldOKF P S t a
  | .store t a x => stOKF P S t a x
  | .nilCheck x => .q false (qNilF (cOpd S x))
  | .binOp op t x y _ => .q false (qBinF P op t (isConstO x || isConstO y) (cOpd S x) (cOpd S y))
  | .unOp op _ x => .q false (qUnF op (cOpd S x))
  | .buildSlice t len parts => .n (nBslF P S t len parts.toList)
  | .fieldAddr t x f => .q false (qFaF P t f (cOpd S x))
  | .indexAddr t x i => .q false (qIxF P t (cOpd S x) (cOpd S i))
  | .index t x i => .q false (qIdxF P t (cOpd S x) (cOpd S i))
  | .extract x i => .q false (qExtF i (cOpd S x))
  | .call c => match c.callee with
    | .builtin b => biOKF P S b c.args.toList c.argTypes.toList
    | .value f => .l (lCvF P S (cOpd S f) c.args.toList)
    | .invoke x name => .l (lInv P S (cOpd S x) name c.args.toList)
  | _ => opK P S o

theorem biOKF_eq (P : Program) (S : Nat) (b : Builtin) (args : List Operand) (tys : List TypeId) : biOKF P S b args tys = biOK P S b args tys := by
  unfold biOKF
  split
  · rename_i x t
    unfold biOK
    dsimp only
    cases P.underlying t with
    | none => rfl
    | some d => dsimp only; rw [qLenF_eq]
  · rfl

theorem opKF_eq (P : Program) (S : Nat) (o : Oper) : opKF P S o = opK P S o := by
  unfold opKF
  split <;> first | rfl | skip
  all_goals rename_i he; unfold opK; rw [he]; dsimp only
  · rw [qPickF_eq]
  · exact ldOKF_eq _ _ _ _
  · exact stOKF_eq _ _ _ _ _
  · rw [qNilF_eq]
  · rw [qBinF_eq]
  · rw [qUnF_eq]
  · rw [nBslF_eq]
  · rw [qFaF_eq]
  · rw [qIxF_eq]
  · rw [qIdxF_eq]
  · rw [qExtF_eq]
  · split
    · rename_i hc; rw [biOKF_eq, hc]
    · rename_i hc; rw [lCvF_eq, hc]
    · rename_i hc; rw [hc]

end Go.Abs

/- The same run, told so that a reduction of it is short: regions, code, calls. -/
namespace Go.Abs

noncomputable def putE (dk : DK) (v : AVal) (ih : Sl → List ADef → Hp → ER) (s : Sl) (d : List ADef) (h : Hp) : ER :=
  DK.rec (motive := fun _ => AVal → (Sl → List ADef → Hp → ER) → Sl → List ADef → Hp → ER) (fun _ ih s d h => ih s d h)
    (fun p v ih s d h => Sl.rec (motive := fun _ => ER) (fun l t m w => ih (.mk (.c p v l) t m (Nat.lor w (Nat.pow 2 p))) d h) s) dk v ih s d h
theorem putE_eq (dk : DK) (v : AVal) (ih : Sl → List ADef → Hp → ER) (s : Sl) (d : List ADef) (h : Hp) : putE dk v ih s d h = putS dk v s fun s => ih s d h := by
  cases dk with
  | none => rfl
  | to p => cases s; rfl

noncomputable def opnH (h : Hp) (k : Hp → ER) : ER := Hp.rec (motive := fun _ => ER) (fun tr nx => opnG tr fun tr => k ⟨tr, nx⟩) h
theorem opnH_eq (h : Hp) (k : Hp → ER) : opnH h k = k h := by
  cases h with
  | mk tr nx => show opnG tr (fun tr => k ⟨tr, nx⟩) = _; rw [opnG_eq]

noncomputable def gdd (gk : GK) (s : Sl) (a b : ER) : ER :=
  GK.rec (motive := fun _ => Sl → ER → ER → ER) (fun _ a _ => a) (fun _ _ b => b) (fun p want s a b => W3.rec (motive := fun _ => ER) a b .bad (w3F (sget p s) want)) gk s a b
theorem gdd_eq (gk : GK) (s : Sl) (a b : ER) : gdd gk s a b = W3.rec (motive := fun _ => ER) a b .bad (gdA gk s) := by
  cases gk with
  | always => rfl
  | never => rfl
  | slot p want =>
    show W3.rec (motive := fun _ => ER) a b .bad (w3F (sget p s) want) = _
    rw [w3F_eq]
    rfl

noncomputable def cK (v : AVal) (dk : DK) (ih : Sl → List ADef → Hp → ER) (s : Sl) (d : List ADef) (h : Hp) : ER :=
  Bool.rec (motive := fun _ => ER) (putE dk v ih s d h) .bad (isBot v)

noncomputable def lK (r : LR) (cal : Cal) (dk : DK) (ih : Sl → List ADef → Hp → ER) (s : Sl) (d : List ADef) (h : Hp) : ER :=
  LR.rec (motive := fun _ => ER) .bad (fun x h' => opnH h' fun h' => putE dk x ih s d h') (fun h' => opnH h' fun h' => putE dk undefA ih s d h')
    (fun g as => CR.rec (motive := fun _ => ER) .bad (fun v h' => putE dk v ih s d h') (fun ch h' => .pan ch s d h') (cal g as h))
    (fun x => .pan [⟨x, false⟩] s d h) (fun fn cap as => putE dk undefA ih s (⟨fn, cap, as⟩ :: d) h) .bad r

noncomputable def stp (k : OK) (gk : GK) (dk : DK) (cal : Cal) (ih : Sl → List ADef → Hp → ER) (s : Sl) (d : List ADef) (h : Hp) : ER :=
  OK.rec (motive := fun _ => GK → DK → Cal → (Sl → List ADef → Hp → ER) → Sl → List ADef → Hp → ER) (fun gk dk _ ih s d h => gdd gk s .bad (putE dk undefA ih s d h))
    (fun _ f gk dk _ ih s d h => gdd gk s (cK (f s h) dk ih s d h) (putE dk undefA ih s d h))
    (fun f gk dk _ ih s d h => gdd gk s (NR.rec (motive := fun _ => ER) .bad (fun grp k => opnH (h.add grp) fun h' => putE dk (mkA k h.nx) ih s d h') (f s)) (putE dk undefA ih s d h))
    (fun f gk dk cal ih s d h => gdd gk s (lK (f s h) cal dk ih s d h) (putE dk undefA ih s d h)) k gk dk cal ih s d h

theorem stp_eq (k : OK) (gk : GK) (dk : DK) (cal : Cal) (ih : Sl → List ADef → Hp → ER) (s : Sl) (d : List ADef) (h : Hp) :
    stp k gk dk cal ih s d h = W3.rec (motive := fun _ => ER)
      (SO.rec (motive := fun _ => ER) .bad (fun v d' h' => putS dk v s fun s' => ih s' d' h') (fun ch h' => .pan ch s d h') .bad (doO cal k s d h))
      (putS dk undefA s fun s' => ih s' d h) .bad (gdA gk s) := by
  have key : ∀ a : ER, a = SO.rec (motive := fun _ => ER) .bad (fun v d' h' => putS dk v s fun s' => ih s' d' h') (fun ch h' => .pan ch s d h') .bad (doO cal k s d h) →
      gdd gk s a (putE dk undefA ih s d h) = W3.rec (motive := fun _ => ER)
      (SO.rec (motive := fun _ => ER) .bad (fun v d' h' => putS dk v s fun s' => ih s' d' h') (fun ch h' => .pan ch s d h') .bad (doO cal k s d h))
      (putS dk undefA s fun s' => ih s' d h) .bad (gdA gk s) := by
    intro a ha
    rw [gdd_eq, putE_eq, ha]
  cases k with
  | bad => exact key _ rfl
  | q mem f =>
    refine key _ ?_
    show Bool.rec (motive := fun _ => ER) (putE dk (f s h) ih s d h) .bad (isBot (f s h)) = SO.rec (motive := fun _ => ER) .bad (fun v d' h' => putS dk v s fun s' => ih s' d' h') (fun ch h' => .pan ch s d h') .bad
      (Bool.rec (motive := fun _ => SO) (.ok (f s h) d h) .bad (isBot (f s h)))
    rw [putE_eq]
    cases isBot (f s h) <;> rfl
  | n f =>
    refine key _ ?_
    show NR.rec (motive := fun _ => ER) .bad (fun grp k => opnH (h.add grp) fun h' => putE dk (mkA k h.nx) ih s d h') (f s) = SO.rec (motive := fun _ => ER) .bad (fun v d' h' => putS dk v s fun s' => ih s' d' h') (fun ch h' => .pan ch s d h') .bad
      (NR.rec (motive := fun _ => SO) .bad (fun grp k => .ok (mkA k h.nx) d (h.add grp)) (f s))
    cases f s with
    | bad => rfl
    | mk grp k =>
      show opnH (h.add grp) (fun h' => putE dk (mkA k h.nx) ih s d h') = _
      rw [opnH_eq, putE_eq]
  | l f =>
    refine key _ ?_
    show lK (f s h) cal dk ih s d h = SO.rec (motive := fun _ => ER) .bad (fun v d' h' => putS dk v s fun s' => ih s' d' h') (fun ch h' => .pan ch s d h') .bad
      (LR.rec (motive := fun _ => SO) .bad (fun x h' => .ok x d h') (fun h' => .ok undefA d h')
      (fun g as => CR.rec (motive := fun _ => SO) .bad (fun v h' => .ok v d h') (fun ch h' => .pan ch h') (cal g as h))
      (fun x => .pan [⟨x, false⟩] h) (fun fn cap as => .ok undefA (⟨fn, cap, as⟩ :: d) h) .rcv (f s h))
    cases f s h with
    | bad => rfl
    | val x h' => show opnH h' (fun h' => putE dk x ih s d h') = _; rw [opnH_eq, putE_eq]
    | skp h' => show opnH h' (fun h' => putE dk undefA ih s d h') = _; rw [opnH_eq, putE_eq]
    | call g as =>
      show CR.rec (motive := fun _ => ER) .bad (fun v h' => putE dk v ih s d h') (fun ch h' => .pan ch s d h') (cal g as h) = SO.rec (motive := fun _ => ER) .bad (fun v d' h' => putS dk v s fun s' => ih s' d' h') (fun ch h' => .pan ch s d h') .bad
        (CR.rec (motive := fun _ => SO) .bad (fun v h' => .ok v d h') (fun ch h' => .pan ch h') (cal g as h))
      cases cal g as h with
      | bad => rfl
      | ret v h' => exact putE_eq _ _ _ _ _ _
      | pan ch h' => rfl
    | pan x => rfl
    | dfr fn cap as => exact putE_eq _ _ _ _ _ _
    | rcv => rfl

noncomputable def seqRF (P : Program) (S N : Nat) (cal : Cal) (ops : Array Oper) (l : List Oper) : Sl → List ADef → Hp → ER :=
  List.rec (motive := fun _ => Sl → List ADef → Hp → ER) (fun s d h => .nrm s d h) (fun o _ ih s d h => stp (opKF P S o) (gK ops o) (dK N o) cal ih s d h) l

theorem seqRF_eq (P : Program) (S N : Nat) (cal : Cal) (ops : Array Oper) : ∀ (l : List Oper) (s : Sl) (d : List ADef) (h : Hp), seqRF P S N cal ops l s d h = seqR P S N cal ops l s d h := by
  intro l
  induction l with
  | nil => intro s d h; rfl
  | cons o l ih =>
    intro s d h
    show stp (opKF P S o) (gK ops o) (dK N o) cal (seqRF P S N cal ops l) s d h = _
    rw [stp_eq, opKF_eq]
    have e : seqRF P S N cal ops l = seqR P S N cal ops l := funext fun s => funext fun d => funext fun h => ih s d h
    rw [e]
    rfl

noncomputable def regRF (P : Program) (S N : Nat) (cal : Cal) (ops : Array Oper) (s : Sl) (d : List ADef) (h : Hp) : ER := flush s fun s => seqRF P S N cal ops ops.toList s d h
theorem regRF_eq (P : Program) (S N : Nat) (cal : Cal) (ops : Array Oper) (s : Sl) (d : List ADef) (h : Hp) : regRF P S N cal ops s d h = regR P S N cal ops s d h := by
  unfold regRF regR
  rw [flush_eq, flush_eq, seqRF_eq]

/- Regions that may go in any order. -/
noncomputable def putQ (dk : DK) (v : AVal) (ih : Sl → Hp → List Pd → List Ck → QR) (s : Sl) (h : Hp) (pd : List Pd) (ck : List Ck) : QR :=
  DK.rec (motive := fun _ => AVal → (Sl → Hp → List Pd → List Ck → QR) → Sl → Hp → List Pd → List Ck → QR) (fun _ ih s h pd ck => ih s h pd ck)
    (fun p v ih s h pd ck => Sl.rec (motive := fun _ => QR) (fun l t m w => ih (.mk (.c p v l) t m (Nat.lor w (Nat.pow 2 p))) h pd ck) s) dk v ih s h pd ck
theorem putQ_eq (dk : DK) (v : AVal) (ih : Sl → Hp → List Pd → List Ck → QR) (s : Sl) (h : Hp) (pd : List Pd) (ck : List Ck) : putQ dk v ih s h pd ck = putS dk v s fun s => ih s h pd ck := by
  cases dk with
  | none => rfl
  | to p => cases s; rfl

noncomputable def gdq (gk : GK) (s : Sl) (a b : QR) : QR :=
  GK.rec (motive := fun _ => Sl → QR → QR → QR) (fun _ a _ => a) (fun _ _ b => b) (fun p want s a b => W3.rec (motive := fun _ => QR) a b .bad (w3F (sget p s) want)) gk s a b
theorem gdq_eq (gk : GK) (s : Sl) (a b : QR) : gdq gk s a b = W3.rec (motive := fun _ => QR) a b .bad (gdA gk s) := by
  cases gk with
  | always => rfl
  | never => rfl
  | slot p want =>
    show W3.rec (motive := fun _ => QR) a b .bad (w3F (sget p s) want) = _
    rw [w3F_eq]
    rfl

noncomputable def chQ (v : AVal) (a : QR) : QR := Bool.rec (motive := fun _ => QR) a .bad (isBot v)

noncomputable def memQ (f : Q) (m hi : Nat) (dk : DK) (ih : Sl → Hp → List Pd → List Ck → QR) (s : Sl) (h : Hp) (pd : List Pd) (ck : List Ck) (hm : Hp) : QR :=
  chQ (f s hm) (putQ dk (f s hm) ih s h pd (⟨f, s, f s hm, m, hi⟩ :: ck))

noncomputable def qstp (k : OK) (gk : GK) (dk : DK) (q : Qi) (ih : Sl → Hp → List Pd → List Ck → QR) (s : Sl) (h : Hp) (pd : List Pd) (ck : List Ck) : QR :=
  OK.rec (motive := fun _ => GK → DK → Qi → (Sl → Hp → List Pd → List Ck → QR) → Sl → Hp → List Pd → List Ck → QR)
    (fun gk dk _ ih s h pd ck => gdq gk s .bad (putQ dk undefA ih s h pd ck))
    (fun mem f gk dk q ih s h pd ck => gdq gk s (Bool.rec (motive := fun _ => QR) (chQ (f s h) (putQ dk (f s h) ih s h pd ck)) (memQ f q.t.m q.hi dk ih s h pd ck (mergeM q.t.m pd h)) mem) (putQ dk undefA ih s h pd ck))
    (fun f gk dk q ih s h pd ck => gdq gk s (NR.rec (motive := fun _ => QR) .bad (fun grp k => putQ dk (mkA k h.nx) ih s ⟨h.tr, h.nx.inc⟩ (⟨h.nx, grp, q.hi, q.t.i⟩ :: pd) ck) (f s)) (putQ dk undefA ih s h pd ck))
    (fun _ gk dk _ ih s h pd ck => gdq gk s .bad (putQ dk undefA ih s h pd ck)) k gk dk q ih s h pd ck

noncomputable def qsRF (P : Program) (S N : Nat) (ops : Array Oper) (l : List Qi) : Sl → Hp → List Pd → List Ck → QR :=
  List.rec (motive := fun _ => Sl → Hp → List Pd → List Ck → QR) (fun s h pd ck => .ok s h pd ck)
    (fun q _ ih s h pd ck => qstp (opKF P S q.t.o) (gK ops q.t.o) (dK N q.t.o) q ih s h pd ck) l

theorem qsRF_eq (P : Program) (S N : Nat) (ops : Array Oper) : ∀ (l : List Qi) (s : Sl) (h : Hp) (pd : List Pd) (ck : List Ck), qsRF P S N ops l s h pd ck = qsR P S N ops l s h pd ck := by
  intro l
  induction l with
  | nil => intro s h pd ck; rfl
  | cons q l ih =>
    intro s h pd ck
    show qstp (opKF P S q.t.o) (gK ops q.t.o) (dK N q.t.o) q (qsRF P S N ops l) s h pd ck = W3.rec (motive := fun _ => QR)
      (OK.rec (motive := fun _ => QR) .bad
        (fun mem f => Bool.rec (motive := fun _ => QR)
          (Bool.rec (motive := fun _ => QR) (putS (dK N q.t.o) (f s h) s fun s' => qsR P S N ops l s' h pd ck) .bad (isBot (f s h)))
          (Bool.rec (motive := fun _ => QR) (putS (dK N q.t.o) (f s (mergeM q.t.m pd h)) s fun s' => qsR P S N ops l s' h pd (⟨f, s, f s (mergeM q.t.m pd h), q.t.m, q.hi⟩ :: ck)) .bad (isBot (f s (mergeM q.t.m pd h)))) mem)
        (fun f => NR.rec (motive := fun _ => QR) .bad (fun grp k => putS (dK N q.t.o) (mkA k h.nx) s fun s' => qsR P S N ops l s' ⟨h.tr, h.nx.inc⟩ (⟨h.nx, grp, q.hi, q.t.i⟩ :: pd) ck) (f s))
        (fun _ => .bad) (opK P S q.t.o))
      (putS (dK N q.t.o) undefA s fun s' => qsR P S N ops l s' h pd ck)
      .bad (gdA (gK ops q.t.o) s)
    have e : qsRF P S N ops l = qsR P S N ops l := funext fun s => funext fun h => funext fun pd => funext fun ck => ih s h pd ck
    rw [e, opKF_eq]
    generalize opK P S q.t.o = k
    cases k with
    | bad =>
      show gdq (gK ops q.t.o) s .bad (putQ (dK N q.t.o) undefA (qsR P S N ops l) s h pd ck) = _
      rw [gdq_eq, putQ_eq]
    | q mem f =>
      show gdq (gK ops q.t.o) s (Bool.rec (motive := fun _ => QR) (chQ (f s h) (putQ (dK N q.t.o) (f s h) (qsR P S N ops l) s h pd ck)) (memQ f q.t.m q.hi (dK N q.t.o) (qsR P S N ops l) s h pd ck (mergeM q.t.m pd h)) mem) (putQ (dK N q.t.o) undefA (qsR P S N ops l) s h pd ck) = _
      unfold memQ chQ
      rw [gdq_eq, putQ_eq, putQ_eq, putQ_eq]
    | n f =>
      show gdq (gK ops q.t.o) s (NR.rec (motive := fun _ => QR) .bad (fun grp k => putQ (dK N q.t.o) (mkA k h.nx) (qsR P S N ops l) s ⟨h.tr, h.nx.inc⟩ (⟨h.nx, grp, q.hi, q.t.i⟩ :: pd) ck) (f s)) (putQ (dK N q.t.o) undefA (qsR P S N ops l) s h pd ck) = _
      have key : ∀ r : NR, (NR.rec (motive := fun _ => QR) .bad (fun grp k => putQ (dK N q.t.o) (mkA k h.nx) (qsR P S N ops l) s ⟨h.tr, h.nx.inc⟩ (⟨h.nx, grp, q.hi, q.t.i⟩ :: pd) ck) r) =
          NR.rec (motive := fun _ => QR) .bad (fun grp k => putS (dK N q.t.o) (mkA k h.nx) s fun s' => qsR P S N ops l s' ⟨h.tr, h.nx.inc⟩ (⟨h.nx, grp, q.hi, q.t.i⟩ :: pd) ck) r := by
        intro r
        cases r with
        | bad => rfl
        | mk grp k => exact putQ_eq _ _ _ _ _ _ _
      rw [gdq_eq, putQ_eq, key]
    | l f =>
      show gdq (gK ops q.t.o) s .bad (putQ (dK N q.t.o) undefA (qsR P S N ops l) s h pd ck) = _
      rw [gdq_eq, putQ_eq]

noncomputable def ckE (b : Bool) (a : ER) : ER := Bool.rec (motive := fun _ => ER) .bad a b
noncomputable def segRF (P : Program) (S N : Nat) (cal : Cal) (ops : Array Oper) (s0 : Sl) (l : List Seg) : Nat → Sl → List ADef → Hp → List Pd → List Ck → ER :=
  List.rec (motive := fun _ => Nat → Sl → List ADef → Hp → List Pd → List Ck → ER) (fun _ _ _ _ _ _ => .bad)
    (fun sg _ ih p s d h pd ck => QR.rec (motive := fun _ => ER) .bad
      (fun s h pd ck => Option.rec (motive := fun _ => ER) (opnH (mergeAll pd h) fun h => .nrm s d h)
        (fun t => W3.rec (motive := fun _ => ER)
          (SO.rec (motive := fun _ => ER) .bad
            (fun v d' h' => opnH h' fun h' => putS (dK N t.o) v s fun s' => ckE (ckB (Nat.succ p) (restP p pd) h' ck) (ih (Nat.succ p) s' d' h' (restP p pd) ck))
            (fun ch h' => .pan ch (clrS N ops.toList s0) d h') .bad (doO cal (opKF P S t.o) s d (mergeH p pd h)))
          (opnH (mergeH p pd h) fun h' => putS (dK N t.o) undefA s fun s' => ckE (ckB (Nat.succ p) (restP p pd) h' ck) (ih (Nat.succ p) s' d h' (restP p pd) ck))
          .bad (gdA (gK ops t.o) s)) sg.l)
      (qsRF P S N ops sg.qs s h pd ck)) l

theorem segRF_eq (P : Program) (S N : Nat) (cal : Cal) (ops : Array Oper) (s0 : Sl) : ∀ (l : List Seg) (p : Nat) (s : Sl) (d : List ADef) (h : Hp) (pd : List Pd) (ck : List Ck), segRF P S N cal ops s0 l p s d h pd ck = segR P S N cal ops s0 l p s d h pd ck := by
  intro l
  induction l with
  | nil => intro p s d h pd ck; rfl
  | cons sg l ih =>
    intro p s d h pd ck
    have e : segRF P S N cal ops s0 l = segR P S N cal ops s0 l := funext fun p => funext fun s => funext fun d => funext fun h => funext fun pd => funext fun ck => ih p s d h pd ck
    show QR.rec (motive := fun _ => ER) .bad
      (fun s h pd ck => Option.rec (motive := fun _ => ER) (opnH (mergeAll pd h) fun h => .nrm s d h)
        (fun t => W3.rec (motive := fun _ => ER)
          (SO.rec (motive := fun _ => ER) .bad
            (fun v d' h' => opnH h' fun h' => putS (dK N t.o) v s fun s' => ckE (ckB (Nat.succ p) (restP p pd) h' ck) (segRF P S N cal ops s0 l (Nat.succ p) s' d' h' (restP p pd) ck))
            (fun ch h' => .pan ch (clrS N ops.toList s0) d h') .bad (doO cal (opKF P S t.o) s d (mergeH p pd h)))
          (opnH (mergeH p pd h) fun h' => putS (dK N t.o) undefA s fun s' => ckE (ckB (Nat.succ p) (restP p pd) h' ck) (segRF P S N cal ops s0 l (Nat.succ p) s' d h' (restP p pd) ck))
          .bad (gdA (gK ops t.o) s)) sg.l)
      (qsRF P S N ops sg.qs s h pd ck) = _
    rw [e, qsRF_eq]
    simp only [opnH_eq, opKF_eq]
    rfl

noncomputable def drRF (P : Program) (S N : Nat) (cal : Cal) (ops : Array Oper) (s : Sl) (d : List ADef) (h : Hp) : ER :=
  Option.rec (motive := fun _ => ER) .bad (fun segs => flush s fun s => segRF P S N cal ops s segs 0 s d h [] []) (planO P S N ops)
theorem drRF_eq (P : Program) (S N : Nat) (cal : Cal) (ops : Array Oper) (s : Sl) (d : List ADef) (h : Hp) : drRF P S N cal ops s d h = drR P S N cal ops s d h := by
  unfold drRF drR
  cases planO P S N ops with
  | none => rfl
  | some segs =>
    show flush s (fun s => segRF P S N cal ops s segs 0 s d h [] []) = flush s (fun s => segR P S N cal ops s segs 0 s d h [] [])
    rw [flush_eq, flush_eq, segRF_eq]

noncomputable def fReg (P : Program) (S N : Nat) (cal : Cal) (ops : Array Oper) (draw : Bool) (s : Sl) (d : List ADef) (h : Hp) : ER :=
  Bool.rec (motive := fun _ => ER) (regRF P S N cal ops s d h) (drRF P S N cal ops s d h) draw
noncomputable def fCond (S : Nat) (c : Operand) (x y : Sl → List ADef → Hp → ER) (s : Sl) (d : List ADef) (h : Hp) : ER :=
  W3.rec (motive := fun _ => ER) (x s d h) (y s d h) .bad (bWF (opd (cOpd S c) s))
noncomputable def fSeq (x y : Sl → List ADef → Hp → ER) (s : Sl) (d : List ADef) (h : Hp) : ER := bindN (x s d h) y
noncomputable def fBlk (id : Nat) (x : Sl → List ADef → Hp → ER) (s : Sl) (d : List ADef) (h : Hp) : ER := blkR id (x s d h)

noncomputable def FF (P : Program) (S n : Nat) (cal : Cal) (ih : Ev) (N : Nat) (c : Code) : Sl → List ADef → Hp → ER :=
  Code.rec (motive := fun _ => Nat → Ev → (Nat → Array Oper → Bool → Sl → List ADef → Hp → ER) → Sl → List ADef → Hp → ER)
    (fun _ _ _ s d h => .nrm s d h)
    (fun _ ops draw N _ rg s d h => rg N ops draw s d h)
    (fun a b _ _ N ih _ s d h => fSeq (ih N a) (ih N b) s d h)
    (fun c a b _ _ N ih _ s d h => fCond S c (ih N a) (ih N b) s d h)
    (fun id body _ N ih _ s d h => fBlk id (ih N body) s d h)
    (fun body _ N ih _ s d h => loopN (ih N body) n s d h)
    (fun _ _ _ _ _ _ _ _ _ _ _ _ => .bad)
    (fun id _ _ _ s d h => .ext id s d h)
    (fun _ _ _ _ _ _ _ _ => .bad)
    (fun _ _ _ _ s d h => .nrm s d h)
    (fun _ _ _ _ _ _ _ => .bad)
    (fun _ _ _ s d h => .ret s d h)
    (fun _ _ _ _ _ _ _ => .bad) c N ih (fun N ops draw s d h => fReg P S N cal ops draw s d h)

theorem FF_eq (P : Program) (S n : Nat) (cal : Cal) (ih : Ev) : FF P S n cal ih = F P S n cal ih := by
  funext N c s d h
  cases c <;> try rfl
  · rename_i id ops draw
    cases draw with
    | false => exact regRF_eq P S N cal ops s d h
    | true => exact drRF_eq P S N cal ops s d h
  · rename_i c a b
    show W3.rec (motive := fun _ => ER) (ih N a s d h) (ih N b s d h) .bad (bWF (opd (cOpd S c) s)) = W3.rec (motive := fun _ => ER) (ih N a s d h) (ih N b s d h) .bad (bW (opd (cOpd S c) s))
    rw [bWF_eq]

/- Calls. -/
inductive CK where
  | no
  | mk (N x : Nat) (c : Code) (fn : Func)
noncomputable def ckO (P : Program) (f : FuncId) : CK :=
  match P.funcs[f]? with
  | none => .no
  | some fn => match fn.body with
    | none => .no
    | some c => .mk fn.ntmps (expM fn) c fn
noncomputable def callFF (P : Program) (S : Nat) (cal : Cal) (ih : Ev) (f : FuncId) (args : List AVal) (h : Hp) : CR :=
  CK.rec (motive := fun _ => Cal → Ev → List AVal → Hp → CR) (fun _ _ _ _ => .bad)
    (fun N x c fn cal ih args h => Bool.rec (motive := fun _ => CR) .bad (finR P S cal ih fn (ih N c (argS 0 args (sNil x)) [] h)) (Nat.ble (lenL args) N)) (ckO P f) cal ih args h
theorem callFF_eq (P : Program) (S : Nat) (cal : Cal) (ih : Ev) : callFF P S cal ih = callF P S cal ih := by
  funext f args h
  unfold callFF callF ckO
  cases P.funcs[f]? with
  | none => rfl
  | some fn =>
    dsimp only
    cases fn.body with
    | none => rfl
    | some c =>
      show Bool.rec (motive := fun _ => CR) .bad (finR P S cal ih fn (ih fn.ntmps c (argS 0 args (sNil (expM fn))) [] h)) (Nat.ble (lenL args) fn.ntmps) = _
      rw [lenL_eq]
      dsimp only
      cases Nat.ble args.length fn.ntmps <;> rfl

noncomputable def evcF (P : Program) (S : Nat) (n : Nat) : EvC :=
  Nat.rec (motive := fun _ => EvC) ⟨fun _ _ _ _ _ => .bad, fun _ _ _ => .bad⟩ (fun n ih => ⟨FF P S n ih.cal ih.ev, callFF P S ih.cal ih.ev⟩) n

theorem evcF_eq (P : Program) (S : Nat) : ∀ n, evcF P S n = evc P S n := by
  intro n
  induction n with
  | zero => rfl
  | succ n ih =>
    show (⟨FF P S n (evcF P S n).cal (evcF P S n).ev, callFF P S (evcF P S n).cal (evcF P S n).ev⟩ : EvC) = _
    rw [ih, FF_eq, callFF_eq]
    rfl

theorem evcF_sound2 {P : Program} (hm : P.follows .mixedOrders = true) (S n : Nat) : EvOk P S (evcF P S n).ev ∧ CalOk P S (evcF P S n).cal := by
  rw [evcF_eq]
  exact evc_ok (fun _ hcal _ _ _ _ _ _ hr hn _ _ _ id st => drR_ok hm hcal hr hn id st) n

theorem evcF_sound {P : Program} (hm : P.follows .mixedOrders = true) (S n : Nat) : CalOk P S (evcF P S n).cal := by
  rw [evcF_eq]
  exact evc_sound hm S n

end Go.Abs

/- A call, from the run: in one piece, or in two with what is no longer asked forgotten in between. -/
namespace Go.Abs
open Go.RowKit

/- Code as a row of statements. -/
noncomputable def flatC (c : Code) (r : List Code) : List Code :=
  Code.rec (motive := fun _ => List Code → List Code) (fun r => .skip :: r) (fun id ops d r => .region id ops d :: r) (fun _ _ ia ib r => ia (ib r)) (fun c a b _ _ r => .cond c a b :: r)
    (fun id b _ r => .block id b :: r) (fun b _ r => .loop b :: r) (fun f p a b _ _ r => .rangeFunc f p a b :: r) (fun id r => .exit id :: r) (fun b _ r => .scope b :: r) (fun l r => .label l :: r) (fun l r => .goto l :: r)
    (fun r => .ret :: r) (fun w r => .refuse w :: r) c r

noncomputable def evL (ev : Nat → Code → Sl → List ADef → Hp → ER) (N : Nat) (l : List Code) : Sl → List ADef → Hp → ER :=
  List.rec (motive := fun _ => Sl → List ADef → Hp → ER) (fun s d h => .nrm s d h) (fun c _ ih s d h => bindN (ev N c s d h) ih) l

def wpL (P : Program) (Q : Exit → Act → World → Prop) : List Code → Act → World → Prop
  | [] => Q .normal
  | c :: l => c.wp P (Exit.then (wpL P Q l) Q)

theorem wpL_flat {P : Program} {Q : Exit → Act → World → Prop} : ∀ (c : Code) (l : List Code) (a : Act) (w : World), wpL P Q (flatC c l) a w → c.wp P (Exit.then (wpL P Q l) Q) a w := by
  intro c
  induction c with
  | seq x y ihx ihy =>
    intro l a w h
    refine wp_seq (wp_mono (ihx _ a w h) fun e a1 w1 he => ?_)
    cases e <;> first | exact ihy l a1 w1 he | exact he
  | _ => intro l a w h; exact h

theorem wpL_body {P : Program} {Q : Exit → Act → World → Prop} {c : Code} {a : Act} {w : World} (h : wpL P Q (flatC c []) a w) : c.wp P Q a w :=
  wp_mono (wpL_flat c [] a w h) fun e a1 w1 he => by cases e <;> exact he

theorem evL_ok {P : Program} {S N : Nat} {ev : Ev} (hev : EvOk P S ev) : ∀ (l : List Code) (s : Sl) (d : List ADef) (h : Hp) (r : ER), evL ev N l s d h = r → r ≠ .bad → ∀ (φ : Env) (a : Act) (w : World), St S N φ s d h a w →
    wpL P (ERok S N φ h w r) l a w := by
  intro l
  induction l with
  | nil =>
    intro s d h r hr hn φ a w st
    have hr : ER.nrm s d h = r := hr
    subst hr
    exact ⟨φ, st, Fw.refl _ _ _ _⟩
  | cons c l ih =>
    intro s d h r hr hn φ a w st
    have hr : bindN (ev N c s d h) (evL ev N l) = r := hr
    refine bindN_ok st.rel (fun hb => hev N c s d h _ rfl hb φ a w st) hr hn fun s1 d1 h1 hr1 φ1 a1 w1 st1 F1 => ?_
    have := ih s1 d1 h1 r hr1 hn φ1 a1 w1 st1
    have mono : ∀ (l : List Code) (Q Q' : Exit → Act → World → Prop), (∀ e a w, Q e a w → Q' e a w) → ∀ a w, wpL P Q l a w → wpL P Q' l a w := by
      intro l
      induction l with
      | nil => intro Q Q' hq a w h; exact hq _ _ _ h
      | cons c l ihl =>
        intro Q Q' hq a w h
        refine wp_mono h fun e a w he => ?_
        cases e <;> first | exact ihl Q Q' hq _ _ he | exact hq _ _ _ he
    exact mono l _ _ (fun e a' w' he => ERok.trans st.rel F1 he) _ _ this

theorem evL_append {P : Program} {S N : Nat} {ev : Ev} (hev : EvOk P S ev) {l1 l2 : List Code} {s s1 s2 : Sl} {d d1 : List ADef} {h h1 : Hp} {r : ER} (e1 : evL ev N l1 s d h = .nrm s1 d1 h1)
    (hle : ∀ m, sget m s2 ≠ .bot → sget m s2 = sget m s1) (e2 : evL ev N l2 s2 d1 h1 = r) (hn : r ≠ .bad) {φ : Env} {a : Act} {w : World} (st : St S N φ s d h a w) : wpL P (ERok S N φ h w r) (l1 ++ l2) a w := by
  have app : ∀ (l1 l2 : List Code) (Q : Exit → Act → World → Prop) (a : Act) (w : World), wpL P (Exit.then (wpL P Q l2) Q) l1 a w → wpL P Q (l1 ++ l2) a w := by
    intro l1
    induction l1 with
    | nil => intro l2 Q a w h; exact h
    | cons c l1 ih =>
      intro l2 Q a w h
      refine wp_mono h fun e a w he => ?_
      cases e <;> first | exact ih l2 Q _ _ he | exact he
  have mono : ∀ (l : List Code) (Q Q' : Exit → Act → World → Prop), (∀ e a w, Q e a w → Q' e a w) → ∀ a w, wpL P Q l a w → wpL P Q' l a w := by
    intro l
    induction l with
    | nil => intro Q Q' hq a w h; exact hq _ _ _ h
    | cons c l ihl =>
      intro Q Q' hq a w h
      refine wp_mono h fun e a w he => ?_
      cases e <;> first | exact ihl Q Q' hq _ _ he | exact hq _ _ _ he
  refine app l1 l2 _ a w (mono l1 _ _ ?_ a w (evL_ok hev l1 s d h _ e1 (fun e => by cases e) φ a w st))
  intro e a1 w1 he
  cases e <;> first | exact he.elim | skip
  obtain ⟨φ1, st1, F1⟩ := he
  have st2 : St S N φ1 s2 d1 h1 a1 w1 := ⟨st1.rel, fun m hm => by
    have e := hle m hm
    rw [e] at hm ⊢
    exact st1.sl m hm, st1.df, st1.sz⟩
  exact mono l2 _ _ (fun e a' w' he => ERok.trans st.rel F1 he) _ _ (evL_ok hev l2 s2 d1 h1 r e2 hn φ1 a1 w1 st2)

/-- A call whose statements run in two pieces. -/
theorem call_split {P : Program} {S : Nat} {cal : Cal} {ev : Ev} (hcal : CalOk P S cal) (hev : EvOk P S ev) {f : FuncId} {fn : Func} {c : Code} (hf : P.funcs[f]? = some fn) (hb : fn.body = some c) (k : Nat)
    {args : List AVal} {cargs : List Value} {x : Nat} {h h1 : Hp} {s1 s2 : Sl} {d1 : List ADef} {r : CR} (hlen : args.length ≤ fn.ntmps)
    (e1 : evL ev fn.ntmps ((flatC c []).take k) (argS 0 args (sNil x)) [] h = .nrm s1 d1 h1) (hle : ∀ m, sget m s2 ≠ .bot → sget m s2 = sget m s1)
    (e2 : finR P S cal ev fn (evL ev fn.ntmps ((flatC c []).drop k) s2 d1 h1) = r) (hn : r ≠ .bad) {φ : Env} {w : World} (R : Rel S φ h w.heap) (ha : concs φ args = some cargs) :
    Calls P f cargs.toArray w (CRok S φ h w r) := by
  refine calls_of_wp_defers hf hb (wpL_body ?_)
  rw [← List.take_append_drop k (flatC c [])]
  have hst := st_start R ha hlen x
  have h2 := fun r (e : evL ev fn.ntmps ((flatC c []).drop k) s2 d1 h1 = r) hn => evL_append hev e1 hle e hn hst
  generalize evL ev fn.ntmps ((flatC c []).drop k) s2 d1 h1 = r1 at e2 h2
  have mono : ∀ (l : List Code) (Q Q' : Exit → Act → World → Prop), (∀ e a w, Q e a w → Q' e a w) → ∀ a w, wpL P Q l a w → wpL P Q' l a w := by
    intro l
    induction l with
    | nil => intro Q Q' hq a w h; exact hq _ _ _ h
    | cons c l ihl =>
      intro Q Q' hq a w h
      refine wp_mono h fun e a w he => ?_
      cases e <;> first | exact ihl Q Q' hq _ _ he | exact hq _ _ _ he
  cases r1 with
  | bad => exact absurd e2.symm hn
  | ext _ _ _ _ => exact absurd e2.symm hn
  | nrm s d h' =>
    have e2 : lvR P S cal ev fn s d .ret h' = r := e2
    refine mono _ _ _ (fun e a' w' he => ?_) _ _ (h2 _ rfl (fun e => by cases e))
    cases e <;> first | exact he.elim | skip
    obtain ⟨φ', st', F'⟩ := he
    exact Leaves.mono (fun _ _ h => CRok.trans R F' h) _ _ _ (lvR_ok hcal hev _ _ _ _ e2 hn φ' _ _ _ w' st'.sl st'.rel st'.df trivial)
  | ret s d h' =>
    have e2 : lvR P S cal ev fn s d .ret h' = r := e2
    refine mono _ _ _ (fun e a' w' he => ?_) _ _ (h2 _ rfl (fun e => by cases e))
    cases e <;> first | exact he.elim | skip
    obtain ⟨φ', st', F'⟩ := he
    exact Leaves.mono (fun _ _ h => CRok.trans R F' h) _ _ _ (lvR_ok hcal hev _ _ _ _ e2 hn φ' _ _ _ w' st'.sl st'.rel st'.df trivial)
  | pan ch s d h' =>
    have e2 : lvR P S cal ev fn s d (.pan ch) h' = r := e2
    refine mono _ _ _ (fun e a' w' he => ?_) _ _ (h2 _ rfl (fun e => by cases e))
    cases e <;> first | exact he.elim | skip
    obtain ⟨φ', hp, st', F'⟩ := he
    exact Leaves.mono (fun _ _ h => CRok.trans R F' h) _ _ _ (lvR_ok hcal hev _ _ _ _ e2 hn φ' _ _ _ w' st'.sl st'.rel st'.df hp)

/- No variable of the program is asked: the start. -/
def h00 : Hp := ⟨.nil, .a .d0⟩
def φ00 : Env := fun _ _ => none

theorem rel00 (M : Mem) : Rel 0 φ00 h00 M := by
  have hg : ∀ g, h00.get g = .none := fun g => by rw [Hp.get_eq]; exact Tr.get_nil _ g
  exact ⟨fun _ _ _ h => (by cases h), fun _ _ _ _ _ _ h => (by cases h), fun g _ _ _ _ _ _ _ h => (by rw [hg] at h; cases h), fun g _ _ h => (by rw [hg] at h; cases h), fun _ h => absurd h (Nat.not_lt_zero _), Nat.zero_le _,
    fun g h => absurd (hg g) h, fun g _ _ _ _ _ _ _ h => (by rw [hg] at h; cases h), fun g _ _ h => (by rw [hg] at h; cases h), fun _ _ _ h => by cases h⟩

/-- It returns true. -/
noncomputable def isTrue (r : CR) : Bool := CR.rec (motive := fun _ => Bool) false (fun v _ => W3.rec (motive := fun _ => Bool) true false false (bWF v)) (fun _ _ => false) r

theorem isTrue_ok {r : CR} (h : isTrue r = true) : ∃ hp, r = .ret (.bool true) hp := by
  cases r with
  | bad => cases h
  | pan _ _ => cases h
  | ret v hp =>
    have h : W3.rec (motive := fun _ => Bool) true false false (bWF v) = true := h
    rw [bWF_eq] at h
    refine ⟨hp, ?_⟩
    cases v with
    | bool b => cases b with
      | true => rfl
      | false => cases h
    | _ => cases h

theorem below_of {φ' : Env} {h' : Hp} {w w' : World} (F : Fw 0 φ00 h00 w φ' h' w') : Below w.heap.size w w' :=
  ⟨F.wk.os, F.wk.tape, F.wk.out, F.ext.size, fun k hk => F.ext.keep k hk (by rintro ⟨g, v, i, hi, _⟩; cases hi)⟩

theorem post00 {r : CR} (h : isTrue r = true) {w : World} {e : Ending} {w' : World} (he : CRok 0 φ00 h00 w r e w') : e = .returned (.bool true) ∧ Below w.heap.size w w' := by
  obtain ⟨hp, rfl⟩ := isTrue_ok h
  cases e <;> first | exact he.elim | skip
  obtain ⟨φ', h1, _, F⟩ := he
  simp only [conc, Option.some.injEq] at h1
  subst h1
  exact ⟨rfl, below_of F⟩

end Go.Abs
