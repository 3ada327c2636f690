/- A verified run of the program over an abstract memory, part 4 of 5: what the run tells is what every run of the program does. No condition. -/
import Derived.Test.YtdoafpliifhbaaaGreatDoorE3
import Derived.Laws.Sem

/- A region that may go in any order: the plan, and the run in one order. -/
namespace Go.Abs

/- Which operation is before which. -/
structure It where
  o : Oper
  i : Nat
  m : Nat

def findM (acc : List It) (j : Nat) : Nat :=
  match acc with
  | [] => 0
  | u :: r => match Nat.beq u.i j with
    | true => u.m
    | false => findM r j

def mskE (acc : List It) (es : List Edge) : Nat :=
  match es with
  | [] => 0
  | e :: es => match Region.binds .any e with
    | true => Nat.lor (Nat.lor (Nat.pow 2 e.on) (findM acc e.on)) (mskE acc es)
    | false => mskE acc es

/-- A number is made plain before it is handed on. -/
noncomputable def natK {ρ : Type} (n : Nat) (k : Nat → ρ) : ρ := Nat.rec (motive := fun _ => ρ) (k 0) (fun m _ => k (Nat.succ m)) n

def itsL (i : Nat) (l : List Oper) (acc : List It) : List It :=
  match l with
  | [] => acc
  | o :: l => itsL (Nat.succ i) l (⟨o, i, mskE acc o.after.toList⟩ :: acc)

def revI (l acc : List It) : List It :=
  match l with
  | [] => acc
  | t :: l => revI l (t :: acc)

noncomputable def loudB (P : Program) (S : Nat) (o : Oper) : Bool :=
  OK.rec (motive := fun _ => Bool) true (fun _ _ => false) (fun _ => false) (fun _ => true) (opK P S o)

noncomputable def loudL (P : Program) (S : Nat) (l : List It) : List It :=
  match l with
  | [] => []
  | t :: l => match loudB P S t.o with
    | true => t :: loudL P S l
    | false => loudL P S l

/-- How many of the loud ones are before an operation. -/
def phN (ls : List It) (m : Nat) : Nat :=
  match ls with
  | [] => 0
  | t :: ls => match bitB m t.i with
    | true => Nat.succ (phN ls m)
    | false => phN ls m

/-- How many of the loud ones are not behind an operation. -/
def hiN (ls : List It) (i : Nat) : Nat :=
  match ls with
  | [] => 0
  | t :: ls => match bitB t.m i with
    | true => hiN ls i
    | false => Nat.succ (hiN ls i)

structure Qi where
  t : It
  hi : Nat

structure Seg where
  qs : List Qi
  l : Option It

noncomputable def phaseL (P : Program) (S : Nat) (ls : List It) (p : Nat) (l : List It) : List Qi :=
  match l with
  | [] => []
  | t :: l => match loudB P S t.o with
    | true => phaseL P S ls p l
    | false => match Nat.beq (phN ls t.m) p with
      | true => ⟨t, hiN ls t.i⟩ :: phaseL P S ls p l
      | false => phaseL P S ls p l

noncomputable def segsL (P : Program) (S : Nat) (ls : List It) (its : List It) (p : Nat) (r : List It) : List Seg :=
  match r with
  | [] => [⟨phaseL P S ls p its, none⟩]
  | t :: r => ⟨phaseL P S ls p its, some t⟩ :: segsL P S ls its (Nat.succ p) r

/- What is asked of a region. -/
def edgesB (i : Nat) (es : List Edge) : Bool :=
  match es with
  | [] => true
  | e :: es => match Nat.ble (Nat.succ e.on) i with
    | true => edgesB i es
    | false => false

def chainB (ls : List It) : Bool :=
  match ls with
  | [] => true
  | t :: ls => match ls with
    | [] => true
    | u :: _ => match bitB u.m t.i with
      | true => chainB ls
      | false => false

/-- Whoever writes the slot is before. -/
def srcB (its : List It) (t : Nat) (m : Nat) : Bool :=
  match its with
  | [] => true
  | u :: its => match u.o.dst with
    | none => srcB its t m
    | some d => match Nat.beq d t with
      | false => srcB its t m
      | true => match bitB m u.i with
        | true => srcB its t m
        | false => false

/-- Whoever writes the slot comes behind. -/
def aftB (its : List It) (t : Nat) (i : Nat) : Bool :=
  match its with
  | [] => true
  | u :: its => match u.o.dst with
    | none => aftB its t i
    | some d => match Nat.beq d t with
      | false => aftB its t i
      | true => match bitB u.m i with
        | true => aftB its t i
        | false => false

def lookB (its : List It) (t m i : Nat) : Bool :=
  match srcB its t m with
  | true => true
  | false => aftB its t i

def opsB (its : List It) (xs : List Operand) (m i : Nat) : Bool :=
  match xs with
  | [] => true
  | x :: xs => match x with
    | .tmp t => match lookB its t m i with
      | true => opsB its xs m i
      | false => false
    | _ => opsB its xs m i

def freshB (d : Nat) (l : List It) : Bool :=
  match l with
  | [] => true
  | u :: l => match u.o.dst with
    | none => freshB d l
    | some e => match Nat.beq d e with
      | true => false
      | false => freshB d l

def gdB (ops : Array Oper) (its : List It) (o : Oper) (m i : Nat) : Bool :=
  match o.guard with
  | none => true
  | some (j, _) => match (ops[j]?).bind (·.dst) with
    | none => true
    | some t => lookB its t m i

def itB (N : Nat) (ops : Array Oper) (its rest : List It) (t : It) : Bool :=
  match edgesB t.i t.o.after.toList with
  | false => false
  | true => match opsB its t.o.op.operands.toList t.m t.i with
    | false => false
    | true => match gdB ops its t.o t.m t.i with
      | false => false
      | true => match t.o.dst with
        | none => true
        | some d => match Nat.ble (Nat.succ d) N with
          | true => freshB d rest
          | false => false

def allB (N : Nat) (ops : Array Oper) (its rest : List It) : Bool :=
  match rest with
  | [] => true
  | t :: rest => match itB N ops its rest t with
    | true => allB N ops its rest
    | false => false

/-- Nothing goes twice, and nothing ahead of what is before it. -/
def goB (D : Nat) (t : It) : Bool :=
  match Nat.beq (Nat.land t.m D) t.m with
  | true => match bitB D t.i with
    | true => false
    | false => true
  | false => false

def goQ (D : Nat) (l : List Qi) : Option Nat :=
  match l with
  | [] => some D
  | q :: l => match goB D q.t with
    | true => goQ (Nat.lor D (Nat.pow 2 q.t.i)) l
    | false => none

def goS (D : Nat) (l : List Seg) : Bool :=
  match l with
  | [] => true
  | g :: l => match goQ D g.qs with
    | none => false
    | some D => match g.l with
      | none => true
      | some t => match goB D t with
        | true => goS (Nat.lor D (Nat.pow 2 t.i)) l
        | false => false

noncomputable def planI (P : Program) (S N : Nat) (ops : Array Oper) (its ls : List It) : Option (List Seg) :=
  match allB N ops its its with
  | false => none
  | true => match chainB ls with
    | false => none
    | true => match goS 0 (segsL P S ls its 0 ls) with
      | false => none
      | true => some (segsL P S ls its 0 ls)

noncomputable def planL (P : Program) (S N : Nat) (ops : Array Oper) (its : List It) : Option (List Seg) := planI P S N ops its (loudL P S its)

noncomputable def planO (P : Program) (S N : Nat) (ops : Array Oper) : Option (List Seg) :=
  planL P S N ops (revI (itsL 0 ops.toList []) [])

/- The same value. -/
def natL (a b : List Nat) : Bool :=
  match a, b with
  | [], [] => true
  | x :: a, y :: b => match Nat.beq x y with
    | true => natL a b
    | false => false
  | _, _ => false

noncomputable def pthB (p q : Pth) : Bool := Nat.beq p.nat q.nat
theorem pthB_eq {p q : Pth} (h : pthB p q = true) : p = q := Pth.nat_inj (Nat.eq_of_beq_eq_true h)

def intB (a b : Int) : Bool :=
  match a, b with
  | .ofNat a, .ofNat b => Nat.beq a b
  | .negSucc a, .negSucc b => Nat.beq a b
  | _, _ => false

theorem intB_eq {a b : Int} (h : intB a b = true) : a = b := by
  cases a <;> cases b <;> first | (simp only [intB] at h; rw [Nat.eq_of_beq_eq_true h]; done) | cases h

def capB (a b : ACap) : Bool :=
  match a, b with
  | .exact a, .exact b => Nat.beq a b
  | .opn a, .opn b => Nat.beq a b
  | _, _ => false

theorem capB_eq {a b : ACap} (h : capB a b = true) : a = b := by
  cases a <;> cases b <;> first | (simp only [capB] at h; rw [Nat.eq_of_beq_eq_true h]; done) | cases h

/-- Whether two values are seen to be the same. -/
noncomputable def sameB (a b : AVal) : Bool :=
  match a, b with
  | .bool x, .bool y => beqB x y
  | .int k x, .int j y => match kEq k j with
    | true => intB x y
    | false => false
  | .str n x, .str m y => match Nat.beq n m with
    | true => Nat.beq x y
    | false => false
  | .nilp, .nilp => true
  | .ptr g v x, .ptr g' v' x' => match pthB g g', Nat.beq v v' with
    | true, true => Nat.beq x x'
    | _, _ => false
  | .nils, .nils => true
  | .slice g v x n c, .slice g' v' x' n' c' => match pthB g g', Nat.beq v v', Nat.beq x x', Nat.beq n n' with
    | true, true, true, true => capB c c'
    | _, _, _, _ => false
  | .nilm, .nilm => true
  | .map g, .map g' => pthB g g'
  | .nilc, .nilc => true
  | .chan g, .chan g' => pthB g g'
  | .nilf, .nilf => true
  | .nili, .nili => true
  | .iface t (.ptr g v x), .iface t' (.ptr g' v' x') => match Nat.beq t t', pthB g g', Nat.beq v v' with
    | true, true, true => Nat.beq x x'
    | _, _, _ => false
  | _, _ => false

theorem beqB_eq {a b : Bool} (h : beqB a b = true) : a = b := by cases a <;> cases b <;> first | rfl | cases h

theorem sameB_eq {a b : AVal} (h : sameB a b = true) : a = b := by
  unfold sameB at h
  split at h <;> first | rfl | (cases h; done) | skip
  · rw [beqB_eq h]
  · split at h
    · rename_i hk; rw [kEq_eq hk, intB_eq h]
    · cases h
  · split at h
    · rename_i hk; rw [Nat.eq_of_beq_eq_true hk, Nat.eq_of_beq_eq_true h]
    · cases h
  · split at h
    · rename_i h1 h2; rw [pthB_eq h1, Nat.eq_of_beq_eq_true h2, Nat.eq_of_beq_eq_true h]
    · cases h
  · split at h
    · rename_i h1 h2 h3 h4; rw [pthB_eq h1, Nat.eq_of_beq_eq_true h2, Nat.eq_of_beq_eq_true h3, Nat.eq_of_beq_eq_true h4, capB_eq h]
    · cases h
  · rw [pthB_eq h]
  · rw [pthB_eq h]
  · split at h
    · rename_i h1 h2 h3; rw [Nat.eq_of_beq_eq_true h1, pthB_eq h2, Nat.eq_of_beq_eq_true h3, Nat.eq_of_beq_eq_true h]
    · cases h

/- The run. -/
structure Pd where
  id : Pth
  grp : Grp
  hi : Nat
  i : Nat

structure Ck where
  f : Q
  s : Sl
  v : AVal
  m : Nat
  hi : Nat

inductive QR where
  | bad
  | ok (s : Sl) (h : Hp) (pd : List Pd) (ck : List Ck)

noncomputable def mergeAll (l : List Pd) : Hp → Hp :=
  List.rec (motive := fun _ => Hp → Hp) (fun h => h) (fun e _ ih h => ih (h.put e.id e.grp)) l

/-- With those that are before an operation. -/
noncomputable def mergeM (m : Nat) (l : List Pd) : Hp → Hp :=
  List.rec (motive := fun _ => Hp → Hp) (fun h => h)
    (fun e _ ih h => Bool.rec (motive := fun _ => Hp) (ih h) (ih (h.put e.id e.grp)) (bitB m e.i)) l

noncomputable def qsR (P : Program) (S N : Nat) (ops : Array Oper) (l : List Qi) : Sl → Hp → List Pd → List Ck → QR :=
  List.rec (motive := fun _ => Sl → Hp → List Pd → List Ck → QR) (fun s h pd ck => .ok s h pd ck)
    (fun q _ ih s h pd ck => W3.rec (motive := fun _ => QR)
      (OK.rec (motive := fun _ => QR) .bad
        (fun mem f => Bool.rec (motive := fun _ => QR)
          (Bool.rec (motive := fun _ => QR) (putS (dK N q.t.o) (f s h) s fun s' => ih s' h pd ck) .bad (isBot (f s h)))
          (Bool.rec (motive := fun _ => QR) (putS (dK N q.t.o) (f s (mergeM q.t.m pd h)) s fun s' => ih s' h pd (⟨f, s, f s (mergeM q.t.m pd h), q.t.m, q.hi⟩ :: ck)) .bad (isBot (f s (mergeM q.t.m pd h)))) mem)
        (fun f => NR.rec (motive := fun _ => QR) .bad (fun grp k => putS (dK N q.t.o) (mkA k h.nx) s fun s' => ih s' ⟨h.tr, h.nx.inc⟩ (⟨h.nx, grp, q.hi, q.t.i⟩ :: pd) ck) (f s))
        (fun _ => .bad) (opK P S q.t.o))
      (putS (dK N q.t.o) undefA s fun s' => ih s' h pd ck)
      .bad (gdA (gK ops q.t.o) s)) l

/-- Those that are needed now are laid. -/
noncomputable def mergeH (p : Nat) (l : List Pd) : Hp → Hp :=
  List.rec (motive := fun _ => Hp → Hp) (fun h => h)
    (fun e _ ih h => Bool.rec (motive := fun _ => Hp) (ih h) (ih (h.put e.id e.grp)) (Nat.beq e.hi p)) l

noncomputable def restP (p : Nat) (l : List Pd) : List Pd :=
  List.rec (motive := fun _ => List Pd) []
    (fun e _ ih => Bool.rec (motive := fun _ => List Pd) (e :: ih) ih (Nat.beq e.hi p)) l

/-- Those that may come later yield the same. -/
noncomputable def ckB (p : Nat) (pd : List Pd) (h : Hp) (l : List Ck) : Bool :=
  List.rec (motive := fun _ => Bool) true
    (fun e _ ih => Bool.rec (motive := fun _ => Bool) ih (Bool.rec (motive := fun _ => Bool) false ih (sameB e.v (e.f e.s (mergeM e.m pd h)))) (Nat.ble p e.hi)) l

noncomputable def clrS (N : Nat) (ops : List Oper) : Sl → Sl :=
  List.rec (motive := fun _ => Sl → Sl) (fun s => s) (fun o _ ih s => ih (putT (dK N o) .bot s)) ops

noncomputable def segR (P : Program) (S N : Nat) (cal : Cal) (ops : Array Oper) (s0 : Sl) (l : List Seg) : Nat → Sl → List ADef → Hp → List Pd → List Ck → ER :=
  List.rec (motive := fun _ => Nat → Sl → List ADef → Hp → List Pd → List Ck → ER) (fun _ _ _ _ _ _ => .bad)
    (fun sg _ ih p s d h pd ck => QR.rec (motive := fun _ => ER) .bad
      (fun s h pd ck => Option.rec (motive := fun _ => ER) (.nrm s d (mergeAll pd h))
        (fun t => W3.rec (motive := fun _ => ER)
          (SO.rec (motive := fun _ => ER) .bad
            (fun v d' h' => putS (dK N t.o) v s fun s' => Bool.rec (motive := fun _ => ER) .bad (ih (Nat.succ p) s' d' h' (restP p pd) ck) (ckB (Nat.succ p) (restP p pd) h' ck))
            (fun ch h' => .pan ch (clrS N ops.toList s0) d h') .bad (doO cal (opK P S t.o) s d (mergeH p pd h)))
          (putS (dK N t.o) undefA s fun s' => Bool.rec (motive := fun _ => ER) .bad (ih (Nat.succ p) s' d (mergeH p pd h) (restP p pd) ck) (ckB (Nat.succ p) (restP p pd) (mergeH p pd h) ck))
          .bad (gdA (gK ops t.o) s)) sg.l)
      (qsR P S N ops sg.qs s h pd ck)) l

noncomputable def drR (P : Program) (S N : Nat) (cal : Cal) (ops : Array Oper) (s : Sl) (d : List ADef) (h : Hp) : ER :=
  Option.rec (motive := fun _ => ER) .bad (fun segs => flush s fun s => segR P S N cal ops s segs 0 s d h [] []) (planO P S N ops)

end Go.Abs

/- The plan of a region: what it gives. -/
namespace Go.Abs

theorem bitB_land {m D i : Nat} (h : Nat.land m D = m) (hb : bitB m i = true) : bitB D i = true := by
  have h1 : bitB (Nat.land m D) i = true := by rw [h]; exact hb
  rw [bitB_eq] at h1 ⊢
  have : (m &&& D).testBit i = true := h1
  rw [Nat.testBit_and] at this
  exact (Bool.and_eq_true_iff.1 this).2

structure Pl (P : Program) (S N : Nat) (ops : Array Oper) (its ls : List It) : Prop where
  at' : ∀ t ∈ its, ops[t.i]? = some t.o
  cov : ∀ i o, ops[i]? = some o → ∃ t ∈ its, t.i = i
  uniq : ∀ t ∈ its, ∀ u ∈ its, t.i = u.i → t = u
  msk : ∀ t ∈ its, ∀ b, bitB t.m b = true → ∃ e ∈ t.o.after, Region.binds .any e = true ∧ (b = e.on ∨ ∃ u ∈ its, u.i = e.on ∧ bitB u.m b = true)
  edg : ∀ t ∈ its, ∀ e ∈ t.o.after, e.on < t.i
  src : ∀ t ∈ its, ∀ n, .tmp n ∈ t.o.op.operands.toList → (∀ u ∈ its, u.o.dst = some n → bitB t.m u.i = true) ∨ (∀ u ∈ its, u.o.dst = some n → bitB u.m t.i = true)
  gsrc : ∀ t ∈ its, ∀ j want n, t.o.guard = some (j, want) → (ops[j]?).bind (·.dst) = some n → (∀ u ∈ its, u.o.dst = some n → bitB t.m u.i = true) ∨ (∀ u ∈ its, u.o.dst = some n → bitB u.m t.i = true)
  dst : ∀ t ∈ its, ∀ d, t.o.dst = some d → d < N
  dist : ∀ t ∈ its, ∀ u ∈ its, ∀ d, t.o.dst = some d → u.o.dst = some d → t = u
  lmem : ∀ u, u ∈ ls ↔ u ∈ its ∧ loudB P S u.o = true
  chain : chainB ls = true

theorem findM_bit {j b : Nat} : ∀ {acc : List It}, bitB (findM acc j) b = true → ∃ u ∈ acc, u.i = j ∧ bitB u.m b = true := by
  intro acc
  induction acc with
  | nil => intro h; rw [show findM [] j = 0 from rfl, bitB_zero] at h; cases h
  | cons u acc ih =>
    intro h
    unfold findM at h
    split at h
    · rename_i hb
      exact ⟨u, by simp, Nat.eq_of_beq_eq_true hb, h⟩
    · obtain ⟨u', h1, h2⟩ := ih h
      exact ⟨u', by simp [h1], h2⟩

theorem mskE_bit {acc : List It} {b : Nat} : ∀ {es : List Edge}, bitB (mskE acc es) b = true → ∃ e ∈ es, Region.binds .any e = true ∧ (b = e.on ∨ ∃ u ∈ acc, u.i = e.on ∧ bitB u.m b = true) := by
  intro es
  induction es with
  | nil => intro h; rw [show mskE acc [] = 0 from rfl, bitB_zero] at h; cases h
  | cons e es ih =>
    intro h
    unfold mskE at h
    split at h
    · rename_i hb
      rw [bitB_lor, bitB_lor, bitB_pow, Bool.or_eq_true, Bool.or_eq_true, decide_eq_true_iff] at h
      rcases h with (h | h) | h
      · exact ⟨e, by simp, hb, .inl h.symm⟩
      · exact ⟨e, by simp, hb, .inr (findM_bit h)⟩
      · obtain ⟨e', h1, h2⟩ := ih h
        exact ⟨e', by simp [h1], h2⟩
    · obtain ⟨e', h1, h2⟩ := ih h
      exact ⟨e', by simp [h1], h2⟩

structure ItI (ops : Array Oper) (i : Nat) (acc : List It) : Prop where
  at' : ∀ t ∈ acc, t.i < i ∧ ops[t.i]? = some t.o
  cov : ∀ j, j < i → j < ops.size → ∃ t ∈ acc, t.i = j
  uniq : ∀ t ∈ acc, ∀ u ∈ acc, t.i = u.i → t = u
  msk : ∀ t ∈ acc, ∀ b, bitB t.m b = true → ∃ e ∈ t.o.after, Region.binds .any e = true ∧ (b = e.on ∨ ∃ u ∈ acc, u.i = e.on ∧ bitB u.m b = true)

theorem itsL_ok (ops : Array Oper) : ∀ (l : List Oper) (i : Nat) (acc : List It), ops.toList.drop i = l → i ≤ ops.size → ItI ops i acc → ItI ops ops.size (itsL i l acc) := by
  intro l
  induction l with
  | nil =>
    intro i acc hl hi I
    have : ops.size ≤ i := by simpa using List.drop_eq_nil_iff.1 hl
    have e : i = ops.size := by omega
    subst e
    exact I
  | cons o l ih =>
    intro i acc hl hi I
    have hlt : i < ops.size := by
      have : i < ops.toList.length := by
        refine Nat.lt_of_not_le fun hge => ?_
        rw [List.drop_eq_nil_of_le hge] at hl
        cases hl
      simpa using this
    have ho : ops[i]? = some o := by
      rw [← Array.getElem?_toList, ← List.head?_drop, hl]
      rfl
    refine ih (i + 1) _ (by rw [← List.tail_drop, hl]; rfl) hlt ⟨?_, ?_, ?_, ?_⟩
    · intro t ht
      rcases List.mem_cons.1 ht with rfl | ht
      · exact ⟨Nat.lt_succ_self _, ho⟩
      · have := I.at' t ht; exact ⟨by omega, this.2⟩
    · intro j hj hs
      by_cases e : j = i
      · exact ⟨_, List.mem_cons_self, e.symm⟩
      · obtain ⟨t, h1, h2⟩ := I.cov j (by omega) hs
        exact ⟨t, List.mem_cons_of_mem _ h1, h2⟩
    · intro t ht u hu he
      rcases List.mem_cons.1 ht with rfl | ht
      · rcases List.mem_cons.1 hu with rfl | hu
        · rfl
        · have := (I.at' u hu).1; dsimp only at he; omega
      · rcases List.mem_cons.1 hu with rfl | hu
        · have := (I.at' t ht).1; dsimp only at he; omega
        · exact I.uniq t ht u hu he
    · intro t ht b hb
      rcases List.mem_cons.1 ht with rfl | ht
      · obtain ⟨e, h1, h2, h3⟩ := mskE_bit hb
        refine ⟨e, by simpa using h1, h2, h3.imp id fun ⟨u, h4, h5⟩ => ⟨u, List.mem_cons_of_mem _ h4, h5⟩⟩
      · obtain ⟨e, h1, h2, h3⟩ := I.msk t ht b hb
        exact ⟨e, h1, h2, h3.imp id fun ⟨u, h4, h5⟩ => ⟨u, List.mem_cons_of_mem _ h4, h5⟩⟩

theorem mem_revI {t : It} : ∀ {l acc : List It}, t ∈ revI l acc ↔ t ∈ l ∨ t ∈ acc := by
  intro l
  induction l with
  | nil => intro acc; simp [revI]
  | cons u l ih =>
    intro acc
    show t ∈ revI l (u :: acc) ↔ _
    rw [ih]
    simp only [List.mem_cons]
    constructor
    · rintro (h | h | h)
      · exact .inl (.inr h)
      · exact .inl (.inl h)
      · exact .inr h
    · rintro ((h | h) | h)
      · exact .inr (.inl h)
      · exact .inl h
      · exact .inr (.inr h)

theorem mem_loudL {P : Program} {S : Nat} {u : It} : ∀ {l : List It}, u ∈ loudL P S l ↔ u ∈ l ∧ loudB P S u.o = true := by
  intro l
  induction l with
  | nil => simp [loudL]
  | cons t l ih =>
    unfold loudL
    split
    · rename_i hb
      rw [List.mem_cons, List.mem_cons, ih]
      constructor
      · rintro (rfl | h)
        · exact ⟨.inl rfl, hb⟩
        · exact ⟨.inr h.1, h.2⟩
      · rintro ⟨rfl | h, h2⟩
        · exact .inl rfl
        · exact .inr ⟨h, h2⟩
    · rename_i hb
      rw [List.mem_cons, ih]
      constructor
      · rintro h; exact ⟨.inr h.1, h.2⟩
      · rintro ⟨rfl | h, h2⟩
        · rw [hb] at h2; cases h2
        · exact ⟨h, h2⟩

theorem edgesB_ok {i : Nat} : ∀ {es : List Edge}, edgesB i es = true → ∀ e ∈ es, e.on < i := by
  intro es
  induction es with
  | nil => intro _ e he; cases he
  | cons x es ih =>
    intro h e he
    unfold edgesB at h
    split at h
    · rename_i hb
      rcases List.mem_cons.1 he with rfl | he
      · exact Nat.le_of_ble_eq_true hb
      · exact ih h e he
    · cases h

theorem srcB_ok {t m : Nat} : ∀ {its : List It}, srcB its t m = true → ∀ u ∈ its, u.o.dst = some t → bitB m u.i = true := by
  intro its
  induction its with
  | nil => intro _ u hu; cases hu
  | cons x its ih =>
    intro h u hu hd
    unfold srcB at h
    split at h
    · rename_i hx
      rcases List.mem_cons.1 hu with rfl | hu
      · rw [hx] at hd; cases hd
      · exact ih h u hu hd
    · rename_i d hx
      split at h
      · rename_i hne
        rcases List.mem_cons.1 hu with rfl | hu
        · rw [hx] at hd; cases hd; exact absurd rfl (Nat.ne_of_beq_eq_false hne)
        · exact ih h u hu hd
      · split at h
        · rename_i hb
          rcases List.mem_cons.1 hu with rfl | hu
          · exact hb
          · exact ih h u hu hd
        · cases h

theorem aftB_ok {t i : Nat} : ∀ {its : List It}, aftB its t i = true → ∀ u ∈ its, u.o.dst = some t → bitB u.m i = true := by
  intro its
  induction its with
  | nil => intro _ u hu; cases hu
  | cons x its ih =>
    intro h u hu hd
    unfold aftB at h
    split at h
    · rename_i hx
      rcases List.mem_cons.1 hu with rfl | hu
      · rw [hx] at hd; cases hd
      · exact ih h u hu hd
    · rename_i d hx
      split at h
      · rename_i hne
        rcases List.mem_cons.1 hu with rfl | hu
        · rw [hx] at hd; cases hd; exact absurd rfl (Nat.ne_of_beq_eq_false hne)
        · exact ih h u hu hd
      · split at h
        · rename_i hb
          rcases List.mem_cons.1 hu with rfl | hu
          · exact hb
          · exact ih h u hu hd
        · cases h

theorem lookB_ok {its : List It} {t m i : Nat} (h : lookB its t m i = true) : (∀ u ∈ its, u.o.dst = some t → bitB m u.i = true) ∨ (∀ u ∈ its, u.o.dst = some t → bitB u.m i = true) := by
  unfold lookB at h
  split at h
  · rename_i h1; exact .inl (srcB_ok h1)
  · exact .inr (aftB_ok h)

theorem opsB_ok {its : List It} {m i : Nat} : ∀ {xs : List Operand}, opsB its xs m i = true → ∀ n, .tmp n ∈ xs → lookB its n m i = true := by
  intro xs
  induction xs with
  | nil => intro _ n hn; cases hn
  | cons x xs ih =>
    intro h n hn
    unfold opsB at h
    split at h
    · rename_i t
      split at h
      · rename_i hs
        rcases List.mem_cons.1 hn with e | hn
        · cases e; exact hs
        · exact ih h n hn
      · cases h
    · rename_i hx
      rcases List.mem_cons.1 hn with e | hn
      · exact absurd e.symm (hx n)
      · exact ih h n hn

theorem freshB_ok {d : Nat} : ∀ {l : List It}, freshB d l = true → ∀ u ∈ l, u.o.dst ≠ some d := by
  intro l
  induction l with
  | nil => intro _ u hu; cases hu
  | cons x l ih =>
    intro h u hu
    unfold freshB at h
    split at h
    · rename_i hx
      rcases List.mem_cons.1 hu with rfl | hu
      · rw [hx]; exact fun e => by cases e
      · exact ih h u hu
    · rename_i e hx
      split at h
      · cases h
      · rename_i hne
        rcases List.mem_cons.1 hu with rfl | hu
        · rw [hx]; intro e2; cases e2; exact absurd rfl (Nat.ne_of_beq_eq_false hne)
        · exact ih h u hu

theorem itB_ok {N : Nat} {ops : Array Oper} {its rest : List It} {t : It} (h : itB N ops its rest t = true) :
    edgesB t.i t.o.after.toList = true ∧ opsB its t.o.op.operands.toList t.m t.i = true ∧ gdB ops its t.o t.m t.i = true ∧ ∀ d, t.o.dst = some d → d < N ∧ freshB d rest = true := by
  unfold itB at h
  split at h
  · cases h
  · rename_i h1
    split at h
    · cases h
    · rename_i h2
      split at h
      · cases h
      · rename_i h3
        refine ⟨h1, h2, h3, ?_⟩
        intro d hd
        rw [hd] at h
        dsimp only at h
        split at h
        · rename_i h4; exact ⟨Nat.le_of_ble_eq_true h4, h⟩
        · cases h

theorem allB_ok {N : Nat} {ops : Array Oper} {its : List It} : ∀ {rest : List It}, allB N ops its rest = true →
    (∀ t ∈ rest, ∃ r, itB N ops its r t = true) ∧ (∀ t ∈ rest, ∀ u ∈ rest, ∀ d, t.o.dst = some d → u.o.dst = some d → t = u) := by
  intro rest
  induction rest with
  | nil => intro _; exact ⟨fun t ht => (by cases ht), fun t ht => by cases ht⟩
  | cons x rest ih =>
    intro h
    unfold allB at h
    split at h
    · rename_i hx
      obtain ⟨h1, h2⟩ := ih h
      constructor
      · intro t ht
        rcases List.mem_cons.1 ht with rfl | ht
        · exact ⟨_, hx⟩
        · exact h1 t ht
      · intro t ht u hu d hd hd'
        rcases List.mem_cons.1 ht with e1 | ht2
        · subst e1
          rcases List.mem_cons.1 hu with e2 | hu2
          · exact e2.symm
          · exact absurd hd' (freshB_ok ((itB_ok hx).2.2.2 d hd).2 u hu2)
        · rcases List.mem_cons.1 hu with e2 | hu2
          · subst e2
            exact absurd hd (freshB_ok ((itB_ok hx).2.2.2 d hd').2 t ht2)
          · exact h2 t ht2 u hu2 d hd hd'
    · cases h

theorem planO_ok {P : Program} {S N : Nat} {ops : Array Oper} {segs : List Seg} (h : planO P S N ops = some segs) :
    ∃ its ls, Pl P S N ops its ls ∧ segs = segsL P S ls its 0 ls ∧ goS 0 segs = true := by
  unfold planO planL planI at h
  have I := itsL_ok ops ops.toList 0 [] rfl (Nat.zero_le _) ⟨fun _ h => (by cases h), fun _ h => (by omega), fun _ h => (by cases h), fun _ h => by cases h⟩
  generalize hits : revI (itsL 0 ops.toList []) [] = its at h
  have hm : ∀ t, t ∈ its ↔ t ∈ itsL 0 ops.toList [] := fun t => by rw [← hits, mem_revI]; simp
  split at h
  · cases h
  · rename_i hall
    split at h
    · cases h
    · rename_i hch
      split at h
      · cases h
      · rename_i hgo
        cases h
        obtain ⟨h1, h2⟩ := allB_ok hall
        refine ⟨its, loudL P S its, ?_, rfl, hgo⟩
        refine ⟨fun t ht => (I.at' t ((hm t).1 ht)).2, ?_, fun t ht u hu => I.uniq t ((hm t).1 ht) u ((hm u).1 hu), ?_, ?_, ?_, ?_, ?_, h2, fun u => mem_loudL, hch⟩
        · intro i o ho
          have hlt := (Array.getElem?_eq_some_iff.1 ho).1
          obtain ⟨t, h3, h4⟩ := I.cov i hlt hlt
          exact ⟨t, (hm t).2 h3, h4⟩
        · intro t ht b hb
          obtain ⟨e, h3, h4, h5⟩ := I.msk t ((hm t).1 ht) b hb
          exact ⟨e, h3, h4, h5.imp id fun ⟨u, h6, h7⟩ => ⟨u, (hm u).2 h6, h7⟩⟩
        · intro t ht e he
          obtain ⟨r, hr⟩ := h1 t ht
          exact edgesB_ok (itB_ok hr).1 e (by simpa using he)
        · intro t ht n hn
          obtain ⟨r, hr⟩ := h1 t ht
          exact lookB_ok (opsB_ok (itB_ok hr).2.1 n hn)
        · intro t ht j want n hg hj
          obtain ⟨r, hr⟩ := h1 t ht
          have := (itB_ok hr).2.2.1
          unfold gdB at this
          rw [hg] at this
          dsimp only at this
          rw [hj] at this
          exact lookB_ok this
        · intro t ht d hd
          obtain ⟨r, hr⟩ := h1 t ht
          exact ((itB_ok hr).2.2.2 d hd).1

theorem mem_phaseL {P : Program} {S : Nat} {ls : List It} {p : Nat} {q : Qi} : ∀ {l : List It}, q ∈ phaseL P S ls p l ↔ q.t ∈ l ∧ loudB P S q.t.o = false ∧ phN ls q.t.m = p ∧ q.hi = hiN ls q.t.i := by
  intro l
  induction l with
  | nil => simp [phaseL]
  | cons t l ih =>
    unfold phaseL
    split
    · rename_i hb
      rw [ih, List.mem_cons]
      constructor
      · rintro ⟨h1, h2⟩; exact ⟨.inr h1, h2⟩
      · rintro ⟨h1 | h1, h2⟩
        · rw [h1, hb] at h2; cases h2.1
        · exact ⟨h1, h2⟩
    · rename_i hb
      split
      · rename_i hp
        rw [List.mem_cons, ih, List.mem_cons]
        constructor
        · rintro (rfl | ⟨h1, h2⟩)
          · exact ⟨.inl rfl, hb, Nat.eq_of_beq_eq_true hp, rfl⟩
          · exact ⟨.inr h1, h2⟩
        · rintro ⟨h1 | h1, h2, h3, h4⟩
          · left
            obtain ⟨qt, qh⟩ := q
            dsimp only at h1 h4
            subst h1 h4
            rfl
          · exact .inr ⟨h1, h2, h3, h4⟩
      · rename_i hp
        rw [ih, List.mem_cons]
        constructor
        · rintro ⟨h1, h2⟩; exact ⟨.inr h1, h2⟩
        · rintro ⟨h1 | h1, h2, h3, h4⟩
          · rw [h1] at h3; exact absurd h3 (Nat.ne_of_beq_eq_false hp)
          · exact ⟨h1, h2, h3, h4⟩

/- The loud ones come one behind the other. -/
theorem chain_ok0 {u : It} : ∀ {post : List It} {x : It}, chainB (x :: post) = true → u ∈ post → ∃ t ∈ x :: post, bitB u.m t.i = true := by
  intro post
  induction post with
  | nil => intro x _ hu; cases hu
  | cons y post ih =>
    intro x h hu
    have h : (match bitB y.m x.i with | true => chainB (y :: post) | false => false) = true := h
    cases hb : bitB y.m x.i with
    | false => rw [hb] at h; cases h
    | true =>
      rw [hb] at h
      rcases List.mem_cons.1 hu with rfl | hu
      · exact ⟨x, by simp, hb⟩
      · obtain ⟨t, h1, h2⟩ := ih h hu
        exact ⟨t, List.mem_cons_of_mem _ h1, h2⟩

theorem chain_ok : ∀ {pre : List It} {x : It} {post : List It}, chainB (pre ++ x :: post) = true → ∀ u ∈ post, ∃ t ∈ x :: post, bitB u.m t.i = true := by
  intro pre x post h u hu
  induction pre with
  | nil => exact chain_ok0 h hu
  | cons y pre ih =>
    refine ih ?_
    cases pre with
    | nil =>
      have h : (match bitB x.m y.i with | true => chainB (x :: post) | false => false) = true := h
      split at h
      · exact h
      · cases h
    | cons z pre =>
      have h : (match bitB z.m y.i with | true => chainB (z :: (pre ++ x :: post)) | false => false) = true := h
      split at h
      · exact h
      · cases h

theorem phN_le {m : Nat} : ∀ {pre post : List It}, (∀ u ∈ post, bitB m u.i = false) → phN (pre ++ post) m ≤ pre.length := by
  intro pre
  induction pre with
  | nil =>
    intro post h
    induction post with
    | nil => exact Nat.le_refl _
    | cons y post ih =>
      show (match bitB m y.i with | true => Nat.succ (phN post m) | false => phN post m) ≤ 0
      rw [h y (by simp)]
      exact ih fun u hu => h u (by simp [hu])
  | cons y pre ih =>
    intro post h
    show (match bitB m y.i with | true => Nat.succ (phN (pre ++ post) m) | false => phN (pre ++ post) m) ≤ pre.length + 1
    have := ih h
    split
    · exact Nat.succ_le_succ this
    · omega

theorem phN_len {m : Nat} (ls : List It) : phN ls m ≤ ls.length := by
  have := phN_le (m := m) (pre := ls) (post := []) (fun _ h => by cases h)
  rwa [List.append_nil] at this

theorem hiN_ge {i : Nat} : ∀ {pre post : List It}, (∀ u ∈ pre, bitB u.m i = false) → pre.length ≤ hiN (pre ++ post) i := by
  intro pre
  induction pre with
  | nil => intro post _; exact Nat.zero_le _
  | cons y pre ih =>
    intro post h
    show pre.length + 1 ≤ (match bitB y.m i with | true => hiN (pre ++ post) i | false => Nat.succ (hiN (pre ++ post) i))
    rw [h y (by simp)]
    exact Nat.succ_le_succ (ih fun u hu => h u (by simp [hu]))

theorem hiN_zero {i : Nat} : ∀ {post : List It}, hiN post i = 0 → ∀ u ∈ post, bitB u.m i = true := by
  intro post
  induction post with
  | nil => intro _ u hu; cases hu
  | cons y post ih =>
    intro h u hu
    have h : (match bitB y.m i with | true => hiN post i | false => Nat.succ (hiN post i)) = 0 := h
    split at h
    · rename_i hb
      rcases List.mem_cons.1 hu with rfl | hu
      · exact hb
      · exact ih h u hu
    · cases h

theorem hiN_eq {i : Nat} : ∀ {pre post : List It}, (∀ u ∈ pre, bitB u.m i = false) → hiN (pre ++ post) i = pre.length → ∀ u ∈ post, bitB u.m i = true := by
  intro pre
  induction pre with
  | nil => intro post _ h; exact hiN_zero h
  | cons y pre ih =>
    intro post h he
    have he : (match bitB y.m i with | true => hiN (pre ++ post) i | false => Nat.succ (hiN (pre ++ post) i)) = pre.length + 1 := he
    rw [h y (by simp)] at he
    exact ih (fun u hu => h u (by simp [hu])) (Nat.succ.inj he)

end Go.Abs

/- Slots, and new memory that is not yet told, in a region that may go in any order. -/
namespace Go.Abs

/- Slots. -/
theorem putT_same {N : Nat} {o : Oper} {d : Nat} (hd : o.dst = some d) (hN : d < N) (v : AVal) (s : Sl) : sget d (putT (dK N o) v s) = v := by
  unfold dK
  rw [hd]
  dsimp only
  rw [ble_of (Nat.succ_le_of_lt hN)]
  show sget d (setK v d s fun s => s) = v
  rw [setK_eq, sget_same]

theorem putT_ne {N : Nat} {o : Oper} {q : Nat} (hd : o.dst ≠ some q) (v : AVal) (s : Sl) : sget q (putT (dK N o) v s) = sget q s := by
  unfold dK
  cases ho : o.dst with
  | none => rfl
  | some d =>
    dsimp only
    split
    · show sget q (setK v d s fun s => s) = _
      rw [setK_eq, sget_ne (fun e => hd (by rw [ho, e]))]
    · rfl

/-- Those slots as they were. -/
noncomputable def clrT (s0 : Sl) : List It → Sl → Sl
  | [], s => s
  | t :: l, s => match t.o.dst with
    | none => clrT s0 l s
    | some d => clrT s0 l (sset d (sget d s0) s)

theorem clrT_keep {s0 : Sl} {q : Nat} : ∀ (l : List It) (s : Sl), sget q s = sget q s0 → sget q (clrT s0 l s) = sget q s0 := by
  intro l
  induction l with
  | nil => intro s h; exact h
  | cons t l ih =>
    intro s h
    unfold clrT
    split
    · exact ih _ h
    · rename_i d _
      refine ih _ ?_
      by_cases e : q = d
      · rw [e, sget_same]
      · rw [sget_ne e]; exact h

theorem clrT_in {s0 : Sl} {q : Nat} : ∀ (l : List It) (s : Sl), (∃ t ∈ l, t.o.dst = some q) → sget q (clrT s0 l s) = sget q s0 := by
  intro l
  induction l with
  | nil => rintro s ⟨t, ht, _⟩; cases ht
  | cons t l ih =>
    rintro s ⟨u, hu, hd⟩
    unfold clrT
    rcases List.mem_cons.1 hu with rfl | hu
    · rw [hd]
      dsimp only
      refine clrT_keep _ _ ?_
      rw [sget_same]
    · split
      · exact ih _ ⟨u, hu, hd⟩
      · exact ih _ ⟨u, hu, hd⟩

theorem clrT_ne {s0 : Sl} {q : Nat} : ∀ (l : List It) (s : Sl), (∀ t ∈ l, t.o.dst ≠ some q) → sget q (clrT s0 l s) = sget q s := by
  intro l
  induction l with
  | nil => intro s _; rfl
  | cons t l ih =>
    intro s h
    unfold clrT
    split
    · exact ih _ fun u hu => h u (by simp [hu])
    · rename_i d hd
      rw [ih _ fun u hu => h u (by simp [hu]), sget_ne (fun e => h t (by simp) (by rw [hd, e]))]

theorem clrS_ne {N : Nat} {q : Nat} : ∀ (l : List Oper) (s : Sl), (∀ o ∈ l, o.dst ≠ some q) → sget q (clrS N l s) = sget q s := by
  intro l
  induction l with
  | nil => intro s _; rfl
  | cons o l ih =>
    intro s h
    show sget q (clrS N l (putT (dK N o) .bot s)) = _
    rw [ih _ fun u hu => h u (by simp [hu]), putT_ne (h o (by simp))]

theorem clrS_bot {N : Nat} {q : Nat} : ∀ (l : List Oper) (s : Sl), sget q s = .bot → sget q (clrS N l s) = .bot := by
  intro l
  induction l with
  | nil => intro s h; exact h
  | cons o l ih =>
    intro s h
    refine ih _ ?_
    by_cases hd : o.dst = some q
    · unfold dK
      rw [hd]
      dsimp only
      split
      · show sget q (setK .bot q s fun s => s) = _
        rw [setK_eq, sget_same]
      · exact h
    · rw [putT_ne hd]; exact h

theorem clrS_in {N : Nat} {q : Nat} : ∀ (l : List Oper) (s : Sl), (∃ o ∈ l, o.dst = some q) → q < N → sget q (clrS N l s) = .bot := by
  intro l
  induction l with
  | nil => rintro s ⟨t, ht, _⟩; cases ht
  | cons o l ih =>
    rintro s ⟨u, hu, hd⟩ hN
    rcases List.mem_cons.1 hu with rfl | hu
    · have h2 := putT_same hd hN .bot s
      exact clrS_bot l (putT (dK N u) .bot s) h2
    · exact ih _ ⟨u, hu, hd⟩ hN

/-- What an operation looks at is the same. -/
def LookSame (ops : Array Oper) (o : Oper) (s s' : Sl) : Prop :=
  ∀ n, (.tmp n ∈ o.op.operands.toList ∨ ∃ j want, o.guard = some (j, want) ∧ (ops[j]?).bind (·.dst) = some n) → sget n s = sget n s'

theorem LookSame.symm {ops : Array Oper} {o : Oper} {s s' : Sl} (h : LookSame ops o s s') : LookSame ops o s' s := fun n hn => (h n hn).symm

theorem LookSame.agr {ops : Array Oper} {S : Nat} {o : Oper} {s s' : Sl} (h : LookSame ops o s s') : Agr S o s s' := by
  intro x hx
  cases x with
  | tmp n => exact h n (.inl hx)
  | const v => rfl
  | global g =>
    show opd (match Nat.ble (Nat.succ g) S with | true => .c (.ptr (pathN g) 0 0) | false => .c .bot) s = opd (match Nat.ble (Nat.succ g) S with | true => .c (.ptr (pathN g) 0 0) | false => .c .bot) s'
    cases Nat.ble (Nat.succ g) S <;> rfl
  | func f => rfl

theorem LookSame.gd {ops : Array Oper} {o : Oper} {s s' : Sl} (h : LookSame ops o s s') : gdA (gK ops o) s = gdA (gK ops o) s' := by
  unfold gK
  cases hg : o.guard with
  | none => rfl
  | some jw =>
    obtain ⟨j, want⟩ := jw
    dsimp only
    cases hd : (ops[j]?).bind (·.dst) with
    | none => rfl
    | some n =>
      show w3 (sget n s) want = w3 (sget n s') want
      rw [h n (.inr ⟨j, want, hg, hd⟩)]

theorem doO_congr {P : Program} {S : Nat} {cal : Cal} {o : Oper} {k : OK} (hk : OKok P S o k) {s s' : Sl} (h : Agr S o s s') (d : List ADef) (hp : Hp) : doO cal k s d hp = doO cal k s' d hp := by
  cases k with
  | bad => rfl
  | q mem f =>
    show Bool.rec (motive := fun _ => SO) (.ok (f s hp) d hp) .bad (isBot (f s hp)) = Bool.rec (motive := fun _ => SO) (.ok (f s' hp) d hp) .bad (isBot (f s' hp))
    rw [hk.2 s s' hp hp h (fun _ => rfl)]
  | n f =>
    show NR.rec (motive := fun _ => SO) .bad (fun grp k => .ok (mkA k hp.nx) d (hp.add grp)) (f s) = NR.rec (motive := fun _ => SO) .bad (fun grp k => .ok (mkA k hp.nx) d (hp.add grp)) (f s')
    rw [hk.2 s s' h]
  | l f =>
    show LR.rec (motive := fun _ => SO) .bad (fun x h' => .ok x d h') (fun h' => .ok undefA d h')
      (fun g as => CR.rec (motive := fun _ => SO) .bad (fun v h' => .ok v d h') (fun ch h' => .pan ch h') (cal g as hp))
      (fun x => .pan [⟨x, false⟩] hp) (fun fn cap as => .ok undefA (⟨fn, cap, as⟩ :: d) hp) .rcv (f s hp) =
      LR.rec (motive := fun _ => SO) .bad (fun x h' => .ok x d h') (fun h' => .ok undefA d h')
      (fun g as => CR.rec (motive := fun _ => SO) .bad (fun v h' => .ok v d h') (fun ch h' => .pan ch h') (cal g as hp))
      (fun x => .pan [⟨x, false⟩] hp) (fun fn cap as => .ok undefA (⟨fn, cap, as⟩ :: d) hp) .rcv (f s' hp)
    rw [hk.2 s s' hp h]

/- New memory that is not yet told. -/
structure PendOk (φ : Env) (M : Mem) (e : Pd) : Prop where
  row : ∀ tr n lv esz elem flo fhi, e.grp = .row tr n lv esz elem flo fhi → RelRow φ M e.id tr n lv esz elem flo fhi
  map : ∀ es clock, e.grp = .map es clock → RelMap φ M e.id es clock

theorem PendOk.mono {φ φ' : Env} {M M' : Mem} {e : Pd} (h : PendOk φ M e) (hle : φ.le φ') (hsame : ∀ v i, φ' e.id v = some i → φ e.id v = some i) (hM : ∀ v i, φ e.id v = some i → M'[i.block]? = M[i.block]?) : PendOk φ' M' e :=
  ⟨fun tr n lv esz elem flo fhi he => (h.row tr n lv esz elem flo fhi he).mono hle hsame hM, fun es clock he => (h.map es clock he).mono hle (hM 0)⟩

theorem PendOk.ext {S : Nat} {φ φ' : Env} {h h' : Hp} {M M' : Mem} {e : Pd} (R : Rel S φ h M) (E : Ext S φ h M φ' h' M') (hp : PendOk φ M e) (hlt : e.id.nat < h.nx.nat) (hno : h.get e.id = .none) : PendOk φ' M' e := by
  refine hp.mono E.le ?_ ?_
  · intro v i hi
    rcases E.new _ _ _ hi with h1 | ⟨h1 | h1, _⟩
    · exact h1
    · omega
    · exact absurd hno h1.1
  · intro v i hi
    refine E.keep _ (R.dom _ _ _ hi).2 ?_
    rintro ⟨g, v0, i0, h1, h2, _, h3⟩
    have := (R.apart _ _ _ _ _ _ h1 hi h2).1
    subst this
    exact h3 hno

theorem Ext.pendNew {S : Nat} {φ φ' : Env} {h h' : Hp} {M M' : Mem} (E : Ext S φ h M φ' h' M') {id : Pth} (hlt : id.nat < h.nx.nat) (hno : h.get id = .none) (hn : ∀ v, φ id v = none) (v : Nat) : φ' id v = none := by
  cases hi : φ' id v with
  | none => rfl
  | some i =>
    rcases E.new _ _ _ hi with h1 | ⟨h1 | h1, _⟩
    · rw [hn] at h1; cases h1
    · omega
    · exact absurd hno h1.1

theorem Rel.lay {S : Nat} {φ : Env} {h : Hp} {M : Mem} (R : Rel S φ h M) {e : Pd} (hS : S ≤ e.id.nat) (hlt : e.id.nat < h.nx.nat) (hp : PendOk φ M e) : Rel S φ (h.put e.id e.grp) M := by
  refine ⟨R.dom, R.apart, ?_, ?_, R.stat, R.nx, ?_, ?_, ?_, R.zero⟩
  · intro g tr n lv esz elem flo fhi hg
    by_cases he : g = e.id
    · subst he; rw [Hp.get_put_same] at hg; exact hp.row _ _ _ _ _ _ _ hg
    · rw [Hp.get_put_ne _ _ he] at hg; exact R.row _ _ _ _ _ _ _ _ hg
  · intro g es clock hg
    by_cases he : g = e.id
    · subst he; rw [Hp.get_put_same] at hg; exact hp.map _ _ hg
    · rw [Hp.get_put_ne _ _ he] at hg; exact R.map _ _ _ hg
  · intro g hg
    by_cases he : g = e.id
    · subst he; exact hlt
    · rw [Hp.get_put_ne _ _ he] at hg; exact R.grp _ hg
  · intro g tr n lv esz elem flo fhi hg
    by_cases he : g = e.id
    · subst he; exact .inl hS
    · rw [Hp.get_put_ne _ _ he] at hg; exact R.ro _ _ _ _ _ _ _ _ hg
  · intro g es clock hg
    by_cases he : g = e.id
    · subst he; exact hS
    · rw [Hp.get_put_ne _ _ he] at hg; exact R.rom _ _ _ hg

theorem Rel.nxle {S : Nat} {φ : Env} {h h' : Hp} {M : Mem} (R : Rel S φ h M) (ht : h'.tr = h.tr) (hn : h.nx.nat ≤ h'.nx.nat) : Rel S φ h' M := by
  have hg : ∀ g, h'.get g = h.get g := fun g => by rw [Hp.get_eq, Hp.get_eq, ht]
  refine ⟨fun g v i hv => ⟨Nat.lt_of_lt_of_le (R.dom g v i hv).1 hn, (R.dom g v i hv).2⟩, R.apart, ?_, ?_, R.stat, Nat.le_trans R.nx hn, ?_, ?_, ?_, R.zero⟩
  · intro g tr n lv esz elem flo fhi h1; rw [hg] at h1; exact R.row _ _ _ _ _ _ _ _ h1
  · intro g es clock h1; rw [hg] at h1; exact R.map _ _ _ h1
  · intro g h1; rw [hg] at h1; exact Nat.lt_of_lt_of_le (R.grp _ h1) hn
  · intro g tr n lv esz elem flo fhi h1; rw [hg] at h1; exact R.ro _ _ _ _ _ _ _ _ h1
  · intro g es clock h1; rw [hg] at h1; exact R.rom _ _ _ h1

theorem Ext.nxle {S : Nat} {φ φ' : Env} {h h1 h2 : Hp} {M M' : Mem} (E : Ext S φ h M φ' h1 M') (ht : h2.tr = h1.tr) (hn : h1.nx.nat ≤ h2.nx.nat) : Ext S φ h M φ' h2 M' := by
  have hg : ∀ g, h2.get g = h1.get g := fun g => by rw [Hp.get_eq, Hp.get_eq, ht]
  exact ⟨E.le, E.size, E.keep, E.new, fun g h3 => E.grp g (by rwa [hg] at h3), Nat.le_trans E.nx hn, fun g h3 => (hg g).trans (E.stat g h3)⟩

noncomputable def layL (sel : Pd → Bool) : List Pd → Hp → Hp
  | [], h => h
  | e :: l, h => match sel e with
    | true => layL sel l (h.put e.id e.grp)
    | false => layL sel l h

theorem mergeM_eq (m : Nat) : ∀ (l : List Pd) (h : Hp), mergeM m l h = layL (fun e => bitB m e.i) l h := by
  intro l
  induction l with
  | nil => intro h; rfl
  | cons e l ih =>
    intro h
    show Bool.rec (motive := fun _ => Hp) (mergeM m l h) (mergeM m l (h.put e.id e.grp)) (bitB m e.i) = _
    unfold layL
    cases bitB m e.i with
    | true => exact ih _
    | false => exact ih _

theorem mergeH_eq (p : Nat) : ∀ (l : List Pd) (h : Hp), mergeH p l h = layL (fun e => Nat.beq e.hi p) l h := by
  intro l
  induction l with
  | nil => intro h; rfl
  | cons e l ih =>
    intro h
    show Bool.rec (motive := fun _ => Hp) (mergeH p l h) (mergeH p l (h.put e.id e.grp)) (Nat.beq e.hi p) = _
    unfold layL
    cases Nat.beq e.hi p with
    | true => exact ih _
    | false => exact ih _

theorem mergeAll_eq : ∀ (l : List Pd) (h : Hp), mergeAll l h = layL (fun _ => true) l h := by
  intro l
  induction l with
  | nil => intro h; rfl
  | cons e l ih => intro h; exact ih _

theorem layL_nx {sel : Pd → Bool} : ∀ (l : List Pd) (h : Hp), (layL sel l h).nx = h.nx := by
  intro l
  induction l with
  | nil => intro h; rfl
  | cons e l ih =>
    intro h
    unfold layL
    split
    · exact ih _
    · exact ih _

theorem layL_rel {S : Nat} {φ : Env} {M : Mem} {sel : Pd → Bool} : ∀ (l : List Pd) (h : Hp), Rel S φ h M → (∀ e ∈ l, sel e = true → S ≤ e.id.nat ∧ e.id.nat < h.nx.nat ∧ PendOk φ M e) → Rel S φ (layL sel l h) M := by
  intro l
  induction l with
  | nil => intro h R _; exact R
  | cons e l ih =>
    intro h R hl
    unfold layL
    split
    · rename_i hs
      obtain ⟨h1, h2, h3⟩ := hl e (by simp) hs
      exact ih _ (R.lay h1 h2 h3) fun e' he' hs' => hl e' (by simp [he']) hs'
    · exact ih _ R fun e' he' hs' => hl e' (by simp [he']) hs'

theorem layL_get {sel : Pd → Bool} {g : Pth} : ∀ (l : List Pd) (h : Hp), (∀ e ∈ l, sel e = true → e.id ≠ g) → (layL sel l h).get g = h.get g := by
  intro l
  induction l with
  | nil => intro h _; rfl
  | cons e l ih =>
    intro h hl
    unfold layL
    split
    · rename_i hs
      rw [ih _ fun e' he' hs' => hl e' (by simp [he']) hs', Hp.get_put_ne _ _ (fun e1 => hl e (by simp) hs e1.symm)]
    · exact ih _ fun e' he' hs' => hl e' (by simp [he']) hs'

theorem layL_grp {sel : Pd → Bool} {g : Pth} (l : List Pd) (h : Hp) (hg : (layL sel l h).get g ≠ .none) : h.get g ≠ .none ∨ ∃ e ∈ l, sel e = true ∧ e.id = g := by
  by_cases hx : ∃ e ∈ l, sel e = true ∧ e.id = g
  · exact .inr hx
  · left
    rw [← layL_get (sel := sel) l h fun e he hs e1 => hx ⟨e, he, hs, e1⟩]
    exact hg

theorem layL_ext {S : Nat} {φ φ' : Env} {h0 h : Hp} {M M' : Mem} {sel : Pd → Bool} (E : Ext S φ h0 M φ' h M') (l : List Pd) (hl : ∀ e ∈ l, sel e = true → S ≤ e.id.nat ∧ h0.nx.nat ≤ e.id.nat) : Ext S φ h0 M φ' (layL sel l h) M' := by
  refine ⟨E.le, E.size, E.keep, E.new, ?_, by rw [layL_nx]; exact E.nx, ?_⟩
  · intro g hg
    rcases layL_grp l h hg with h1 | ⟨e, h1, h2, h3⟩
    · exact E.grp g h1
    · exact .inr (h3 ▸ (hl e h1 h2).2)
  · intro g hg
    rw [layL_get l h fun e he hs e1 => ?_]
    · exact E.stat g hg
    · have := (hl e he hs).1
      rw [e1] at this
      omega

theorem layL_tr {sel : Pd → Bool} : ∀ (l : List Pd) (h h' : Hp), h.tr = h'.tr → (layL sel l h).tr = (layL sel l h').tr := by
  intro l
  induction l with
  | nil => intro h h' e; exact e
  | cons x l ih =>
    intro h h' e
    unfold layL
    split
    · exact ih _ _ (by rw [Hp.put_tr, Hp.put_tr, e])
    · exact ih _ _ e

theorem Rel.allocAt {S : Nat} {φ : Env} {h : Hp} {M : Mem} (R : Rel S φ h M) {id : Pth} (hid : id.nat < h.nx.nat) (hno : ∀ v, φ id v = none) (hg : h.get id = .none) (o : Obj) (capE : Nat) :
    Rel S (φ.upd id 0 ⟨M.size, 0, capE⟩) h (M.push o) := by
  have hle := Env.upd_le (φ := φ) (g := id) (v := 0) ⟨M.size, 0, capE⟩ (hno 0)
  have hold : ∀ k, k < M.size → (M.push o)[k]? = M[k]? := fun k hk => by rw [Array.getElem?_push, if_neg (by omega)]
  have hsame : ∀ g v j, g ≠ id → φ.upd id 0 ⟨M.size, 0, capE⟩ g v = some j → φ g v = some j := fun g v j hne hv => by rwa [Env.upd_ne _ _ (.inl hne)] at hv
  refine ⟨?_, ?_, ?_, ?_, ?_, R.nx, R.grp, R.ro, R.rom, fun g9 v9 j9 h9 => (Env.upd_some h9).elim (fun e9 => by rw [e9.2.2]) (fun e9 => R.zero _ _ _ e9)⟩
  · intro g v j hv
    rw [Array.size_push]
    rcases Env.upd_some hv with ⟨e1, _, e3⟩ | hv
    · rw [e1, e3]; exact ⟨hid, by simp⟩
    · have := R.dom _ _ _ hv; exact ⟨this.1, by omega⟩
  · intro g1 v j g2 v' j' hv hv' he
    rcases Env.upd_some hv with ⟨e1, _, e3⟩ | hv
    · rcases Env.upd_some hv' with ⟨e1', _, e3'⟩ | hv'
      · exact ⟨e1.trans e1'.symm, by rw [e3, e3']⟩
      · have := (R.dom _ _ _ hv').2; rw [e3] at he; simp at he; omega
    · rcases Env.upd_some hv' with ⟨e1', _, e3'⟩ | hv'
      · have := (R.dom _ _ _ hv).2; rw [e3'] at he; simp at he; omega
      · exact R.apart _ _ _ _ _ _ hv hv' he
  · intro g tr n lv esz elem flo fhi h1
    have hne : g ≠ id := fun e => by rw [e, hg] at h1; cases h1
    exact (R.row _ _ _ _ _ _ _ _ h1).mono hle (fun v i hv => hsame g v i hne hv) (fun v i hv => hold _ (R.dom _ _ _ hv).2)
  · intro g es clock h1
    exact (R.map _ _ _ h1).mono hle (fun i hv => hold _ (R.dom _ _ _ hv).2)
  · intro k hk
    obtain ⟨cap, hc⟩ := R.stat k hk
    exact ⟨cap, hle _ _ _ hc⟩

theorem Ext.allocAt {S : Nat} {φ0 φ : Env} {h0 h : Hp} {M0 M : Mem} (E : Ext S φ0 h0 M0 φ h M) {id : Pth} (hid : h0.nx.nat ≤ id.nat) (hno : ∀ v, φ id v = none) (o : Obj) (capE : Nat) :
    Ext S φ0 h0 M0 (φ.upd id 0 ⟨M.size, 0, capE⟩) h (M.push o) := by
  refine ⟨Env.le_trans E.le (Env.upd_le _ (hno 0)), by rw [Array.size_push]; exact Nat.le_succ_of_le E.size, ?_, ?_, E.grp, E.nx, E.stat⟩
  · intro b hb hn
    rw [Array.getElem?_push, if_neg (by have := E.size; omega)]
    exact E.keep b hb hn
  · intro g v i hv
    rcases Env.upd_some hv with ⟨e1, _, e3⟩ | hv
    · right
      rw [e1, e3]
      exact ⟨.inl hid, .inl E.size⟩
    · exact E.new g v i hv

theorem PendOk.alloc {φ : Env} {M : Mem} {id : Pth} {grp : Grp} {obj : Obj} {capE : Nat} (hi i : Nat) (hno : ∀ v, φ id v = none) (hg : GrpOk φ grp obj capE) :
    PendOk (φ.upd id 0 ⟨M.size, 0, capE⟩) (M.push obj) ⟨id, grp, hi, i⟩ := by
  have hle := Env.upd_le (φ := φ) (g := id) (v := 0) ⟨M.size, 0, capE⟩ (hno 0)
  have hnew : (M.push obj)[M.size]? = some obj := by simp
  have hone : ∀ v j, φ.upd id 0 ⟨M.size, 0, capE⟩ id v = some j → v = 0 ∧ j = ⟨M.size, 0, capE⟩ := fun v j hv => by
    rcases Env.upd_some hv with ⟨_, h2, h3⟩ | hv
    · exact ⟨h2, h3⟩
    · rw [hno] at hv; cases hv
  constructor
  · intro tr n lv esz elem flo fhi he
    obtain ⟨rfl, h2, h3, c, lo, hi', rfl, h5, h6, h7, h8⟩ := hg.row tr n lv esz elem flo fhi he
    refine ⟨h2, ⟨_, Env.upd_same _ _ _ _, h3⟩, fun v j hv => by rw [(hone v j hv).1]; exact Nat.le_refl _, fun x a u hx => by rw [(h6 x a u hx).1]; exact Nat.le_refl _, ?_⟩
    intro v j hv
    obtain ⟨rfl, rfl⟩ := hone v j hv
    refine ⟨c, lo, hi', hnew, by simpa using h5, fun x a u hx _ => ?_, h7, by simpa using h8⟩
    obtain ⟨_, cv, h9, h10⟩ := h6 x a u hx
    exact ⟨cv, conc_mono hle _ _ h9, by simpa using h10⟩
  · intro es clock he
    obtain ⟨ces, rfl, h2, h3⟩ := hg.map es clock he
    refine ⟨_, ces, Env.upd_same _ _ _ _, hnew, h2, fun j e hj => ?_⟩
    obtain ⟨m, h4, h5, h6, h7⟩ := h3 j e hj
    exact ⟨m, h4, conc_mono hle _ _ h5, conc_mono hle _ _ h6, h7⟩

end Go.Abs

/- A region that may go in any order: every order comes to what the run tells. -/
namespace Go.Abs

/-- What an operation looks at. -/
def Looks (ops : Array Oper) (o : Oper) (n : Nat) : Prop := .tmp n ∈ o.op.operands.toList ∨ ∃ j want, o.guard = some (j, want) ∧ (ops[j]?).bind (·.dst) = some n

theorem LookSame.of {ops : Array Oper} {o : Oper} {s s' : Sl} (h : ∀ n, Looks ops o n → sget n s = sget n s') : LookSame ops o s s' := h

/-- What it looked at, when it was told, is what is there, where the writers come ahead; it is what was there at first, where they come behind. -/
def Seen (ops : Array Oper) (its : List It) (s0 : Sl) (t : It) (st s : Sl) : Prop :=
  ∀ n, Looks ops t.o n → ((∀ u ∈ its, u.o.dst = some n → bitB t.m u.i = true) ∧ sget n st = sget n s) ∨ ((∀ u ∈ its, u.o.dst = some n → bitB u.m t.i = true) ∧ sget n st = sget n s0)

/- What stands of an operation that only computes, reads, or makes something new. -/
def QOk (P : Program) (S : Nat) (ops : Array Oper) (its ls : List It) (s0 : Sl) (s : Sl) (h : Hp) (pd : List Pd) (ck : List Ck) (p : Nat) (t : It) : Prop :=
  ∃ v st, (∀ d, t.o.dst = some d → sget d s = v) ∧ Seen ops its s0 t st s ∧
    ((gdA (gK ops t.o) st = .no ∧ v = undefA ∧ ∀ e ∈ pd, e.i ≠ t.i) ∨
     (gdA (gK ops t.o) st = .yes ∧
      ((∃ f h', opK P S t.o = .q false f ∧ f st h' = v ∧ v ≠ .bot ∧ ∀ e ∈ pd, e.i ≠ t.i) ∨
       (∃ f, opK P S t.o = .q true f ∧ v ≠ .bot ∧ (⟨f, st, v, t.m, hiN ls t.i⟩ : Ck) ∈ ck ∧ (p ≤ hiN ls t.i → f st (mergeM t.m pd h) = v) ∧ ∀ e ∈ pd, e.i ≠ t.i) ∨
       (∃ f grp k id, opK P S t.o = .n f ∧ f st = .mk grp k ∧ v = mkA k id ∧ (p ≤ hiN ls t.i → (⟨id, grp, hiN ls t.i, t.i⟩ : Pd) ∈ pd)))))

section
variable {P : Program} {S N : Nat} {ops : Array Oper} {its ls : List It} {s0 : Sl}

theorem Pl.looks (pl : Pl P S N ops its ls) {t : It} (ht : t ∈ its) {n : Nat} (hn : Looks ops t.o n) :
    (∀ u ∈ its, u.o.dst = some n → bitB t.m u.i = true) ∨ (∀ u ∈ its, u.o.dst = some n → bitB u.m t.i = true) := by
  rcases hn with hn | ⟨j, want, h1, h2⟩
  · exact pl.src t ht n hn
  · exact pl.gsrc t ht j want n h1 h2

theorem QOk.mono {s s' : Sl} {h h' : Hp} {pd pd' : List Pd} {ck ck' : List Ck} {p : Nat} {t : It} (hq : QOk P S ops its ls s0 s h pd ck p t)
    (hl : ∀ n, Looks ops t.o n → (∀ u ∈ its, u.o.dst = some n → bitB t.m u.i = true) → sget n s' = sget n s)
    (hd : ∀ d, t.o.dst = some d → sget d s' = sget d s) (hck : ∀ x ∈ ck, x ∈ ck') (hpd : ∀ e ∈ pd, e ∈ pd') (hpd2 : ∀ e ∈ pd', e ∈ pd ∨ e.i ≠ t.i)
    (htr : ∀ f st v, opK P S t.o = .q true f → p ≤ hiN ls t.i → f st (mergeM t.m pd h) = v → f st (mergeM t.m pd' h') = v) :
    QOk P S ops its ls s0 s' h' pd' ck' p t := by
  obtain ⟨v, st, h1, hs, h2⟩ := hq
  refine ⟨v, st, fun d h3 => (hd d h3).trans (h1 d h3), ?_, ?_⟩
  · intro n hn
    rcases hs n hn with ⟨h3, h4⟩ | h3
    · exact .inl ⟨h3, h4.trans (hl n hn h3).symm⟩
    · exact .inr h3
  · have np : (∀ e ∈ pd, e.i ≠ t.i) → ∀ e ∈ pd', e.i ≠ t.i := fun hn e he => (hpd2 e he).elim (hn e) id
    rcases h2 with ⟨h2, h3, h4⟩ | ⟨h2, h3⟩
    · exact .inl ⟨h2, h3, np h4⟩
    · refine .inr ⟨h2, ?_⟩
      rcases h3 with ⟨f, h', h4, h5, h6, h7⟩ | ⟨f, h4, h5, h6, h7, h8⟩ | ⟨f, grp, k, id, h4, h5, h6, h7⟩
      · exact .inl ⟨f, h', h4, h5, h6, np h7⟩
      · exact .inr (.inl ⟨f, h4, h5, hck _ h6, fun hp => htr f st v h4 hp (h7 hp), np h8⟩)
      · exact .inr (.inr ⟨f, grp, k, id, h4, h5, h6, fun hp => hpd _ (h7 hp)⟩)

theorem ckB_ok {p : Nat} {pd : List Pd} {h : Hp} : ∀ {l : List Ck}, ckB p pd h l = true → ∀ x ∈ l, p ≤ x.hi → x.f x.s (mergeM x.m pd h) = x.v := by
  intro l
  induction l with
  | nil => intro _ x hx; cases hx
  | cons y l ih =>
    intro hb x hx hp
    have hb : Bool.rec (motive := fun _ => Bool) (ckB p pd h l) (Bool.rec (motive := fun _ => Bool) false (ckB p pd h l) (sameB y.v (y.f y.s (mergeM y.m pd h)))) (Nat.ble p y.hi) = true := hb
    rcases List.mem_cons.1 hx with rfl | hx
    · rw [ble_of hp] at hb
      cases hs : sameB x.v (x.f x.s (mergeM x.m pd h)) with
      | false => rw [hs] at hb; cases hb
      | true => exact (sameB_eq hs).symm
    · refine ih ?_ x hx hp
      cases hy : Nat.ble p y.hi with
      | false => rw [hy] at hb; exact hb
      | true =>
        rw [hy] at hb
        cases hs : sameB y.v (y.f y.s (mergeM y.m pd h)) with
        | false => rw [hs] at hb; cases hb
        | true => rw [hs] at hb; exact hb

theorem mem_restP {p : Nat} {e : Pd} : ∀ {l : List Pd}, e ∈ restP p l ↔ e ∈ l ∧ e.hi ≠ p := by
  intro l
  induction l with
  | nil => simp [restP]
  | cons x l ih =>
    show e ∈ Bool.rec (motive := fun _ => List Pd) (x :: restP p l) (restP p l) (Nat.beq x.hi p) ↔ _
    cases hb : Nat.beq x.hi p with
    | true =>
      have := Nat.eq_of_beq_eq_true hb
      show e ∈ restP p l ↔ _
      rw [ih, List.mem_cons]
      constructor
      · rintro ⟨h1, h2⟩; exact ⟨.inr h1, h2⟩
      · rintro ⟨rfl | h1, h2⟩
        · exact absurd this h2
        · exact ⟨h1, h2⟩
    | false =>
      have := Nat.ne_of_beq_eq_false hb
      show e ∈ x :: restP p l ↔ _
      rw [List.mem_cons, List.mem_cons, ih]
      constructor
      · rintro (rfl | ⟨h1, h2⟩)
        · exact ⟨.inl rfl, this⟩
        · exact ⟨.inr h1, h2⟩
      · rintro ⟨rfl | h1, h2⟩
        · exact .inl rfl
        · exact .inr ⟨h1, h2⟩

theorem QOk.next {s s' : Sl} {h h' : Hp} {pd : List Pd} {ck : List Ck} {p : Nat} {t : It} (hq : QOk P S ops its ls s0 s h pd ck p t)
    (hl : ∀ n, Looks ops t.o n → (∀ u ∈ its, u.o.dst = some n → bitB t.m u.i = true) → sget n s' = sget n s)
    (hd : ∀ d, t.o.dst = some d → sget d s' = sget d s) (hck : ckB (p + 1) (restP p pd) h' ck = true) :
    QOk P S ops its ls s0 s' h' (restP p pd) ck (p + 1) t := by
  obtain ⟨v, st, h1, hs, h2⟩ := hq
  refine ⟨v, st, fun d h3 => (hd d h3).trans (h1 d h3), ?_, ?_⟩
  · intro n hn
    rcases hs n hn with ⟨h3, h4⟩ | h3
    · exact .inl ⟨h3, h4.trans (hl n hn h3).symm⟩
    · exact .inr h3
  · have np : (∀ e ∈ pd, e.i ≠ t.i) → ∀ e ∈ restP p pd, e.i ≠ t.i := fun hn e he => hn e (mem_restP.1 he).1
    rcases h2 with ⟨h2, h3, h4⟩ | ⟨h2, h3⟩
    · exact .inl ⟨h2, h3, np h4⟩
    · refine .inr ⟨h2, ?_⟩
      rcases h3 with ⟨f, h', h4, h5, h6, h7⟩ | ⟨f, h4, h5, h6, h7, h8⟩ | ⟨f, grp, k, id, h4, h5, h6, h7⟩
      · exact .inl ⟨f, h', h4, h5, h6, np h7⟩
      · exact .inr (.inl ⟨f, h4, h5, h6, fun hp => ckB_ok hck _ h6 hp, np h8⟩)
      · exact .inr (.inr ⟨f, grp, k, id, h4, h5, h6, fun hp => mem_restP.2 ⟨h7 (by omega), by dsimp only; omega⟩⟩)

/- The run's own state. -/
structure CI (P : Program) (S : Nat) (ops : Array Oper) (its ls : List It) (s0 : Sl) (n0 : Nat) (p D : Nat) (s : Sl) (h : Hp) (pd : List Pd) (ck : List Ck) (T : It → Prop) : Prop where
  q : ∀ t, T t → QOk P S ops its ls s0 s h pd ck p t
  m : ∀ t, T t → ∀ b, bitB t.m b = true → bitB D b = true
  i : ∀ t, T t → bitB D t.i = true
  mem : ∀ t, T t → t ∈ its ∧ loudB P S t.o = false
  mm : ∀ u ∈ its, bitB D u.i = true → ∀ b, bitB u.m b = true → bitB D b = true
  id : ∀ e ∈ pd, S ≤ e.id.nat ∧ n0 ≤ e.id.nat ∧ e.id.nat < h.nx.nat ∧ h.get e.id = .none
  pt : ∀ e ∈ pd, ∃ t, T t ∧ t.i = e.i ∧ e.hi = hiN ls t.i
  inj : ∀ e ∈ pd, ∀ e' ∈ pd, e.id = e'.id → e = e'
  inji : ∀ e ∈ pd, ∀ e' ∈ pd, e.i = e'.i → e = e'
  fix : ∀ q : Nat, (∀ t ∈ its, t.o.dst = some q → bitB D t.i = false) → sget q s = sget q s0
  grp : ∀ g, h.get g ≠ .none → g.nat < h.nx.nat
  nx : S ≤ h.nx.nat ∧ n0 ≤ h.nx.nat

theorem goB_ok {D : Nat} {t : It} (h : goB D t = true) : (∀ b, bitB t.m b = true → bitB D b = true) ∧ bitB D t.i = false := by
  unfold goB at h
  split at h
  · rename_i h1
    split at h
    · cases h
    · rename_i h2
      exact ⟨fun b hb => bitB_land (Nat.eq_of_beq_eq_true h1) hb, h2⟩
  · cases h

/-- One that is yet to come writes nothing that those looked at which have been, but where they look ahead of it. -/
theorem look_put (pl : Pl P S N ops its ls) {D : Nat} {x t : It} (hx : x ∈ its) (ht : t ∈ its) (hm : ∀ b, bitB x.m b = true → bitB D b = true) (hD : bitB D t.i = false) (v : AVal) (s : Sl) :
    ∀ n, Looks ops x.o n → (∀ u ∈ its, u.o.dst = some n → bitB x.m u.i = true) → sget n (putT (dK N t.o) v s) = sget n s := by
  intro n _ hw
  rw [putT_ne]
  intro hd
  rw [hm _ (hw t ht hd)] at hD
  cases hD

theorem dst_put (pl : Pl P S N ops its ls) {D : Nat} {x t : It} (hx : x ∈ its) (ht : t ∈ its) (hi : bitB D x.i = true) (hD : bitB D t.i = false) (v : AVal) (s : Sl) (d : Nat) (hd : x.o.dst = some d) :
    sget d (putT (dK N t.o) v s) = sget d s := by
  rw [putT_ne]
  intro hd'
  rw [pl.dist x hx t ht d hd hd'] at hi
  rw [hi] at hD
  cases hD

theorem fix_put {D D' : Nat} {t : It} (ht : t ∈ its) (hDi : bitB D' t.i = true) (hDD : ∀ b, bitB D b = true → bitB D' b = true) {s : Sl} (hf : ∀ q : Nat, (∀ t ∈ its, t.o.dst = some q → bitB D t.i = false) → sget q s = sget q s0) (v : AVal) (q : Nat) (hq : ∀ t ∈ its, t.o.dst = some q → bitB D' t.i = false) :
    sget q (putT (dK N t.o) v s) = sget q s0 := by
  rw [putT_ne (fun hd => by have := hq t ht hd; rw [hDi] at this; cases this)]
  refine hf q fun u hu hd => ?_
  cases hb : bitB D u.i with
  | false => rfl
  | true => have := hq u hu hd; rw [hDD _ hb] at this; cases this

/-- What one looks at that is told now. -/
theorem seen_now (pl : Pl P S N ops its ls) {D : Nat} {s : Sl} {t : It} (ht : t ∈ its) (hm : ∀ b, bitB t.m b = true → bitB D b = true) (hD : bitB D t.i = false)
    (hmm : ∀ u ∈ its, bitB D u.i = true → ∀ b, bitB u.m b = true → bitB D b = true) (hf : ∀ q : Nat, (∀ t ∈ its, t.o.dst = some q → bitB D t.i = false) → sget q s = sget q s0)
    {s' : Sl} (hs' : ∀ n, Looks ops t.o n → (∀ u ∈ its, u.o.dst = some n → bitB t.m u.i = true) → sget n s' = sget n s) : Seen ops its s0 t s s' := by
  intro n hn
  rcases pl.looks ht hn with h1 | h1
  · exact .inl ⟨h1, (hs' n hn h1).symm⟩
  · refine .inr ⟨h1, hf n fun u hu hd => ?_⟩
    cases hb : bitB D u.i with
    | false => rfl
    | true =>
      have := hmm u hu hb _ (h1 u hu hd)
      rw [this] at hD
      cases hD

theorem CI.sub {n0 p D : Nat} {s : Sl} {h : Hp} {pd : List Pd} {ck : List Ck} {T T' : It → Prop} (c : CI P S ops its ls s0 n0 p D s h pd ck T) (hT : ∀ t, T' t ↔ T t) : CI P S ops its ls s0 n0 p D s h pd ck T' := by
  have : T' = T := funext fun t => propext (hT t)
  rw [this]
  exact c

/-- The quiet ones of a phase. -/
theorem qs_ok (pl : Pl P S N ops its ls) (n0 p : Nat) : ∀ (l : List Qi) (D D' : Nat) (s : Sl) (h : Hp) (pd : List Pd) (ck : List Ck) (T : It → Prop) (s1 : Sl) (h1 : Hp) (pd1 : List Pd) (ck1 : List Ck),
    goQ D l = some D' → qsR P S N ops l s h pd ck = .ok s1 h1 pd1 ck1 → (∀ q ∈ l, q.t ∈ its ∧ loudB P S q.t.o = false ∧ q.hi = hiN ls q.t.i) → CI P S ops its ls s0 n0 p D s h pd ck T →
    CI P S ops its ls s0 n0 p D' s1 h1 pd1 ck1 (fun t => T t ∨ ∃ q ∈ l, q.t = t) ∧ h1.tr = h.tr ∧ h.nx.nat ≤ h1.nx.nat ∧ (∀ e ∈ pd1, e ∈ pd ∨ (h.nx.nat ≤ e.id.nat ∧ ∃ q ∈ l, q.t.i = e.i)) ∧
      (∀ q : Nat, (∀ x ∈ l, x.t.o.dst ≠ some q) → sget q s1 = sget q s) := by
  intro l
  induction l with
  | nil =>
    intro D D' s h pd ck T s1 h1 pd1 ck1 hgo hr _ c
    cases hgo
    have hr : QR.ok s h pd ck = .ok s1 h1 pd1 ck1 := hr
    cases hr
    exact ⟨c.sub fun t => by simp, rfl, Nat.le_refl _, fun e he => .inl he, fun _ _ => rfl⟩
  | cons q l ih =>
    intro D D' s h pd ck T s1 h1 pd1 ck1 hgo hr hl c
    have hgo : (match goB D q.t with | true => goQ (Nat.lor D (Nat.pow 2 q.t.i)) l | false => none) = some D' := hgo
    split at hgo
    case h_2 => cases hgo
    rename_i hgB
    obtain ⟨hm, hD⟩ := goB_ok hgB
    obtain ⟨hit, hlo, hhi⟩ := hl q (by simp)
    have hl' : ∀ q ∈ l, q.t ∈ its ∧ loudB P S q.t.o = false ∧ q.hi = hiN ls q.t.i := fun x hx => hl x (by simp [hx])
    have hDor : ∀ b, bitB D b = true → bitB (Nat.lor D (Nat.pow 2 q.t.i)) b = true := fun b hb => by rw [bitB_lor, hb]; rfl
    have hDi : bitB (Nat.lor D (Nat.pow 2 q.t.i)) q.t.i = true := by rw [bitB_lor, bitB_pow]; simp
    have hDD : ∀ v, Seen ops its s0 q.t s (putT (dK N q.t.o) v s) := fun v => seen_now pl hit hm hD c.mm c.fix (look_put pl hit hit hm hD v s)
    have hmm' : ∀ u ∈ its, bitB (Nat.lor D (Nat.pow 2 q.t.i)) u.i = true → ∀ b, bitB u.m b = true → bitB (Nat.lor D (Nat.pow 2 q.t.i)) b = true := by
      intro u hu hb b hbu
      rw [bitB_lor, bitB_pow, Bool.or_eq_true, decide_eq_true_iff] at hb
      rcases hb with hb | hb
      · exact hDor _ (c.mm u hu hb b hbu)
      · have := pl.uniq u hu q.t hit hb.symm
        subst this
        exact hDor _ (hm b hbu)
    have hne : ∀ t, T t → t.i ≠ q.t.i := fun t ht e1 => by have := c.i t ht; rw [e1, hD] at this; cases this
    have hnp : ∀ e ∈ pd, e.i ≠ q.t.i := fun e he e1 => by
      obtain ⟨t, h1, h2, _⟩ := c.pt e he
      exact hne t h1 (h2.trans e1)
    have hself : ∀ v d, q.t.o.dst = some d → sget d (putT (dK N q.t.o) v s) = v := fun v d hd => putT_same hd (pl.dst _ hit d hd) v s
    -- the state behind one operation that changes no memory, given what stands of it
    have step : ∀ (v : AVal) (ck' : List Ck), (∀ x ∈ ck, x ∈ ck') → QOk P S ops its ls s0 (putT (dK N q.t.o) v s) h pd ck' p q.t →
        CI P S ops its ls s0 n0 p (Nat.lor D (Nat.pow 2 q.t.i)) (putT (dK N q.t.o) v s) h pd ck' (fun t => T t ∨ t = q.t) := by
      intro v ck' hck hq
      refine ⟨?_, ?_, ?_, ?_, hmm', c.id, ?_, c.inj, c.inji, fun x hx => fix_put hit hDi hDor c.fix v x hx, c.grp, c.nx⟩
      · rintro t (ht | rfl)
        · exact (c.q t ht).mono (look_put pl (c.mem t ht).1 hit (c.m t ht) hD v s) (fun d hd => dst_put pl (c.mem t ht).1 hit (c.i t ht) hD v s d hd) hck (fun _ h => h) (fun _ h => .inl h) (fun _ _ _ _ _ h => h)
        · exact hq
      · rintro t (ht | rfl) b hb
        · exact hDor _ (c.m t ht b hb)
        · exact hDor _ (hm b hb)
      · rintro t (ht | rfl)
        · exact hDor _ (c.i t ht)
        · exact hDi
      · rintro t (ht | rfl)
        · exact c.mem t ht
        · exact ⟨hit, hlo⟩
      · intro e he
        obtain ⟨t, h1, h2⟩ := c.pt e he
        exact ⟨t, .inl h1, h2⟩
    have done : ∀ (v : AVal) (ck' : List Ck), qsR P S N ops l (putT (dK N q.t.o) v s) h pd ck' = .ok s1 h1 pd1 ck1 → (∀ x ∈ ck, x ∈ ck') → QOk P S ops its ls s0 (putT (dK N q.t.o) v s) h pd ck' p q.t →
        CI P S ops its ls s0 n0 p D' s1 h1 pd1 ck1 (fun t => T t ∨ ∃ x ∈ q :: l, x.t = t) ∧ h1.tr = h.tr ∧ h.nx.nat ≤ h1.nx.nat ∧ (∀ e ∈ pd1, e ∈ pd ∨ (h.nx.nat ≤ e.id.nat ∧ ∃ x ∈ q :: l, x.t.i = e.i)) ∧
        (∀ x : Nat, (∀ y ∈ q :: l, y.t.o.dst ≠ some x) → sget x s1 = sget x s) := by
      intro v ck' hr hck hq
      obtain ⟨g1, g2, g3, g4, g5⟩ := ih _ _ _ _ _ _ _ _ _ _ _ hgo hr hl' (step v ck' hck hq)
      refine ⟨g1.sub fun t => ?_, g2, g3, fun e he => (g4 e he).imp id fun ⟨h5, x, h6, h7⟩ => ⟨h5, x, by simp [h6], h7⟩, fun x hx => ?_⟩
      · constructor
        · rintro (h5 | ⟨x, h6, h7⟩)
          · exact .inl (.inl h5)
          · rcases List.mem_cons.1 h6 with rfl | h6
            · exact .inl (.inr h7.symm)
            · exact .inr ⟨x, h6, h7⟩
        · rintro ((h5 | h5) | ⟨x, h6, h7⟩)
          · exact .inl h5
          · exact .inr ⟨q, by simp, h5.symm⟩
          · exact .inr ⟨x, by simp [h6], h7⟩
      · rw [g5 x fun y hy => hx y (by simp [hy]), putT_ne (hx q (by simp))]
    have hok := opK_ok P S q.t.o
    have hr : W3.rec (motive := fun _ => QR)
      (OK.rec (motive := fun _ => QR) .bad
        (fun mem f => Bool.rec (motive := fun _ => QR)
          (Bool.rec (motive := fun _ => QR) (putS (dK N q.t.o) (f s h) s fun s' => qsR P S N ops l s' h pd ck) .bad (isBot (f s h)))
          (Bool.rec (motive := fun _ => QR) (putS (dK N q.t.o) (f s (mergeM q.t.m pd h)) s fun s' => qsR P S N ops l s' h pd (⟨f, s, f s (mergeM q.t.m pd h), q.t.m, q.hi⟩ :: ck)) .bad (isBot (f s (mergeM q.t.m pd h)))) mem)
        (fun f => NR.rec (motive := fun _ => QR) .bad (fun grp k => putS (dK N q.t.o) (mkA k h.nx) s fun s' => qsR P S N ops l s' ⟨h.tr, h.nx.inc⟩ (⟨h.nx, grp, q.hi, q.t.i⟩ :: pd) ck) (f s))
        (fun _ => .bad) (opK P S q.t.o))
      (putS (dK N q.t.o) undefA s fun s' => qsR P S N ops l s' h pd ck)
      .bad (gdA (gK ops q.t.o) s) = .ok s1 h1 pd1 ck1 := hr
    cases hg : gdA (gK ops q.t.o) s with
    | bad => rw [hg] at hr; cases hr
    | no =>
      rw [hg] at hr
      have hr : putS (dK N q.t.o) undefA s (fun s' => qsR P S N ops l s' h pd ck) = .ok s1 h1 pd1 ck1 := hr
      rw [putS_eq] at hr
      exact done undefA ck hr (fun _ h => h) ⟨undefA, s, hself undefA, hDD _, .inl ⟨hg, rfl, hnp⟩⟩
    | yes =>
      rw [hg] at hr
      cases hk : opK P S q.t.o with
      | bad => rw [hk] at hr; cases hr
      | l f => rw [hk] at hr; cases hr
      | q mem f =>
        rw [hk] at hr hok
        cases mem with
        | false =>
          have hr : Bool.rec (motive := fun _ => QR) (putS (dK N q.t.o) (f s h) s fun s' => qsR P S N ops l s' h pd ck) .bad (isBot (f s h)) = .ok s1 h1 pd1 ck1 := hr
          cases hb : isBot (f s h) with
          | true => rw [hb] at hr; cases hr
          | false =>
            rw [hb] at hr
            have hr : putS (dK N q.t.o) (f s h) s (fun s' => qsR P S N ops l s' h pd ck) = .ok s1 h1 pd1 ck1 := hr
            rw [putS_eq] at hr
            exact done _ ck hr (fun _ h => h) ⟨f s h, s, hself _, hDD _, .inr ⟨hg, .inl ⟨f, h, hk, rfl, isBot_false hb, hnp⟩⟩⟩
        | true =>
          have hr : Bool.rec (motive := fun _ => QR) (putS (dK N q.t.o) (f s (mergeM q.t.m pd h)) s fun s' => qsR P S N ops l s' h pd (⟨f, s, f s (mergeM q.t.m pd h), q.t.m, q.hi⟩ :: ck)) .bad (isBot (f s (mergeM q.t.m pd h))) = .ok s1 h1 pd1 ck1 := hr
          cases hb : isBot (f s (mergeM q.t.m pd h)) with
          | true => rw [hb] at hr; cases hr
          | false =>
            rw [hb] at hr
            have hr : putS (dK N q.t.o) (f s (mergeM q.t.m pd h)) s (fun s' => qsR P S N ops l s' h pd (⟨f, s, f s (mergeM q.t.m pd h), q.t.m, q.hi⟩ :: ck)) = .ok s1 h1 pd1 ck1 := hr
            rw [putS_eq, hhi] at hr
            exact done _ _ hr (fun x hx => List.mem_cons_of_mem _ hx) ⟨f s (mergeM q.t.m pd h), s, hself _, hDD _, .inr ⟨hg, .inr (.inl ⟨f, hk, isBot_false hb, List.mem_cons_self, fun _ => rfl, hnp⟩)⟩⟩
      | n f =>
        rw [hk] at hr hok
        have hr : NR.rec (motive := fun _ => QR) .bad (fun grp k => putS (dK N q.t.o) (mkA k h.nx) s fun s' => qsR P S N ops l s' ⟨h.tr, h.nx.inc⟩ (⟨h.nx, grp, q.hi, q.t.i⟩ :: pd) ck) (f s) = .ok s1 h1 pd1 ck1 := hr
        cases hf : f s with
        | bad => rw [hf] at hr; cases hr
        | mk grp k =>
          rw [hf] at hr
          have hr : putS (dK N q.t.o) (mkA k h.nx) s (fun s' => qsR P S N ops l s' ⟨h.tr, h.nx.inc⟩ (⟨h.nx, grp, q.hi, q.t.i⟩ :: pd) ck) = .ok s1 h1 pd1 ck1 := hr
          rw [putS_eq, hhi] at hr
          have hget : ∀ g, Hp.get ⟨h.tr, h.nx.inc⟩ g = h.get g := fun g => rfl
          have hinc : (⟨h.tr, h.nx.inc⟩ : Hp).nx.nat = h.nx.nat + 1 := Pth.nat_inc _
          have hnone : h.get h.nx = .none := by
            cases hn : h.get h.nx with
            | none => rfl
            | row => have := c.grp h.nx (by rw [hn]; exact fun e => by cases e); omega
            | map => have := c.grp h.nx (by rw [hn]; exact fun e => by cases e); omega
          have hskip : ∀ (m : Nat), bitB m q.t.i = false → (mergeM m (⟨h.nx, grp, hiN ls q.t.i, q.t.i⟩ :: pd) ⟨h.tr, h.nx.inc⟩).tr = (mergeM m pd h).tr := by
            intro m hb
            show (Bool.rec (motive := fun _ => Hp) (mergeM m pd ⟨h.tr, h.nx.inc⟩) (mergeM m pd (Hp.put ⟨h.tr, h.nx.inc⟩ h.nx grp)) (bitB m q.t.i)).tr = _
            rw [hb]
            show (mergeM m pd ⟨h.tr, h.nx.inc⟩).tr = _
            rw [mergeM_eq, mergeM_eq]
            exact layL_tr _ _ _ rfl
          have hnb : ∀ m : Nat, (∀ b, bitB m b = true → bitB D b = true) → bitB m q.t.i = false := fun m hm => by
            cases hb : bitB m q.t.i with
            | false => rfl
            | true => rw [hm _ hb] at hD; cases hD
          have hci : CI P S ops its ls s0 n0 p (Nat.lor D (Nat.pow 2 q.t.i)) (putT (dK N q.t.o) (mkA k h.nx) s) ⟨h.tr, h.nx.inc⟩ (⟨h.nx, grp, hiN ls q.t.i, q.t.i⟩ :: pd) ck (fun t => T t ∨ t = q.t) := by
            refine ⟨?_, ?_, ?_, ?_, hmm', ?_, ?_, ?_, ?_, fun x hx => fix_put hit hDi hDor c.fix _ x hx, ?_, ?_⟩
            · rintro t (ht | rfl)
              · refine (c.q t ht).mono (look_put pl (c.mem t ht).1 hit (c.m t ht) hD _ s) (fun d hd => dst_put pl (c.mem t ht).1 hit (c.i t ht) hD _ s d hd) (fun _ h => h) (fun e he => List.mem_cons_of_mem _ he) (fun e he => ?_) (fun f' st v hkt _ hv => ?_)
                · rcases List.mem_cons.1 he with rfl | he
                  · exact .inr (Ne.symm (hne t ht))
                  · exact .inl he
                · have hokt := opK_ok P S t.o
                  rw [hkt] at hokt
                  exact (hokt.2 st st _ _ (fun _ _ => rfl) (fun _ => hskip _ (hnb _ (c.m t ht)))).trans hv
              · exact ⟨mkA k h.nx, s, hself _, hDD _, .inr ⟨hg, .inr (.inr ⟨f, grp, k, h.nx, hk, hf, rfl, fun _ => List.mem_cons_self⟩)⟩⟩
            · rintro t (ht | rfl) b hb
              · exact hDor _ (c.m t ht b hb)
              · exact hDor _ (hm b hb)
            · rintro t (ht | rfl)
              · exact hDor _ (c.i t ht)
              · exact hDi
            · rintro t (ht | rfl)
              · exact c.mem t ht
              · exact ⟨hit, hlo⟩
            · intro e he
              rw [hinc, hget]
              rcases List.mem_cons.1 he with rfl | he
              · exact ⟨c.nx.1, c.nx.2, Nat.lt_succ_self _, hnone⟩
              · obtain ⟨h1, h2, h3, h4⟩ := c.id e he
                exact ⟨h1, h2, by omega, h4⟩
            · intro e he
              rcases List.mem_cons.1 he with rfl | he
              · exact ⟨q.t, .inr rfl, rfl, rfl⟩
              · obtain ⟨t, h1, h2⟩ := c.pt e he
                exact ⟨t, .inl h1, h2⟩
            · intro e he e' he' hid
              rcases List.mem_cons.1 he with rfl | he
              · rcases List.mem_cons.1 he' with rfl | he'
                · rfl
                · have := (c.id e' he').2.2.1
                  rw [← hid] at this
                  exact absurd this (Nat.lt_irrefl _)
              · rcases List.mem_cons.1 he' with rfl | he'
                · have := (c.id e he).2.2.1
                  rw [hid] at this
                  exact absurd this (Nat.lt_irrefl _)
                · exact c.inj e he e' he' hid
            · intro e he e' he' hi
              have old : ∀ e ∈ pd, e.i ≠ q.t.i := fun e he e1 => by
                exact hnp e he e1
              rcases List.mem_cons.1 he with rfl | he
              · rcases List.mem_cons.1 he' with rfl | he'
                · rfl
                · exact absurd hi.symm (old e' he')
              · rcases List.mem_cons.1 he' with rfl | he'
                · exact absurd hi (old e he)
                · exact c.inji e he e' he' hi
            · intro g hg1
              rw [hget] at hg1
              rw [hinc]
              have := c.grp g hg1
              omega
            · rw [hinc]
              have := c.nx
              omega
          obtain ⟨g1, g2, g3, g4, g5⟩ := ih _ _ _ _ _ _ _ _ _ _ _ hgo hr hl' hci
          refine ⟨g1.sub fun t => ?_, g2, by rw [hinc] at g3; omega, ?_, fun x hx => ?_⟩
          · constructor
            · rintro (h5 | ⟨x, h6, h7⟩)
              · exact .inl (.inl h5)
              · rcases List.mem_cons.1 h6 with rfl | h6
                · exact .inl (.inr h7.symm)
                · exact .inr ⟨x, h6, h7⟩
            · rintro ((h5 | h5) | ⟨x, h6, h7⟩)
              · exact .inl h5
              · exact .inr ⟨q, by simp, h5.symm⟩
              · exact .inr ⟨x, by simp [h6], h7⟩
          · intro e he
            rcases g4 e he with h5 | ⟨h5, x, h6, h7⟩
            · rcases List.mem_cons.1 h5 with rfl | h5
              · exact .inr ⟨Nat.le_refl _, q, by simp, rfl⟩
              · exact .inl h5
            · exact .inr ⟨by rw [hinc] at h5; omega, x, by simp [h6], h7⟩
          · rw [g5 x fun y hy => hx y (by simp [hy]), putT_ne (hx q (by simp))]

/- What has been, in some order. -/
structure XI (P : Program) (S : Nat) (ops : Array Oper) (its : List It) (X : Array Bool) (pre post : List It) : Prop where
  sz : X.size = ops.size
  cl : ∀ t ∈ its, X.getD t.i false = true → ∀ b, bitB t.m b = true → X.getD b false = true
  pre : ∀ u ∈ pre, X.getD u.i false = true
  post : ∀ u ∈ post, X.getD u.i false ≠ true

structure RI (S N : Nat) (its : List It) (s0 : Sl) (φ0 : Env) (h0 : Hp) (w0 : World) (X : Array Bool) (φ : Env) (s : Sl) (d : List ADef) (h : Hp) (pd : List Pd) (a : Act) (w : World) : Prop where
  rel : Rel S φ h w.heap
  fw : Fw S φ0 h0 w0 φ h w
  df : DR φ d a.defers
  sz : a.tmps.size = N
  sl : ∀ q : Nat, sget q s ≠ .bot → (∀ t ∈ its, t.o.dst = some q → X.getD t.i false = true) → ∃ cv, conc φ (sget q s) = some cv ∧ a.tmps[q]? = some cv
  old : ∀ u ∈ its, X.getD u.i false ≠ true → ∀ n, u.o.dst = some n → sget n s0 ≠ .bot → ∃ cv, conc φ (sget n s0) = some cv ∧ a.tmps[n]? = some cv
  pend : ∀ e ∈ pd, X.getD e.i false = true → PendOk φ w.heap e
  new : ∀ e ∈ pd, X.getD e.i false ≠ true → ∀ v, φ e.id v = none

theorem getD_set {X : Array Bool} {i j : Nat} (hi : i < X.size) : (X.setIfInBounds i true).getD j false = true ↔ j = i ∨ X.getD j false = true := by
  by_cases e : j = i
  · subst e; simp [hi]
  · rw [getD_set_ne false (Ne.symm e)]; simp [e]

theorem lt_of_listed {X : Array Bool} {i : Nat} (h : X.getD i false = true) : i < X.size := by
  refine Nat.lt_of_not_le fun hge => ?_
  rw [Array.getD_eq_getD_getElem?, Array.getElem?_eq_none hge] at h
  cases h

theorem getD_tf {X : Array Bool} {i : Nat} (h : X.getD i true = false) : X.getD i false ≠ true := by
  intro h2
  have hlt := lt_of_listed h2
  simp [hlt] at h h2
  rw [h] at h2; cases h2

theorem getD_ft {X : Array Bool} {i : Nat} (hi : i < X.size) (h : X.getD i false ≠ true) : X.getD i true = false := by
  simp [hi] at h ⊢
  exact h

noncomputable def sRof (s0 : Sl) (its : List It) (X : Array Bool) (s : Sl) : Sl := clrT s0 (its.filter fun u => !(X.getD u.i false)) s

theorem sR_sl {φ0 : Env} {h0 : Hp} {w0 : World} {X : Array Bool} {φ : Env} {s : Sl} {d : List ADef} {h : Hp} {pd : List Pd} {a : Act} {w : World} (ri : RI S N its s0 φ0 h0 w0 X φ s d h pd a w) : SR φ (sRof s0 its X s) a.tmps := by
  intro q hq
  unfold sRof at hq ⊢
  by_cases hx : ∃ t ∈ its, t.o.dst = some q ∧ X.getD t.i false ≠ true
  · obtain ⟨t, ht, hd, hX⟩ := hx
    have e := clrT_in (s0 := s0) (q := q) (its.filter fun u => !(X.getD u.i false)) s ⟨t, List.mem_filter.2 ⟨ht, by simpa using hX⟩, hd⟩
    rw [e] at hq ⊢
    exact ri.old t ht hX q hd hq
  · have hno : ∀ t ∈ its, t.o.dst = some q → X.getD t.i false = true := by
      intro t ht hd
      cases hb : X.getD t.i false with
      | true => rfl
      | false => exact absurd ⟨t, ht, hd, by rw [hb]; exact fun e => by cases e⟩ hx
    have he := clrT_ne (s0 := s0) (q := q) (its.filter fun u => !(X.getD u.i false)) s fun t ht hd => by
      obtain ⟨h1, h2⟩ := List.mem_filter.1 ht
      rw [hno t h1 hd] at h2
      cases h2
    rw [he] at hq ⊢
    exact ri.sl q hq hno

theorem sR_in {X : Array Bool} {t u : It} (hu : u ∈ its) {n : Nat} (hd : u.o.dst = some n) (hX : X.getD u.i false ≠ true) (s : Sl) : sget n (sRof s0 its X s) = sget n s0 :=
  clrT_in _ _ ⟨u, List.mem_filter.2 ⟨hu, by simpa using hX⟩, hd⟩

theorem sR_ne {X : Array Bool} {n : Nat} (hno : ∀ u ∈ its, u.o.dst = some n → X.getD u.i false = true) (s : Sl) : sget n (sRof s0 its X s) = sget n s :=
  clrT_ne _ _ fun t ht hd => by
    obtain ⟨h1, h2⟩ := List.mem_filter.1 ht
    rw [hno t h1 hd] at h2
    cases h2

/-- What it looked at when it was told is what it finds now. -/
theorem sR_seen {X : Array Bool} {t : It} (hb : ∀ b, bitB t.m b = true → X.getD b false = true) (hun : X.getD t.i false ≠ true)
    (hcl : ∀ t ∈ its, X.getD t.i false = true → ∀ b, bitB t.m b = true → X.getD b false = true) {s st : Sl} (hs : Seen ops its s0 t st s)
    (hno : ∀ n, (∀ u ∈ its, u.o.dst = some n → False) → sget n s = sget n s0) : LookSame ops t.o st (sRof s0 its X s) := by
  intro n hn
  rcases hs n hn with ⟨h1, h2⟩ | ⟨h1, h2⟩
  · rw [h2, sR_ne fun u hu hd => hb _ (h1 u hu hd)]
  · rw [h2]
    by_cases hx : ∃ u ∈ its, u.o.dst = some n
    · obtain ⟨u, hu, hd⟩ := hx
      rw [sR_in (t := t) hu hd fun hX => hun (hcl u hu hX _ (h1 u hu hd))]
    · have hx' : ∀ u ∈ its, u.o.dst = some n → False := fun u hu hd => hx ⟨u, hu, hd⟩
      rw [sR_ne fun u hu hd => (hx' u hu hd).elim, hno n hx']

theorem ready_bits (pl : Pl P S N ops its ls) {X : Array Bool} {pre post : List It} (xi : XI P S ops its X pre post) {t : It} (ht : t ∈ its) (hr : t.i ∈ Region.ready .any ops X) : ∀ b, bitB t.m b = true → X.getD b false = true := by
  intro b hb
  obtain ⟨_, o, ho, hall⟩ := mem_ready.1 hr
  rw [pl.at' t ht] at ho
  cases ho
  obtain ⟨e, h1, h2, h3⟩ := pl.msk t ht b hb
  have h4 := hall e h1 h2
  rcases h3 with rfl | ⟨u, h5, h6, h7⟩
  · exact h4
  · exact xi.cl u h5 (by rw [h6]; exact h4) b h7

/-- The slots behind one operation. -/
theorem sl_put (pl : Pl P S N ops its ls) {φ φ' : Env} {X : Array Bool} {s : Sl} {a : Act} (hle : φ.le φ') (hsz : a.tmps.size = N) (hX : X.size = ops.size)
    (hsl : ∀ q : Nat, sget q s ≠ .bot → (∀ t ∈ its, t.o.dst = some q → X.getD t.i false = true) → ∃ cv, conc φ (sget q s) = some cv ∧ a.tmps[q]? = some cv)
    {t : It} (ht : t ∈ its) {v : AVal} {cv : Value} (hv : conc φ' v = some cv) {s' : Sl} (hs1 : ∀ d, t.o.dst = some d → sget d s' = v) (hs2 : ∀ q : Nat, t.o.dst ≠ some q → sget q s' = sget q s) :
    ∀ q : Nat, sget q s' ≠ .bot → (∀ u ∈ its, u.o.dst = some q → (X.setIfInBounds t.i true).getD u.i false = true) → ∃ cv', conc φ' (sget q s') = some cv' ∧ (a.put t.o.dst cv).tmps[q]? = some cv' := by
  intro q hq hall
  have hlt : t.i < X.size := by rw [hX]; exact (Array.getElem?_eq_some_iff.1 (pl.at' t ht)).1
  by_cases hd : t.o.dst = some q
  · have := hs1 _ hd
    rw [this]
    refine ⟨cv, hv, ?_⟩
    have hN := pl.dst t ht _ hd
    simp [Act.put, hd, hsz, hN]
  · rw [hs2 q hd] at hq ⊢
    obtain ⟨cv', h1, h2⟩ := hsl q hq fun u hu hdu => by
      rcases (getD_set hlt).1 (hall u hu hdu) with h3 | h3
      · have : u = t := pl.uniq u hu t ht h3
        subst this
        exact absurd hdu hd
      · exact h3
    refine ⟨cv', conc_mono hle _ _ h1, ?_⟩
    cases hdt : t.o.dst with
    | none => exact h2
    | some d =>
      have : d ≠ q := fun e => hd (by rw [hdt, e])
      simp only [Act.put, Array.getElem?_setIfInBounds, if_neg this]
      exact h2

theorem put_dfs (a : Act) (dst : Option Tmp) (v : Value) : (a.put dst v).defers = a.defers := by unfold Act.put; split <;> rfl

theorem put_size (a : Act) (dst : Option Tmp) (v : Value) : (a.put dst v).tmps.size = a.tmps.size := by unfold Act.put; split <;> simp

/-- The old slots behind one operation. -/
theorem old_put (pl : Pl P S N ops its ls) {φ φ' : Env} {X : Array Bool} {a : Act} (hle : φ.le φ') (hX : X.size = ops.size)
    (hold : ∀ u ∈ its, X.getD u.i false ≠ true → ∀ n, u.o.dst = some n → sget n s0 ≠ .bot → ∃ cv, conc φ (sget n s0) = some cv ∧ a.tmps[n]? = some cv) {t : It} (ht : t ∈ its) (cv : Value) :
    ∀ u ∈ its, (X.setIfInBounds t.i true).getD u.i false ≠ true → ∀ n, u.o.dst = some n → sget n s0 ≠ .bot → ∃ cv', conc φ' (sget n s0) = some cv' ∧ (a.put t.o.dst cv).tmps[n]? = some cv' := by
  intro u hu hx n hd hn
  have hlt : t.i < X.size := by rw [hX]; exact (Array.getElem?_eq_some_iff.1 (pl.at' t ht)).1
  have hx' : X.getD u.i false ≠ true := fun h => hx ((getD_set hlt).2 (.inr h))
  obtain ⟨cv', h1, h2⟩ := hold u hu hx' n hd hn
  refine ⟨cv', conc_mono hle _ _ h1, ?_⟩
  cases hdt : t.o.dst with
  | none => exact h2
  | some d =>
    have : d ≠ n := fun e => by
      rw [e] at hdt
      have := pl.dist u hu t ht n hd hdt
      subst this
      exact hx ((getD_set hlt).2 (.inl rfl))
    simp only [Act.put, Array.getElem?_setIfInBounds, if_neg this]
    exact h2

theorem quiet_step (pl : Pl P S N ops its ls) {n0 D : Nat} {s : Sl} {h : Hp} {pd : List Pd} {ck : List Ck} {T : It → Prop} {pre post : List It} (hls : ls = pre ++ post) (ci : CI P S ops its ls s0 n0 pre.length D s h pd ck T)
    {X : Array Bool} (xi : XI P S ops its X pre post) {φ0 : Env} {h0 : Hp} {w0 : World} (hn0 : n0 = h0.nx.nat) {φ : Env} {d : List ADef} {a : Act} {w : World} (ri : RI S N its s0 φ0 h0 w0 X φ s d h pd a w)
    {t : It} (hT : T t) (hr : t.i ∈ Region.ready .any ops X) {K : Act → World → Prop} {Q : Exit → Act → World → Prop} (hK : ∀ φ' a' w', RI S N its s0 φ0 h0 w0 (X.setIfInBounds t.i true) φ' s d h pd a' w' → K a' w') :
    wpOp P ops Q t.i K a w := by
  obtain ⟨ht, hlo⟩ := ci.mem t hT
  have hun := getD_tf (mem_ready.1 hr).1
  have hbits := ready_bits pl xi ht hr
  have hlt : t.i < X.size := by rw [xi.sz]; exact (Array.getElem?_eq_some_iff.1 (pl.at' t ht)).1
  have hp : pre.length ≤ hiN ls t.i := by
    rw [hls]
    refine hiN_ge fun u hu => ?_
    cases hb : bitB u.m t.i with
    | false => rfl
    | true => exact absurd (xi.cl u ((pl.lmem u).1 (by rw [hls]; simp [hu])).1 (xi.pre u hu) _ hb) hun
  have hsR := sR_sl ri
  obtain ⟨v, st, hv1, hseen, hv2⟩ := ci.q t hT
  have hlook := sR_seen hbits hun xi.cl hseen fun n hno => ci.fix n fun u hu hd => (hno u hu hd).elim
  have hok := opK_ok P S t.o
  have hgd := gdA_ok (ops := ops) (o := t.o) hsR
  rw [← hlook.gd] at hgd
  have same : ∀ (cv : Value), (∀ e ∈ pd, e.i ≠ t.i) → conc φ v = some cv → RI S N its s0 φ0 h0 w0 (X.setIfInBounds t.i true) φ s d h pd (a.put t.o.dst cv) w := by
    intro cv hne hcv
    refine ⟨ri.rel, ri.fw, by rw [put_dfs]; exact ri.df, by rw [put_size]; exact ri.sz, sl_put pl (Env.le_refl _) ri.sz xi.sz ri.sl ht hcv hv1 (fun _ _ => rfl), old_put pl (Env.le_refl _) xi.sz ri.old ht cv, ?_, ?_⟩
    · intro e he hx
      rcases (getD_set hlt).1 hx with h1 | h1
      · exact absurd h1 (hne e he)
      · exact ri.pend e he h1
    · intro e he hx
      exact ri.new e he fun h1 => hx ((getD_set hlt).2 (.inr h1))
  unfold wpOp
  rw [pl.at' t ht]
  dsimp only
  rcases hv2 with ⟨hg, hv, hnp⟩ | ⟨hg, hv⟩
  · rw [hgd.2 hg]
    simp only [Bool.false_eq_true, if_false]
    have hc : conc φ v = some undef := by rw [hv]; exact conc_undefA φ
    exact hK φ _ _ (same undef hnp hc)
  · rw [hgd.1 hg]
    simp only [if_true]
    left
    rcases hv with ⟨f, h', h4, h5, h6, hnp⟩ | ⟨f, h4, h5, h6, h7, hnp⟩ | ⟨f, grp, k, id, h4, h5, h6, h7⟩
    · rw [h4] at hok
      have e1 : f (sRof s0 its X s) h = v := (hok.2 _ st h h' hlook.symm.agr (fun e => by cases e)).trans h5
      obtain ⟨cv, h8, h9⟩ := hok.1 φ (sRof s0 its X s) h a w ri.rel hsR (by rw [e1]; exact h6)
      rw [e1] at h8
      unfold Oper.wp
      rw [h9]
      exact hK φ _ _ (same cv hnp h8)
    · rw [h4] at hok
      have hsel : ∀ e ∈ pd, bitB t.m e.i = true → S ≤ e.id.nat ∧ e.id.nat < h.nx.nat ∧ PendOk φ w.heap e := fun e he hb => by
        obtain ⟨h1, h2, h3, _⟩ := ci.id e he
        exact ⟨h1, h3, ri.pend e he (hbits _ hb)⟩
      have R' : Rel S φ (mergeM t.m pd h) w.heap := by rw [mergeM_eq]; exact layL_rel pd h ri.rel hsel
      have e1 : f (sRof s0 its X s) (mergeM t.m pd h) = v := (hok.2 _ st _ _ hlook.symm.agr (fun _ => rfl)).trans (h7 hp)
      obtain ⟨cv, h8, h9⟩ := hok.1 φ (sRof s0 its X s) (mergeM t.m pd h) a w R' hsR (by rw [e1]; exact h5)
      rw [e1] at h8
      unfold Oper.wp
      rw [h9]
      exact hK φ _ _ (same cv hnp h8)
    · rw [h4] at hok
      have e1 : f (sRof s0 its X s) = .mk grp k := (hok.2 _ st hlook.symm.agr).trans h5
      obtain ⟨obj, capE, dr, h8, h9, h10⟩ := hok.1 φ (sRof s0 its X s) h a w w.heap grp k ri.rel hsR e1
      have he := h7 hp
      obtain ⟨g1, g2, g3, g4⟩ := ci.id _ he
      have hno := ri.new _ he hun
      have hle := Env.upd_le (φ := φ) (g := id) (v := 0) ⟨w.heap.size, 0, capE⟩ (hno 0)
      have hcv : conc (φ.upd id 0 ⟨w.heap.size, 0, capE⟩) v = some (nkVal k w.heap.size capE) := by rw [h6]; exact conc_mkA (Env.upd_same _ _ _ _) h9
      unfold Oper.wp
      rw [h10]
      refine hK (φ.upd id 0 ⟨w.heap.size, 0, capE⟩) _ _ ⟨ri.rel.allocAt g3 hno g4 obj capE, ⟨ri.fw.ext.allocAt (hn0 ▸ g2) hno obj capE, ⟨ri.fw.wk.os, ri.fw.wk.out, ri.fw.wk.tape⟩⟩, ?_, ?_, ?_, old_put pl hle xi.sz ri.old ht _, ?_, ?_⟩
      · rw [put_dfs]; exact ri.df.mono hle
      · rw [put_size]; exact ri.sz
      · exact sl_put pl hle ri.sz xi.sz ri.sl ht hcv hv1 (fun _ _ => rfl)
      · intro e he' hx
        by_cases hei : e.i = t.i
        · have := ci.inji e he' _ he hei
          subst this
          exact PendOk.alloc _ _ hno h8
        · have hx' := ((getD_set hlt).1 hx).resolve_left hei
          have hid : e.id ≠ id := fun e1 => hei (by rw [ci.inj e he' _ he e1])
          refine (ri.pend e he' hx').mono hle (fun v i hv => by rwa [Env.upd_ne _ _ (.inl hid)] at hv) fun v i hv => ?_
          show (w.heap.push obj)[i.block]? = _
          rw [Array.getElem?_push, if_neg]
          have := (ri.rel.dom _ _ _ hv).2
          omega
      · intro e he' hx v'
        have hei : e.i ≠ t.i := fun h1 => hx ((getD_set hlt).2 (.inl h1))
        have hid : e.id ≠ id := fun e1 => hei (by rw [ci.inj e he' _ he e1])
        rw [Env.upd_ne _ _ (.inl hid)]
        exact ri.new e he' (fun h1 => hx ((getD_set hlt).2 (.inr h1))) v'

end
end Go.Abs

/- A region that may go in any order: the whole. -/
namespace Go.Abs

noncomputable def segT (P : Program) (S N : Nat) (cal : Cal) (ops : Array Oper) (s0 : Sl) (x : Option It) (rest : List Seg) (p : Nat) (s : Sl) (d : List ADef) (h : Hp) (pd : List Pd) (ck : List Ck) : ER :=
  Option.rec (motive := fun _ => ER) (.nrm s d (mergeAll pd h))
        (fun t => W3.rec (motive := fun _ => ER)
          (SO.rec (motive := fun _ => ER) .bad
            (fun v d' h' => putS (dK N t.o) v s fun s' => Bool.rec (motive := fun _ => ER) .bad (segR P S N cal ops s0 rest (Nat.succ p) s' d' h' (restP p pd) ck) (ckB (Nat.succ p) (restP p pd) h' ck))
            (fun ch h' => .pan ch (clrS N ops.toList s0) d h') .bad (doO cal (opK P S t.o) s d (mergeH p pd h)))
          (putS (dK N t.o) undefA s fun s' => Bool.rec (motive := fun _ => ER) .bad (segR P S N cal ops s0 rest (Nat.succ p) s' d (mergeH p pd h) (restP p pd) ck) (ckB (Nat.succ p) (restP p pd) (mergeH p pd h) ck))
          .bad (gdA (gK ops t.o) s)) x

theorem segR_cons (P : Program) (S N : Nat) (cal : Cal) (ops : Array Oper) (s0 : Sl) (g : Seg) (rest : List Seg) (p : Nat) (s : Sl) (d : List ADef) (h : Hp) (pd : List Pd) (ck : List Ck) :
    segR P S N cal ops s0 (g :: rest) p s d h pd ck = QR.rec (motive := fun _ => ER) .bad (fun s h pd ck => segT P S N cal ops s0 g.l rest p s d h pd ck) (qsR P S N ops g.qs s h pd ck) := rfl

noncomputable def restS (P : Program) (S : Nat) (ls its : List It) (p : Nat) : List It → List Seg
  | [] => []
  | _ :: r => segsL P S ls its (Nat.succ p) r

theorem segsL_eq (P : Program) (S : Nat) (ls its : List It) (p : Nat) (r : List It) : segsL P S ls its p r = ⟨phaseL P S ls p its, r.head?⟩ :: restS P S ls its p r := by
  cases r <;> rfl

def goT (P : Program) (S : Nat) (ls its : List It) (D p : Nat) : List It → Prop
  | [] => True
  | x :: r => goB D x = true ∧ goS (Nat.lor D (Nat.pow 2 x.i)) (segsL P S ls its (Nat.succ p) r) = true

theorem goS_cons {P : Program} {S : Nat} {ls its : List It} {D p : Nat} {r : List It} (h : goS D (segsL P S ls its p r) = true) : ∃ D', goQ D (phaseL P S ls p its) = some D' ∧ goT P S ls its D' p r := by
  rw [segsL_eq] at h
  unfold goS at h
  split at h
  · cases h
  · rename_i D' hq
    refine ⟨D', hq, ?_⟩
    cases r with
    | nil => trivial
    | cons x r =>
      have h : (match goB D' x with | true => goS (Nat.lor D' (Nat.pow 2 x.i)) (segsL P S ls its (Nat.succ p) r) | false => false) = true := h
      split at h
      · rename_i hb; exact ⟨hb, h⟩
      · cases h

section
variable {P : Program} {S N : Nat} {ops : Array Oper} {its ls : List It}

/-- The quiet ones of a phase, that has begun. -/
theorem enter (pl : Pl P S N ops its ls) {cal : Cal} {s0 : Sl} {φ0 : Env} {h0 : Hp} {w0 : World} {pre post : List It} (hls : ls = pre ++ post) {D : Nat} {s : Sl} {d : List ADef} {h : Hp} {pd : List Pd} {ck : List Ck} {r : ER}
    (ci : CI P S ops its ls s0 h0.nx.nat pre.length D s h pd ck (fun t => t ∈ its ∧ loudB P S t.o = false ∧ phN ls t.m < pre.length))
    {X : Array Bool} (hlow : ∀ t ∈ its, X.getD t.i false = true → loudB P S t.o = false → phN ls t.m < pre.length) {φ : Env} {a : Act} {w : World}
    (ri : RI S N its s0 φ0 h0 w0 X φ s d h pd a w) (hgo : goS D (segsL P S ls its pre.length post) = true) (hr : segR P S N cal ops s0 (segsL P S ls its pre.length post) pre.length s d h pd ck = r) (hn : r ≠ .bad) :
    ∃ D' s' h' pd' ck', CI P S ops its ls s0 h0.nx.nat pre.length D' s' h' pd' ck' (fun t => t ∈ its ∧ loudB P S t.o = false ∧ phN ls t.m ≤ pre.length) ∧ RI S N its s0 φ0 h0 w0 X φ s' d h' pd' a w ∧
      goT P S ls its D' pre.length post ∧ segT P S N cal ops s0 post.head? (restS P S ls its pre.length post) pre.length s' d h' pd' ck' = r := by
  obtain ⟨D', hq, hT⟩ := goS_cons hgo
  rw [segsL_eq, segR_cons] at hr
  cases hx : qsR P S N ops (phaseL P S ls pre.length its) s h pd ck with
  | bad => rw [hx] at hr; exact absurd hr.symm hn
  | ok s' h' pd' ck' =>
    rw [hx] at hr
    obtain ⟨g1, g2, g3, g4, g5⟩ := qs_ok pl h0.nx.nat pre.length _ _ _ _ _ _ _ _ _ _ _ _ hq hx (fun q hq => let ⟨h1, h2, _, h4⟩ := mem_phaseL.1 hq; ⟨h1, h2, h4⟩) ci
    refine ⟨D', s', h', pd', ck', g1.sub fun t => ?_, ?_, hT, hr⟩
    · constructor
      · rintro ⟨h1, h2, h3⟩
        rcases Nat.lt_or_eq_of_le h3 with h4 | h4
        · exact .inl ⟨h1, h2, h4⟩
        · exact .inr ⟨⟨t, hiN ls t.i⟩, mem_phaseL.2 ⟨h1, h2, h4, rfl⟩, rfl⟩
      · rintro (⟨h1, h2, h3⟩ | ⟨q, h1, rfl⟩)
        · exact ⟨h1, h2, Nat.le_of_lt h3⟩
        · obtain ⟨h2, h3, h4, _⟩ := mem_phaseL.1 h1
          exact ⟨h2, h3, Nat.le_of_eq h4⟩
    · have hunl : ∀ q ∈ phaseL P S ls pre.length its, X.getD q.t.i false ≠ true := by
        intro q hq hX
        obtain ⟨h2, h3, h4, _⟩ := mem_phaseL.1 hq
        have := hlow _ h2 hX h3
        omega
      refine ⟨ri.rel.nxle g2 g3, ⟨ri.fw.ext.nxle g2 g3, ri.fw.wk⟩, ri.df, ri.sz, ?_, ri.old, ?_, ?_⟩
      · intro q hq hall
        have hne : ∀ x ∈ phaseL P S ls pre.length its, x.t.o.dst ≠ some q := fun x hx hd => hunl x hx (hall _ (mem_phaseL.1 hx).1 hd)
        rw [g5 q hne] at hq ⊢
        exact ri.sl q hq hall
      · intro e he hX
        rcases g4 e he with h1 | ⟨_, q, h1, h2⟩
        · exact ri.pend e h1 hX
        · exact absurd (h2 ▸ hX) (hunl q h1)
      · intro e he hX v
        rcases g4 e he with h1 | ⟨h1, _⟩
        · exact ri.new e h1 hX v
        · cases hv : φ e.id v with
          | none => rfl
          | some i => have := (ri.rel.dom _ _ _ hv).1; omega

/-- One that is not quiet. -/
theorem loud_step (pl : Pl P S N ops its ls) {cal : Cal} (hcal : CalOk P S cal) {s0 : Sl} {φ0 : Env} {h0 : Hp} {w0 : World} (R0 : Rel S φ0 h0 w0.heap) {pre post : List It} {x : It} (hls : ls = pre ++ x :: post) {D : Nat} {s : Sl} {d : List ADef} {h : Hp} {pd : List Pd} {ck : List Ck} {r : ER}
    (ci : CI P S ops its ls s0 h0.nx.nat pre.length D s h pd ck (fun t => t ∈ its ∧ loudB P S t.o = false ∧ phN ls t.m ≤ pre.length))
    {X : Array Bool} (xi : XI P S ops its X pre (x :: post)) {φ : Env} {a : Act} {w : World} (ri : RI S N its s0 φ0 h0 w0 X φ s d h pd a w) (hgo : goT P S ls its D pre.length (x :: post))
    (hr : segT P S N cal ops s0 (some x) (segsL P S ls its (Nat.succ pre.length) post) pre.length s d h pd ck = r) (hn : r ≠ .bad)
    (hss : ∀ q : Nat, sget q s0 ≠ .bot → (∀ t ∈ its, t.o.dst ≠ some q) → ∃ cv, conc φ (sget q s0) = some cv ∧ a.tmps[q]? = some cv)
    (hrd : x.i ∈ Region.ready .any ops X) {K : Act → World → Prop} {Q : Exit → Act → World → Prop}
    (hQ : ∀ e a' w', ERok S N φ0 h0 w0 r e a' w' → Q e a' w')
    (hK : ∀ φ' s' d' h' pd' D' a' w', CI P S ops its ls s0 h0.nx.nat (pre.length + 1) D' s' h' pd' ck (fun t => t ∈ its ∧ loudB P S t.o = false ∧ phN ls t.m < pre.length + 1) →
      RI S N its s0 φ0 h0 w0 (X.setIfInBounds x.i true) φ' s' d' h' pd' a' w' → goS D' (segsL P S ls its (pre.length + 1) post) = true →
      segR P S N cal ops s0 (segsL P S ls its (pre.length + 1) post) (pre.length + 1) s' d' h' pd' ck = r → K a' w') :
    wpOp P ops Q x.i K a w := by
  have hxl : x ∈ ls := by rw [hls]; simp
  obtain ⟨ht, hlo⟩ := (pl.lmem x).1 hxl
  obtain ⟨hgB, hgS⟩ := hgo
  obtain ⟨hm, hD⟩ := goB_ok hgB
  have hun := getD_tf (mem_ready.1 hrd).1
  have hbits := ready_bits pl xi ht hrd
  have hlt : x.i < X.size := by rw [xi.sz]; exact (Array.getElem?_eq_some_iff.1 (pl.at' x ht)).1
  have hsR := sR_sl ri
  have hlook := sR_seen hbits hun xi.cl (seen_now pl ht hm hD ci.mm ci.fix (fun _ _ _ => rfl)) fun n hno => ci.fix n fun u hu hd => (hno u hu hd).elim
  have hgd := gdA_ok (ops := ops) (o := x.o) hsR
  rw [← hlook.gd] at hgd
  -- those that are laid now have been
  have hnow : ∀ e ∈ pd, Nat.beq e.hi pre.length = true → X.getD e.i false = true := by
    intro e he hb
    have hhi := Nat.eq_of_beq_eq_true hb
    obtain ⟨u, ⟨hu1, _⟩, hu2, hu3⟩ := ci.pt e he
    cases hX : X.getD e.i false with
    | true => rfl
    | false =>
      have hall := hiN_eq (i := u.i) (pre := pre) (post := x :: post) (fun y hy => by
        cases hb : bitB y.m u.i with
        | false => rfl
        | true =>
          have := xi.cl y ((pl.lmem y).1 (by rw [hls]; simp [hy])).1 (xi.pre y hy) _ hb
          rw [hu2, hX] at this
          cases this) (by rw [← hls, ← hu3, hhi]) x (by simp)
      have := hbits _ hall
      rw [hu2, hX] at this
      exact this
  have hsel : ∀ e ∈ pd, Nat.beq e.hi pre.length = true → S ≤ e.id.nat ∧ e.id.nat < h.nx.nat ∧ PendOk φ w.heap e := fun e he hb => by
    obtain ⟨h1, h2, h3, _⟩ := ci.id e he
    exact ⟨h1, h3, ri.pend e he (hnow e he hb)⟩
  have hmnx : (mergeH pre.length pd h).nx = h.nx := by rw [mergeH_eq, layL_nx]
  have Rm : Rel S φ (mergeH pre.length pd h) w.heap := by rw [mergeH_eq]; exact layL_rel pd h ri.rel hsel
  have Fm : Fw S φ0 h0 w0 φ (mergeH pre.length pd h) w := ⟨by
    rw [mergeH_eq]
    exact layL_ext ri.fw.ext pd fun e he hb => let ⟨h1, h2, _⟩ := ci.id e he; ⟨h1, h2⟩, ri.fw.wk⟩
  have hmget : ∀ e ∈ restP pre.length pd, (mergeH pre.length pd h).get e.id = .none := by
    intro e he
    obtain ⟨h1, h2⟩ := mem_restP.1 he
    rw [mergeH_eq, layL_get]
    · exact (ci.id e h1).2.2.2
    · intro e' he' hb hid
      have := ci.inj e' he' e h1 hid
      subst this
      exact h2 (Nat.eq_of_beq_eq_true hb)
  -- the next phase begins
  have next : ∀ (φ' : Env) (v : AVal) (d' : List ADef) (h' : Hp) (a1 : Act) (cv : Value) (w' : World), Rel S φ' h' w'.heap → Fw S φ (mergeH pre.length pd h) w φ' h' w' → conc φ' v = some cv → DR φ' d' a1.defers → a1.tmps = a.tmps →
      Bool.rec (motive := fun _ => ER) .bad (segR P S N cal ops s0 (segsL P S ls its (Nat.succ pre.length) post) (Nat.succ pre.length) (putT (dK N x.o) v s) d' h' (restP pre.length pd) ck) (ckB (Nat.succ pre.length) (restP pre.length pd) h' ck) = r →
      K (a1.put x.o.dst cv) w' := by
    intro φ' v d' h' a1 cv w' R' F' hv hd' ha1 hr'
    have hle := F'.ext.le
    cases hck : ckB (Nat.succ pre.length) (restP pre.length pd) h' ck with
    | false => rw [hck] at hr'; exact absurd hr'.symm hn
    | true =>
      rw [hck] at hr'
      have hnx : h.nx.nat ≤ h'.nx.nat := by have := F'.ext.nx; rw [hmnx] at this; exact this
      refine hK φ' (putT (dK N x.o) v s) d' h' (restP pre.length pd) (Nat.lor D (Nat.pow 2 x.i)) _ w' ?_ ?_ hgS hr'
      · have hDor : ∀ b, bitB D b = true → bitB (Nat.lor D (Nat.pow 2 x.i)) b = true := fun b hb => by rw [bitB_lor, hb]; rfl
        have hDi : bitB (Nat.lor D (Nat.pow 2 x.i)) x.i = true := by rw [bitB_lor, bitB_pow]; simp
        refine ⟨?_, ?_, ?_, fun t ht => ⟨ht.1, ht.2.1⟩, ?_, ?_, ?_, ?_, ?_, fun q hq => fix_put ht hDi hDor ci.fix v q hq, R'.grp, ⟨R'.nx, Nat.le_trans ci.nx.2 hnx⟩⟩
        · rintro t ⟨h1, h2, h3⟩
          have hTt : t ∈ its ∧ loudB P S t.o = false ∧ phN ls t.m ≤ pre.length := ⟨h1, h2, by omega⟩
          exact (ci.q t hTt).next (look_put pl h1 ht (ci.m t hTt) hD v s) (fun d hd => dst_put pl h1 ht (ci.i t hTt) hD v s d hd) hck
        · rintro t ⟨h1, h2, h3⟩ b hb
          rw [bitB_lor, ci.m t ⟨h1, h2, by omega⟩ b hb]
          rfl
        · rintro t ⟨h1, h2, h3⟩
          rw [bitB_lor, ci.i t ⟨h1, h2, by omega⟩]
          rfl
        · intro u hu hb b hbu
          rw [bitB_lor, bitB_pow, Bool.or_eq_true, decide_eq_true_iff] at hb
          rcases hb with hb | hb
          · exact hDor _ (ci.mm u hu hb b hbu)
          · have := pl.uniq u hu x ht hb.symm
            subst this
            exact hDor _ (hm b hbu)
        · intro e he
          have he1 := (mem_restP.1 he).1
          obtain ⟨h1, h2, h3, h4⟩ := ci.id e he1
          refine ⟨h1, h2, by omega, ?_⟩
          cases hg : h'.get e.id with
          | none => rfl
          | _ =>
            have := F'.ext.grp e.id (by rw [hg]; exact fun e => by cases e)
            rw [hmget e he, hmnx] at this
            rcases this with this | this
            · exact absurd rfl this
            · omega
        · intro e he
          obtain ⟨u, ⟨hu1, hu2, hu3⟩, hu4, hu5⟩ := ci.pt e (mem_restP.1 he).1
          exact ⟨u, ⟨hu1, hu2, by omega⟩, hu4, hu5⟩
        · exact fun e he e' he' => ci.inj e (mem_restP.1 he).1 e' (mem_restP.1 he').1
        · exact fun e he e' he' => ci.inji e (mem_restP.1 he).1 e' (mem_restP.1 he').1
      · refine ⟨R', Fm.trans R0 F', by rw [put_dfs]; exact hd', by rw [put_size, ha1]; exact ri.sz, ?_, ?_, ?_, ?_⟩
        · refine sl_put pl hle (by rw [ha1]; exact ri.sz) xi.sz (fun q hq hall => ?_) ht hv (fun d hd => putT_same hd (pl.dst x ht d hd) v s) (fun q hq => putT_ne hq v s)
          rw [ha1]
          exact ri.sl q hq hall
        · refine old_put pl hle xi.sz (fun u hu hX n hd hn => ?_) ht cv
          rw [ha1]
          exact ri.old u hu hX n hd hn
        · intro e he hX
          obtain ⟨h1, h2⟩ := mem_restP.1 he
          have hei : e.i ≠ x.i := fun e1 => by
            obtain ⟨u, hu, hu4, _⟩ := ci.pt e h1
            have := ci.i u hu
            rw [hu4, e1, hD] at this
            cases this
          have hX' := ((getD_set hlt).1 hX).resolve_left hei
          exact (ri.pend e h1 hX').ext Rm F'.ext (by rw [hmnx]; exact (ci.id e h1).2.2.1) (hmget e he)
        · intro e he hX v'
          obtain ⟨h1, h2⟩ := mem_restP.1 he
          exact F'.ext.pendNew (by rw [hmnx]; exact (ci.id e h1).2.2.1) (hmget e he) (ri.new e h1 fun h3 => hX ((getD_set hlt).2 (.inr h3))) v'
  unfold wpOp
  rw [pl.at' x ht]
  dsimp only
  have hr : W3.rec (motive := fun _ => ER)
          (SO.rec (motive := fun _ => ER) .bad
            (fun v d' h' => putS (dK N x.o) v s fun s' => Bool.rec (motive := fun _ => ER) .bad (segR P S N cal ops s0 (segsL P S ls its (Nat.succ pre.length) post) (Nat.succ pre.length) s' d' h' (restP pre.length pd) ck) (ckB (Nat.succ pre.length) (restP pre.length pd) h' ck))
            (fun ch h' => .pan ch (clrS N ops.toList s0) d h') .bad (doO cal (opK P S x.o) s d (mergeH pre.length pd h)))
          (putS (dK N x.o) undefA s fun s' => Bool.rec (motive := fun _ => ER) .bad (segR P S N cal ops s0 (segsL P S ls its (Nat.succ pre.length) post) (Nat.succ pre.length) s' d (mergeH pre.length pd h) (restP pre.length pd) ck) (ckB (Nat.succ pre.length) (restP pre.length pd) (mergeH pre.length pd h) ck))
          .bad (gdA (gK ops x.o) s) = r := hr
  cases hg : gdA (gK ops x.o) s with
  | bad => rw [hg] at hr; exact absurd hr.symm hn
  | no =>
    rw [hg] at hr
    rw [hgd.2 hg]
    simp only [Bool.false_eq_true, if_false]
    have hr : putS (dK N x.o) undefA s (fun s' => Bool.rec (motive := fun _ => ER) .bad (segR P S N cal ops s0 (segsL P S ls its (Nat.succ pre.length) post) (Nat.succ pre.length) s' d (mergeH pre.length pd h) (restP pre.length pd) ck) (ckB (Nat.succ pre.length) (restP pre.length pd) (mergeH pre.length pd h) ck)) = r := hr
    rw [putS_eq] at hr
    exact next φ undefA d _ a undef w Rm (Fw.refl _ _ _ _) (conc_undefA φ) ri.df rfl hr
  | yes =>
    rw [hg] at hr
    rw [hgd.1 hg]
    simp only [if_true]
    left
    have hr : SO.rec (motive := fun _ => ER) .bad
            (fun v d' h' => putS (dK N x.o) v s fun s' => Bool.rec (motive := fun _ => ER) .bad (segR P S N cal ops s0 (segsL P S ls its (Nat.succ pre.length) post) (Nat.succ pre.length) s' d' h' (restP pre.length pd) ck) (ckB (Nat.succ pre.length) (restP pre.length pd) h' ck))
            (fun ch h' => .pan ch (clrS N ops.toList s0) d h') .bad (doO cal (opK P S x.o) s d (mergeH pre.length pd h)) = r := hr
    rw [doO_congr (opK_ok P S x.o) hlook.agr] at hr
    refine doO_ok hcal Rm hsR ri.df ?_
    generalize doO cal (opK P S x.o) (sRof s0 its X s) d (mergeH pre.length pd h) = so at hr
    cases so with
    | bad => exact absurd hr.symm hn
    | rcv => exact absurd hr.symm hn
    | ok v d' h' =>
      have hr : putS (dK N x.o) v s (fun s' => Bool.rec (motive := fun _ => ER) .bad (segR P S N cal ops s0 (segsL P S ls its (Nat.succ pre.length) post) (Nat.succ pre.length) s' d' h' (restP pre.length pd) ck) (ckB (Nat.succ pre.length) (restP pre.length pd) h' ck)) = r := hr
      rw [putS_eq] at hr
      intro φ' w' cv ds R' F' hv hds
      exact next φ' v d' h' { a with defers := ds } cv w' R' F' hv hds rfl hr
    | pan ch h' =>
      have hr : ER.pan ch (clrS N ops.toList s0) d h' = r := hr
      intro φ' w' chain R' F' hp
      subst hr
      refine hQ _ _ _ ⟨φ', hp, ⟨R', ?_, ri.df.mono F'.ext.le, ri.sz⟩, Fm.trans R0 F'⟩
      intro q hq
      by_cases hx : ∃ t ∈ its, t.o.dst = some q
      · obtain ⟨t, h1, h2⟩ := hx
        exact absurd (clrS_in ops.toList s0 ⟨t.o, Array.mem_toList_iff.2 (Array.mem_of_getElem? (pl.at' t h1)), h2⟩ (pl.dst t h1 _ h2)) hq
      · have hne : ∀ t ∈ its, t.o.dst ≠ some q := fun t h1 h2 => hx ⟨t, h1, h2⟩
        rw [clrS_ne ops.toList s0 (fun o ho hd => by
          obtain ⟨i, hi⟩ := Array.getElem?_of_mem (Array.mem_toList_iff.1 ho)
          obtain ⟨t, h1, h2⟩ := pl.cov i o hi
          have := pl.at' t h1
          rw [h2, hi] at this
          cases this
          exact hne t h1 hd)] at hq ⊢
        obtain ⟨cv, h1, h2⟩ := hss q hq hne
        exact ⟨cv, conc_mono F'.ext.le _ _ h1, h2⟩

theorem XI.step (pl : Pl P S N ops its ls) {X : Array Bool} {pre post pre' post' : List It} (xi : XI P S ops its X pre post) {t : It} (ht : t ∈ its) (hrd : t.i ∈ Region.ready .any ops X)
    (hpre : ∀ u ∈ pre', u ∈ pre ∨ u = t) (hpost : ∀ u ∈ post', u ∈ post ∧ u.i ≠ t.i) : XI P S ops its (X.setIfInBounds t.i true) pre' post' := by
  have hlt : t.i < X.size := by rw [xi.sz]; exact (Array.getElem?_eq_some_iff.1 (pl.at' t ht)).1
  have hbits := ready_bits pl xi ht hrd
  refine ⟨by rw [Array.size_setIfInBounds]; exact xi.sz, ?_, ?_, ?_⟩
  · intro u hu hX b hb
    rcases (getD_set hlt).1 hX with h1 | h1
    · have := pl.uniq u hu t ht h1
      subst this
      exact (getD_set hlt).2 (.inr (hbits b hb))
    · exact (getD_set hlt).2 (.inr (xi.cl u hu h1 b hb))
  · intro u hu
    rcases hpre u hu with h1 | rfl
    · exact (getD_set hlt).2 (.inr (xi.pre u h1))
    · exact (getD_set hlt).2 (.inl rfl)
  · intro u hu hX
    obtain ⟨h1, h2⟩ := hpost u hu
    exact xi.post u h1 (((getD_set hlt).1 hX).resolve_left h2)

def unl : List Bool → Nat
  | [] => 0
  | true :: l => unl l
  | false :: l => unl l + 1

theorem unl_set : ∀ {l : List Bool} {i : Nat}, l[i]? = some false → unl (l.set i true) + 1 = unl l := by
  intro l
  induction l with
  | nil => intro i h; simp at h
  | cons b l ih =>
    intro i h
    cases i with
    | zero =>
      simp at h
      subst h
      rfl
    | succ i =>
      simp at h
      have := ih h
      cases b with
      | true => exact this
      | false =>
        show unl (l.set i true) + 1 + 1 = unl l + 1
        omega

theorem unl_zero : ∀ {l : List Bool}, unl l = 0 → ∀ (i : Nat) b, l[i]? = some b → b = true := by
  intro l
  induction l with
  | nil => intro _ i b h; simp at h
  | cons x l ih =>
    intro h i b hi
    cases x with
    | false => simp [unl] at h
    | true =>
      cases i with
      | zero => simp at hi; exact hi
      | succ i => simp at hi; exact ih h i b hi

theorem any_ok (pl : Pl P S N ops its ls) {cal : Cal} (hcal : CalOk P S cal) {s0 : Sl} {φ0 : Env} {h0 : Hp} {w0 : World} (R0 : Rel S φ0 h0 w0.heap) {r : ER} (hn : r ≠ .bad) :
    ∀ (fuel : Nat) (pre post : List It), ls = pre ++ post → ∀ (D : Nat) (s : Sl) (d : List ADef) (h : Hp) (pd : List Pd) (ck : List Ck),
    CI P S ops its ls s0 h0.nx.nat pre.length D s h pd ck (fun t => t ∈ its ∧ loudB P S t.o = false ∧ phN ls t.m ≤ pre.length) →
    ∀ (X : Array Bool), XI P S ops its X pre post → ∀ (φ : Env) (a : Act) (w : World), RI S N its s0 φ0 h0 w0 X φ s d h pd a w → goT P S ls its D pre.length post →
    segT P S N cal ops s0 post.head? (restS P S ls its pre.length post) pre.length s d h pd ck = r → unl X.toList ≤ fuel → wpAny P .any ops (ERok S N φ0 h0 w0 r) fuel X a w := by
  intro fuel
  induction fuel with
  | zero =>
    intro pre post hls D s d h pd ck ci X xi φ a w ri hgo hr hcnt
    have hall : ∀ i, i < ops.size → X.getD i false = true := by
      intro i hi
      have hlt : i < X.size := by rw [xi.sz]; exact hi
      have := unl_zero (Nat.le_zero.1 hcnt) i X[i] (by rw [Array.getElem?_toList]; exact Array.getElem?_eq_getElem hlt)
      simp [hlt, this]
    have hdone : Region.ready .any ops X = [] := by
      cases hrd : Region.ready .any ops X with
      | nil => rfl
      | cons i l =>
        have hm : i ∈ Region.ready .any ops X := by rw [hrd]; simp
        obtain ⟨h1, o, ho, _⟩ := mem_ready.1 hm
        exact absurd (hall i (Array.getElem?_eq_some_iff.1 ho).1) (getD_tf h1)
    refine ⟨hdone, ?_⟩
    cases post with
    | cons x post => exact absurd (hall x.i (Array.getElem?_eq_some_iff.1 (pl.at' x ((pl.lmem x).1 (by rw [hls]; simp)).1)).1) (xi.post x (by simp))
    | nil =>
      have hr : ER.nrm s d (mergeAll pd h) = r := hr
      subst hr
      have hlist : ∀ e ∈ pd, X.getD e.i false = true := fun e he => by
        obtain ⟨u, ⟨hu, _⟩, hu2, _⟩ := ci.pt e he
        rw [← hu2]
        exact hall _ (Array.getElem?_eq_some_iff.1 (pl.at' u hu)).1
      refine ⟨φ, ⟨?_, ?_, ri.df, ri.sz⟩, ⟨?_, ri.fw.wk⟩⟩
      · rw [mergeAll_eq]
        exact layL_rel pd h ri.rel fun e he _ => let ⟨h1, _, h3, _⟩ := ci.id e he; ⟨h1, h3, ri.pend e he (hlist e he)⟩
      · intro q hq
        exact ri.sl q hq fun t ht _ => hall _ (Array.getElem?_eq_some_iff.1 (pl.at' t ht)).1
      · rw [mergeAll_eq]
        exact layL_ext ri.fw.ext pd fun e he _ => let ⟨h1, h2, _⟩ := ci.id e he; ⟨h1, h2⟩
  | succ fuel ih =>
    intro pre post hls D s d h pd ck ci X xi φ a w ri hgo hr hcnt
    constructor
    · intro hdone
      have hall : ∀ n i, i ≤ n → i < ops.size → X.getD i false = true := by
        intro n
        induction n with
        | zero =>
          intro i hi hs
          have : i = 0 := by omega
          subst this
          cases hX : X.getD 0 false with
          | true => rfl
          | false =>
            have hm : 0 ∈ Region.ready .any ops X := mem_ready.2 ⟨getD_ft (by rw [xi.sz]; exact hs) (by rw [hX]; exact fun e => by cases e), ops[0], Array.getElem?_eq_getElem hs, fun e he hb => by
              obtain ⟨t, ht, hti⟩ := pl.cov 0 _ (Array.getElem?_eq_getElem hs)
              have h1 := pl.at' t ht
              rw [hti, Array.getElem?_eq_getElem hs] at h1
              rw [Option.some.inj h1] at he
              have := pl.edg t ht e he
              omega⟩
            rw [hdone] at hm
            cases hm
        | succ n ihn =>
          intro i hi hs
          rcases Nat.lt_or_eq_of_le hi with h1 | h1
          · exact ihn i (by omega) hs
          · subst h1
            cases hX : X.getD (n + 1) false with
            | true => rfl
            | false =>
              have hm : n + 1 ∈ Region.ready .any ops X := mem_ready.2 ⟨getD_ft (by rw [xi.sz]; exact hs) (by rw [hX]; exact fun e => by cases e), ops[n + 1], Array.getElem?_eq_getElem hs, fun e he hb => by
                obtain ⟨t, ht, hti⟩ := pl.cov (n + 1) _ (Array.getElem?_eq_getElem hs)
                have h1 := pl.at' t ht
                rw [hti, Array.getElem?_eq_getElem hs] at h1
                rw [Option.some.inj h1] at he
                have := pl.edg t ht e he
                exact ihn e.on (by omega) (by omega)⟩
              rw [hdone] at hm
              cases hm
      have hall : ∀ i, i < ops.size → X.getD i false = true := fun i hi => hall i i (Nat.le_refl _) hi
      cases post with
      | cons x post => exact absurd (hall x.i (Array.getElem?_eq_some_iff.1 (pl.at' x ((pl.lmem x).1 (by rw [hls]; simp)).1)).1) (xi.post x (by simp))
      | nil =>
        have hr : ER.nrm s d (mergeAll pd h) = r := hr
        subst hr
        have hlist : ∀ e ∈ pd, X.getD e.i false = true := fun e he => by
          obtain ⟨u, ⟨hu, _⟩, hu2, _⟩ := ci.pt e he
          rw [← hu2]
          exact hall _ (Array.getElem?_eq_some_iff.1 (pl.at' u hu)).1
        refine ⟨φ, ⟨?_, ?_, ri.df, ri.sz⟩, ⟨?_, ri.fw.wk⟩⟩
        · rw [mergeAll_eq]
          exact layL_rel pd h ri.rel fun e he _ => let ⟨h1, _, h3, _⟩ := ci.id e he; ⟨h1, h3, ri.pend e he (hlist e he)⟩
        · intro q hq
          exact ri.sl q hq fun t ht _ => hall _ (Array.getElem?_eq_some_iff.1 (pl.at' t ht)).1
        · rw [mergeAll_eq]
          exact layL_ext ri.fw.ext pd fun e he _ => let ⟨h1, h2, _⟩ := ci.id e he; ⟨h1, h2⟩
    · intro i hi
      obtain ⟨hun, o, ho, _⟩ := mem_ready.1 hi
      obtain ⟨t, ht, hti⟩ := pl.cov i o ho
      subst hti
      have hbits := ready_bits pl xi ht hi
      have hlt : t.i < X.size := by rw [xi.sz]; exact (Array.getElem?_eq_some_iff.1 ho).1
      have hcnt' : unl (X.setIfInBounds t.i true).toList ≤ fuel := by
        have h1 : X.toList[t.i]? = some false := by
          rw [Array.getElem?_toList, Array.getElem?_eq_getElem hlt]
          simp [hlt] at hun
          rw [hun]
        have := unl_set h1
        rw [Array.toList_setIfInBounds]
        omega
      cases hlo : loudB P S t.o with
      | false =>
        have hph : phN ls t.m ≤ pre.length := by
          rw [hls]
          refine phN_le fun u hu => ?_
          cases hb : bitB t.m u.i with
          | false => rfl
          | true => exact absurd (hbits _ hb) (xi.post u hu)
        refine quiet_step pl hls ci xi rfl ri ⟨ht, hlo, hph⟩ hi fun φ' a' w' ri' => ?_
        refine ih pre post hls D s d h pd ck ci _ (xi.step pl ht hi (fun u hu => .inl hu) fun u hu => ⟨hu, fun e => ?_⟩) φ' a' w' ri' hgo hr hcnt'
        have := pl.uniq u ((pl.lmem u).1 (by rw [hls]; simp [hu])).1 t ht e
        subst this
        rw [((pl.lmem u).1 (by rw [hls]; simp [hu])).2] at hlo
        cases hlo
      | true =>
        have htl : t ∈ ls := (pl.lmem t).2 ⟨ht, hlo⟩
        rw [hls] at htl
        have htp : t ∈ post := by
          rcases List.mem_append.1 htl with h1 | h1
          · exact absurd (xi.pre t h1) (getD_tf hun)
          · exact h1
        cases post with
        | nil => cases htp
        | cons x post =>
          have hch := pl.chain
          rw [hls] at hch
          have hnot : t ∉ post := fun h1 => by
            obtain ⟨u, h2, h3⟩ := chain_ok hch t h1
            exact xi.post u h2 (hbits _ h3)
          have htx : t = x := by
            rcases List.mem_cons.1 htp with h1 | h1
            · exact h1
            · exact absurd h1 hnot
          subst htx
          refine loud_step pl hcal R0 hls ci xi ri hgo hr hn (fun q hq hno => ?_) hi (fun _ _ _ he => he) ?_
          · have h1 := ci.fix q fun u hu hd => absurd hd (hno u hu)
            rw [← h1] at hq ⊢
            exact ri.sl q hq fun u hu hd => absurd hd (hno u hu)
          · intro φ' s' d' h' pd' D' a' w' ci' ri' hgo' hr'
            have hls' : ls = (pre ++ [t]) ++ post := by rw [hls]; simp
            have hlen : (pre ++ [t]).length = pre.length + 1 := by simp
            have hlow : ∀ u ∈ its, (X.setIfInBounds t.i true).getD u.i false = true → loudB P S u.o = false → phN ls u.m < (pre ++ [t]).length := by
              intro u hu hX hq
              rcases (getD_set hlt).1 hX with h1 | h1
              · have := pl.uniq u hu t ht h1
                subst this
                rw [hlo] at hq; cases hq
              · have : phN ls u.m ≤ pre.length := by
                  rw [hls]
                  refine phN_le fun y hy => ?_
                  cases hb : bitB u.m y.i with
                  | false => rfl
                  | true => exact absurd (xi.cl u hu h1 _ hb) (xi.post y hy)
                rw [hlen]; omega
            rw [← hlen] at ci' hgo' hr'
            obtain ⟨D2, s2, h2, pd2, ck2, ci2, ri2, hgo2, hr2⟩ := enter pl hls' ci' hlow ri' hgo' hr' hn
            refine ih (pre ++ [t]) post hls' D2 s2 d' h2 pd2 ck2 ci2 _ (xi.step pl ht hi (fun u hu => ?_) fun u hu => ⟨by simp [hu], fun e => ?_⟩) φ' a' w' ri2 hgo2 hr2 hcnt'
            · rcases List.mem_append.1 hu with h1 | h1
              · exact .inl h1
              · simp at h1; exact .inr h1
            · have := pl.uniq u ((pl.lmem u).1 (by rw [hls]; simp [hu])).1 t ht e
              subst this
              exact hnot hu

end

theorem unl_rep (n : Nat) : unl (List.replicate n false) = n := by
  induction n with
  | zero => rfl
  | succ n ih => show unl (List.replicate n false) + 1 = n + 1; rw [ih]

theorem drR_ok {P : Program} (hm : P.follows .mixedOrders = true) {S N : Nat} {cal : Cal} (hcal : CalOk P S cal) {ops : Array Oper} {s : Sl} {d : List ADef} {h : Hp} {r : ER} (hr : drR P S N cal ops s d h = r) (hn : r ≠ .bad)
    {φ : Env} {a : Act} {w : World} (id : Nat) (st : St S N φ s d h a w) : (Code.region id ops true).wp P (ERok S N φ h w r) a w := by
  unfold drR at hr
  cases hp : planO P S N ops with
  | none => rw [hp] at hr; exact absurd hr.symm hn
  | some segs =>
    rw [hp] at hr
    have hr : flush s (fun s => segR P S N cal ops s segs 0 s d h [] []) = r := hr
    rw [flush_eq] at hr
    replace st := st.fl
    revert hr st
    generalize flS s = s
    intro hr st
    obtain ⟨its, ls, pl, rfl, hgo⟩ := planO_ok hp
    refine wp_region_any hm ?_
    have hno : ∀ i : Nat, (Array.replicate ops.size false).getD i false ≠ true := fun i => by
      rw [Array.getD_eq_getD_getElem?, Array.getElem?_replicate]
      split <;> simp
    have ci : CI P S ops its ls s h.nx.nat ([] : List It).length 0 s h [] [] (fun t => t ∈ its ∧ loudB P S t.o = false ∧ phN ls t.m < ([] : List It).length) := by
      refine ⟨fun t ht => absurd ht.2.2 (Nat.not_lt_zero _), fun t ht => absurd ht.2.2 (Nat.not_lt_zero _), fun t ht => absurd ht.2.2 (Nat.not_lt_zero _), fun t ht => ⟨ht.1, ht.2.1⟩, fun u _ hb => (by rw [bitB_zero] at hb; cases hb), fun e he => (by cases he), fun e he => (by cases he), fun e he => (by cases he), fun e he => (by cases he), fun _ _ => rfl, st.rel.grp, st.rel.nx, Nat.le_refl _⟩
    have ri : RI S N its s φ h w (Array.replicate ops.size false) φ s d h [] a { w with drawn := w.drawn + 1 } :=
      ⟨st.rel, ⟨Ext.refl _ _ _ _, ⟨rfl, rfl, rfl⟩⟩, st.df, st.sz, fun q hq _ => st.sl q hq, fun u _ _ n _ hn => st.sl n hn, fun e he => (by cases he), fun e he => by cases he⟩
    obtain ⟨D', s', h', pd', ck', ci', ri', hgo', hr'⟩ := enter (post := ls) (pre := []) pl rfl ci (fun t _ hX => absurd hX (hno _)) ri hgo hr hn
    refine any_ok pl hcal st.rel hn ops.size [] ls rfl D' s' d h' pd' ck' ci' _ ⟨by simp, fun t _ hX => absurd hX (hno _), fun u hu => (by cases hu), fun u _ => hno _⟩ φ a _ ri' hgo' hr' ?_
    rw [Array.toList_replicate, unl_rep]
    exact Nat.le_refl _

end Go.Abs

/- Code, calls, deferred calls: the run. -/
namespace Go.Abs

noncomputable def bindN (r : ER) (k : Sl → List ADef → Hp → ER) : ER :=
  ER.rec (motive := fun _ => ER) .bad (fun s d h => k s d h) (fun id s d h => .ext id s d h) (fun s d h => .ret s d h) (fun ch s d h => .pan ch s d h) r

noncomputable def blkR (id : Nat) (r : ER) : ER :=
  ER.rec (motive := fun _ => ER) .bad (fun s d h => .nrm s d h) (fun id' s d h => Bool.rec (motive := fun _ => ER) (.ext id' s d h) (.nrm s d h) (Nat.beq id' id)) (fun s d h => .ret s d h) (fun ch s d h => .pan ch s d h) r

noncomputable def loopN (body : Sl → List ADef → Hp → ER) (n : Nat) : Sl → List ADef → Hp → ER :=
  Nat.rec (motive := fun _ => Sl → List ADef → Hp → ER) (fun _ _ _ => .bad) (fun _ lp s d h => bindN (body s d h) lp) n

def bW (x : AVal) : W3 :=
  match x with
  | .bool b => match b with
    | true => .yes
    | false => .no
  | _ => .bad

inductive AMode where
  | ret
  | pan (ch : List APan)

noncomputable def catP (a b : List APan) : List APan := List.rec (motive := fun _ => List APan) b (fun x _ ih => x :: ih) a

def settleA (m : AMode) : AMode :=
  match m with
  | .ret => .ret
  | .pan ch => match ch with
    | [] => .pan []
    | p :: l => match p.rcd with
      | true => .ret
      | false => .pan (p :: l)

noncomputable def raisedA (m : AMode) (ch : List APan) : AMode :=
  AMode.rec (motive := fun _ => AMode) (.pan ch) (fun old => .pan (catP ch old)) m

/-- What recover yields, and what becomes of the panic. -/
def recoverA (m : AMode) : AVal × AMode :=
  match m with
  | .ret => (.nili, .ret)
  | .pan ch => match ch with
    | [] => (.nili, .pan [])
    | p :: l => match p.rcd with
      | true => (.nili, .pan (p :: l))
      | false => (p.v, .pan (⟨p.v, true⟩ :: l))

inductive ESR where
  | bad
  | nrm (s : Sl) (d : List ADef) (m : AMode) (h : Hp)
  | ret (s : Sl) (d : List ADef) (m : AMode) (h : Hp)
  | pan (ch : List APan) (s : Sl) (d : List ADef) (m : AMode) (h : Hp)

noncomputable def seqS (P : Program) (S N : Nat) (cal : Cal) (ops : Array Oper) (l : List Oper) : Sl → List ADef → AMode → Hp → ESR :=
  List.rec (motive := fun _ => Sl → List ADef → AMode → Hp → ESR) (fun s d m h => .nrm s d m h)
    (fun o _ ih s d m h => W3.rec (motive := fun _ => ESR)
      (SO.rec (motive := fun _ => ESR) .bad (fun v d' h' => putS (dK N o) v s fun s' => ih s' d' m h') (fun ch h' => .pan ch s d m h')
        (Prod.rec (motive := fun _ => ESR) (fun v m' => putS (dK N o) v s fun s' => ih s' d m' h) (recoverA m)) (doO cal (opK P S o) s d h))
      (putS (dK N o) undefA s fun s' => ih s' d m h)
      .bad (gdA (gK ops o) s)) l

noncomputable def liftS (m : AMode) (r : ER) : ESR :=
  ER.rec (motive := fun _ => ESR) .bad (fun s d h => .nrm s d m h) (fun _ _ _ _ => .bad) (fun s d h => .ret s d m h) (fun ch s d h => .pan ch s d m h) r

noncomputable def bindS (r : ESR) (k : Sl → List ADef → AMode → Hp → ESR) : ESR :=
  ESR.rec (motive := fun _ => ESR) .bad (fun s d m h => k s d m h) (fun s d m h => .ret s d m h) (fun ch s d m h => .pan ch s d m h) r

abbrev Ev := Nat → Code → Sl → List ADef → Hp → ER

noncomputable def evS (P : Program) (S N : Nat) (cal : Cal) (ih : Ev) (c : Code) : Sl → List ADef → AMode → Hp → ESR :=
  Code.rec (motive := fun _ => Sl → List ADef → AMode → Hp → ESR)
    (fun s d m h => .nrm s d m h)
    (fun id ops draw s d m h => Bool.rec (motive := fun _ => ESR) (flush s fun s => seqS P S N cal ops ops.toList s d m h) (liftS m (ih N (.region id ops true) s d h)) draw)
    (fun _ _ ia ib s d m h => bindS (ia s d m h) ib)
    (fun c _ _ ia ib s d m h => W3.rec (motive := fun _ => ESR) (ia s d m h) (ib s d m h) .bad (bW (opd (cOpd S c) s)))
    (fun id body _ s d m h => liftS m (ih N (.block id body) s d h))
    (fun body _ s d m h => liftS m (ih N (.loop body) s d h))
    (fun f ps as body _ _ s d m h => liftS m (ih N (.rangeFunc f ps as body) s d h))
    (fun id s d m h => liftS m (ih N (.exit id) s d h))
    (fun body _ s d m h => liftS m (ih N (.scope body) s d h))
    (fun l s d m h => liftS m (ih N (.label l) s d h))
    (fun l s d m h => liftS m (ih N (.goto l) s d h))
    (fun s d m h => .ret s d m h)
    (fun why s d m h => liftS m (ih N (.refuse why) s d h)) c

noncomputable def argS (i : Nat) (l : List AVal) : Sl → Sl :=
  List.rec (motive := fun _ => Nat → Sl → Sl) (fun _ s => s) (fun x _ ih i s => ih (Nat.succ i) (sset i x s)) l i

/- Which slots are kept beyond their region: those that are read where they were not written. -/
noncomputable def natQ (n : Nat) (k : Nat → Nat) : Nat := Nat.rec (motive := fun _ => Nat) (k 0) (fun m _ => k (Nat.succ m)) n

noncomputable def wrO (o : Option Tmp) (acc : Nat) : Nat := Option.rec (motive := fun _ => Nat) acc (fun t => Nat.lor acc (Nat.pow 2 t)) o
noncomputable def wrM (l : List Oper) (acc : Nat) : Nat := List.rec (motive := fun _ => Nat → Nat) (fun acc => acc) (fun o _ ih acc => ih (wrO o.dst acc)) l acc

noncomputable def rdT (t w acc : Nat) : Nat := Bool.rec (motive := fun _ => Nat) (Nat.lor acc (Nat.pow 2 t)) acc (bitB w t)
noncomputable def rdO (x : Operand) (w acc : Nat) : Nat := Operand.rec (motive := fun _ => Nat) (fun t => rdT t w acc) (fun _ => acc) (fun _ => acc) (fun _ => acc) x
noncomputable def rdX (xs : List Operand) (w acc : Nat) : Nat := List.rec (motive := fun _ => Nat → Nat) (fun acc => acc) (fun x _ ih acc => ih (rdO x w acc)) xs acc

noncomputable def nthO (l : List Oper) (j : Nat) : Option Oper :=
  List.rec (motive := fun _ => Nat → Option Oper) (fun _ => none) (fun o _ ih j => Nat.rec (motive := fun _ => Option Oper) (some o) (fun j _ => ih j) j) l j

noncomputable def rdG (l : List Oper) (o : Oper) (w acc : Nat) : Nat :=
  Option.rec (motive := fun _ => Nat) acc (fun g => Option.rec (motive := fun _ => Nat) acc (fun u => Option.rec (motive := fun _ => Nat) acc (fun t => rdT t w acc) u.dst) (nthO l g.1)) o.guard

/-- What a region reads that it did not write before. -/
noncomputable def rdM (all l : List Oper) (w acc : Nat) : Nat :=
  List.rec (motive := fun _ => Nat → Nat → Nat) (fun _ acc => acc) (fun o _ ih w acc => natQ (rdG all o w (rdX o.op.operands.toList w acc)) fun acc => natQ (wrO o.dst w) fun w => ih w acc) l w acc

noncomputable def expC (c : Code) : Nat → Nat → (Nat → Nat → Nat) → Nat :=
  Code.rec (motive := fun _ => Nat → Nat → (Nat → Nat → Nat) → Nat)
    (fun x y k => k x y)
    (fun _ ops draw x _ k => Bool.rec (motive := fun _ => Nat) (natQ (rdM ops.toList ops.toList 0 x) fun x => natQ (wrM ops.toList 0) fun y => k x y) (natQ (rdM ops.toList ops.toList 0 (wrM ops.toList x)) fun x => k x 0) draw)
    (fun _ _ a b x y k => a x y fun x y => b x y k)
    (fun c _ _ a b x y k => natQ (rdO c y x) fun x => a x y fun x _ => b x y fun x _ => k x 0)
    (fun _ _ a x y k => a x y fun x _ => k x 0)
    (fun _ a x _ k => a x 0 fun x _ => k x 0)
    (fun _ _ _ _ _ _ x y k => k x y)
    (fun _ x y k => k x y)
    (fun _ _ x y k => k x y)
    (fun _ x y k => k x y)
    (fun _ x y k => k x y)
    (fun x y k => k x y)
    (fun _ x y k => k x y) c

noncomputable def resM (l : List ResultVar) (acc : Nat) : Nat :=
  List.rec (motive := fun _ => Nat → Nat) (fun acc => acc) (fun r _ ih acc => ih (ResultVar.rec (motive := fun _ => Nat) (fun t => Nat.lor acc (Nat.pow 2 t)) (fun a _ => Nat.lor acc (Nat.pow 2 a)) r)) l acc

noncomputable def expM (fn : Func) : Nat :=
  Option.rec (motive := fun _ => Nat) 0 (fun c => expC c (resM fn.results.toList (Nat.sub (Nat.pow 2 fn.params.size) 1)) 0 fun x _ => x) fn.body

/- Results. -/
noncomputable def resL (P : Program) (s : Sl) (h : Hp) (l : List ResultVar) : Option (List AVal) :=
  match l with
  | [] => some []
  | r :: l => match r with
    | .tmp t => match isBot (sget t s), resL P s h l with
      | false, some r => some (sget t s :: r)
      | _, _ => none
    | .cell a t => match tyI P t with
      | some I => match isBot (ldA I h (sget a s)), resL P s h l with
        | false, some r => some (ldA I h (sget a s) :: r)
        | _, _ => none
      | none => none

def resV (o : Option (List AVal)) (h : Hp) : CR :=
  match o with
  | none => .bad
  | some l => match l with
    | [] => .ret (.tuple []) h
    | x :: r => match r with
      | [] => .ret x h
      | y :: r => .ret (.tuple (x :: y :: r)) h

noncomputable def resC (P : Program) (fn : Func) (s : Sl) (h : Hp) : CR := resV (resL P s h fn.results.toList) h

inductive DRr where
  | bad
  | ret (m : AMode) (h : Hp)
  | pan (ch : List APan) (m : AMode) (h : Hp)

def isNilD (d : List ADef) : Bool :=
  match d with
  | [] => true
  | _ => false

noncomputable def callD (P : Program) (S : Nat) (cal : Cal) (ih : Ev) (f : FuncId) (args : List AVal) (m : AMode) (h : Hp) : DRr :=
  match P.funcs[f]? with
  | none => .bad
  | some fn => match fn.name == "runtime.NumGoroutine" with
    | true => .bad
    | false => match fn.body with
      | none => .bad
      | some c => match Nat.ble args.length fn.ntmps with
        | false => .bad
        | true => ESR.rec (motive := fun _ => DRr) .bad
          (fun s d m' h' => Bool.rec (motive := fun _ => DRr) .bad (CR.rec (motive := fun _ => DRr) .bad (fun _ _ => .ret m' h') (fun _ _ => .bad) (resC P fn s h')) (isNilD d))
          (fun s d m' h' => Bool.rec (motive := fun _ => DRr) .bad (CR.rec (motive := fun _ => DRr) .bad (fun _ _ => .ret m' h') (fun _ _ => .bad) (resC P fn s h')) (isNilD d))
          (fun ch _ d m' h' => Bool.rec (motive := fun _ => DRr) .bad (.pan ch m' h') (isNilD d))
          (evS P S fn.ntmps cal ih c (argS 0 args (sNil (expM fn))) [] m h)

noncomputable def dfF (fn : Fn) : Option FuncId :=
  match fn with
  | .func f => some f
  | _ => none

noncomputable def lvR (P : Program) (S : Nat) (cal : Cal) (ih : Ev) (fn : Func) (s : Sl) (ds : List ADef) : AMode → Hp → CR :=
  List.rec (motive := fun _ => AMode → Hp → CR)
    (fun m h => AMode.rec (motive := fun _ => CR) (resC P fn s h) (fun ch => .pan ch h) m)
    (fun e _ lv m h => Option.rec (motive := fun _ => CR) .bad (fun f => DRr.rec (motive := fun _ => CR) .bad (fun m' h' => lv (settleA m') h') (fun ch m' h' => lv (raisedA m' ch) h')
      (callD P S cal ih f (cat e.args e.cap) m h)) (dfF e.fn)) ds

noncomputable def finR (P : Program) (S : Nat) (cal : Cal) (ih : Ev) (fn : Func) (r : ER) : CR :=
  ER.rec (motive := fun _ => CR) .bad (fun s d h => lvR P S cal ih fn s d .ret h) (fun _ _ _ _ => .bad) (fun s d h => lvR P S cal ih fn s d .ret h) (fun ch s d h => lvR P S cal ih fn s d (.pan ch) h) r

/-- A call, by a run of code one level below. -/
noncomputable def callF (P : Program) (S : Nat) (cal : Cal) (ih : Ev) (f : FuncId) (args : List AVal) (h : Hp) : CR :=
  match P.funcs[f]? with
  | none => .bad
  | some fn => match fn.body with
    | none => .bad
    | some c => match Nat.ble args.length fn.ntmps with
      | false => .bad
      | true => finR P S cal ih fn (ih fn.ntmps c (argS 0 args (sNil (expM fn))) [] h)

noncomputable def F (P : Program) (S n : Nat) (cal : Cal) (ih : Ev) (N : Nat) (c : Code) : Sl → List ADef → Hp → ER :=
  Code.rec (motive := fun _ => Sl → List ADef → Hp → ER)
    (fun s d h => .nrm s d h)
    (fun _ ops draw s d h => Bool.rec (motive := fun _ => ER) (regR P S N cal ops s d h) (drR P S N cal ops s d h) draw)
    (fun a b _ _ s d h => bindN (ih N a s d h) (fun s d h => ih N b s d h))
    (fun c a b _ _ s d h => W3.rec (motive := fun _ => ER) (ih N a s d h) (ih N b s d h) .bad (bW (opd (cOpd S c) s)))
    (fun id body _ s d h => blkR id (ih N body s d h))
    (fun body _ s d h => loopN (fun s d h => ih N body s d h) n s d h)
    (fun _ _ _ _ _ _ _ _ _ => .bad)
    (fun id s d h => .ext id s d h)
    (fun _ _ _ _ _ => .bad)
    (fun _ s d h => .nrm s d h)
    (fun _ _ _ _ => .bad)
    (fun s d h => .ret s d h)
    (fun _ _ _ _ => .bad) c

structure EvC where
  ev : Ev
  cal : Cal

/-- The run: code and calls, with so much depth. -/
noncomputable def evc (P : Program) (S : Nat) (n : Nat) : EvC :=
  Nat.rec (motive := fun _ => EvC) ⟨fun _ _ _ _ _ => .bad, fun _ _ _ => .bad⟩ (fun n ih => ⟨F P S n ih.cal ih.ev, callF P S ih.cal ih.ev⟩) n

end Go.Abs

/- Code, calls, deferred calls: what the run tells is what the program does. -/
namespace Go.Abs

def EvOk (P : Program) (S : Nat) (ev : Ev) : Prop :=
  ∀ N c s d h r, ev N c s d h = r → r ≠ .bad → ∀ φ a w, St S N φ s d h a w → c.wp P (ERok S N φ h w r) a w

def DrOk (P : Program) (S : Nat) : Prop :=
  ∀ cal, CalOk P S cal → ∀ N ops s d h r, drR P S N cal ops s d h = r → r ≠ .bad → ∀ φ a w id, St S N φ s d h a w → (Code.region id ops true).wp P (ERok S N φ h w r) a w

theorem bindN_ok {P : Program} {S N : Nat} {c : Code} {φ : Env} {h : Hp} {a : Act} {w : World} {r1 r : ER} {k : Sl → List ADef → Hp → ER} (R : Rel S φ h w.heap)
    {K : Act → World → Prop} (h1 : r1 ≠ .bad → c.wp P (ERok S N φ h w r1) a w) (hr : bindN r1 k = r) (hn : r ≠ .bad)
    (hk : ∀ s1 d1 h1, k s1 d1 h1 = r → ∀ φ1 a1 w1, St S N φ1 s1 d1 h1 a1 w1 → Fw S φ h w φ1 h1 w1 → K a1 w1) :
    c.wp P (Exit.then K (ERok S N φ h w r)) a w := by
  cases r1 with
  | bad => exact absurd hr.symm hn
  | nrm s1 d1 h1' =>
    refine wp_mono (h1 (fun e => by cases e)) fun e a1 w1 he => ?_
    cases e <;> first | exact he.elim | skip
    obtain ⟨φ1, st1, F1⟩ := he
    exact hk _ _ _ hr φ1 a1 w1 st1 F1
  | ext id s1 d1 h1' =>
    have hr : ER.ext id s1 d1 h1' = r := hr
    subst hr
    refine wp_mono (h1 hn) fun e a1 w1 he => ?_
    cases e <;> first | exact he.elim | exact he
  | ret s1 d1 h1' =>
    have hr : ER.ret s1 d1 h1' = r := hr
    subst hr
    refine wp_mono (h1 hn) fun e a1 w1 he => ?_
    cases e <;> first | exact he.elim | exact he
  | pan ch s1 d1 h1' =>
    have hr : ER.pan ch s1 d1 h1' = r := hr
    subst hr
    refine wp_mono (h1 hn) fun e a1 w1 he => ?_
    cases e <;> first | exact he.elim | exact he

theorem loopN_ok {P : Program} {S N : Nat} {c : Code} {body : Sl → List ADef → Hp → ER}
    (hbody : ∀ s d h r, body s d h = r → r ≠ .bad → ∀ φ a w, St S N φ s d h a w → c.wp P (ERok S N φ h w r) a w) :
    ∀ (n : Nat) s d h r, loopN body n s d h = r → r ≠ .bad → ∀ φ a w, St S N φ s d h a w → ∀ (b : Frame) (k : List Item) (cs : List Frame),
      ∃ e a' w', ERok S N φ h w r e a' w' ∧ Arrives P (lone (b.at a (.code c :: .inLoop c :: k)) cs w) b k cs e a' w' := by
  intro n
  induction n with
  | zero => intro s d h r hr hn; exact absurd hr.symm hn
  | succ n ih =>
    intro s d h r hr hn φ a w st b k cs
    have hr : bindN (body s d h) (loopN body n) = r := hr
    have := bindN_ok (N := N) (c := c) (P := P) (φ := φ) (a := a) (w := w) (K := fun a1 w1 => ∀ (b : Frame) (k : List Item) (cs : List Frame),
      ∃ e a' w', ERok S N φ h w r e a' w' ∧ Arrives P (lone (b.at a1 (.code c :: .inLoop c :: k)) cs w1) b k cs e a' w') st.rel
      (fun hb => hbody s d h _ rfl hb φ a w st) hr hn (fun s1 d1 h1 hr1 φ1 a1 w1 st1 F1 b k cs => by
        obtain ⟨e, a', w', h2, h3⟩ := ih s1 d1 h1 r hr1 hn φ1 a1 w1 st1 b k cs
        exact ⟨e, a', w', ERok.trans st.rel F1 h2, h3⟩)
    obtain ⟨e, a₁, w₁, hq, harr⟩ := this b (.inLoop c :: k) cs
    cases e with
    | normal =>
      obtain ⟨e₂, a₂, w₂, hq₂, harr₂⟩ := hq b k cs
      exact ⟨e₂, a₂, w₂, hq₂, .of_steps (Steps.trans harr (.one step_inLoop)) harr₂⟩
    | exit id => exact ⟨_, a₁, w₁, hq, .pass (x := .inLoop c) rfl (fun _ _ => .inl (by simp)) harr⟩
    | goto l => exact ⟨_, a₁, w₁, hq, .pass (x := .inLoop c) rfl (fun _ _ => .inl (by simp)) harr⟩
    | ret => exact ⟨_, a₁, w₁, hq, .pass (x := .inLoop c) rfl (fun _ _ => .inl (by simp)) harr⟩
    | panic ch => exact ⟨_, a₁, w₁, hq, .pass (x := .inLoop c) rfl (fun _ _ => .inl (by simp)) harr⟩
    | outgrown => exact ⟨_, a₁, w₁, hq, .pass (x := .inLoop c) rfl (fun _ _ => .inl (by simp)) harr⟩

theorem bW_ok {φ : Env} {x : AVal} {cv : Value} (h : x ≠ .bot → conc φ x = some cv) : (bW x = .yes → cv = .bool true) ∧ (bW x = .no → cv = .bool false) := by
  unfold bW
  constructor <;> intro hh <;> split at hh <;> first | (split at hh <;> first | (cases hh; done) | skip) | (cases hh; done)
  all_goals
    have := h (fun e => by cases e)
    simp only [conc, Option.some.injEq] at this
    exact this.symm

theorem F_ok {P : Program} {S : Nat} (hdr : DrOk P S) {n : Nat} {cal : Cal} {ih : Ev} (hcal : CalOk P S cal) (hev : EvOk P S ih) : EvOk P S (F P S n cal ih) := by
  intro N c s d h r hr hn φ a w st
  cases c with
  | skip =>
    have hr : ER.nrm s d h = r := hr
    subst hr
    exact wp_skip ⟨φ, st, Fw.refl _ _ _ _⟩
  | region id ops draw =>
    cases draw with
    | false =>
      have hr : flush s (fun s => seqR P S N cal ops ops.toList s d h) = r := hr
      rw [flush_eq] at hr
      refine wp_region ?_
      have := seqR_ok hcal (ops := ops) 0 ops.toList rfl (flS s) d h r hr hn φ a w _ (fun _ _ _ he => he) st.fl
      simpa using this
    | true =>
      have hr : drR P S N cal ops s d h = r := hr
      exact hdr cal hcal N ops s d h r hr hn φ a w id st
  | seq x y =>
    have hr : bindN (ih N x s d h) (fun s d h => ih N y s d h) = r := hr
    refine wp_seq (bindN_ok st.rel (fun hb => hev N x s d h _ rfl hb φ a w st) hr hn fun s1 d1 h1 hr1 φ1 a1 w1 st1 F1 => ?_)
    exact wp_mono (hev N y s1 d1 h1 r hr1 hn φ1 a1 w1 st1) fun e a' w' he => ERok.trans st.rel F1 he
  | cond c x y =>
    have hr : W3.rec (motive := fun _ => ER) (ih N x s d h) (ih N y s d h) .bad (bW (opd (cOpd S c) s)) = r := hr
    have hb := bW_ok (fun hx => opd_ok (o := c) st.rel st.sl hx)
    cases hbw : bW (opd (cOpd S c) s) with
    | yes =>
      rw [hbw] at hr
      exact wp_cond (hb.1 hbw) (hev N x s d h r hr hn φ a w st)
    | no =>
      rw [hbw] at hr
      exact wp_cond (hb.2 hbw) (hev N y s d h r hr hn φ a w st)
    | bad => rw [hbw] at hr; exact absurd hr.symm hn
  | block id body =>
    have hr : blkR id (ih N body s d h) = r := hr
    refine wp_block ?_
    have h1 := hev N body s d h _ rfl
    generalize ih N body s d h = r1 at hr h1
    cases r1 with
    | bad => exact absurd hr.symm hn
    | nrm s1 d1 h1' =>
      have hr : ER.nrm s1 d1 h1' = r := hr
      subst hr
      refine wp_mono (h1 (fun e => by cases e) φ a w st) fun e a1 w1 he => ?_
      cases e <;> first | exact he.elim | exact he
    | ext id' s1 d1 h1' =>
      have hr : Bool.rec (motive := fun _ => ER) (.ext id' s1 d1 h1') (.nrm s1 d1 h1') (Nat.beq id' id) = r := hr
      refine wp_mono (h1 (fun e => by cases e) φ a w st) fun e a1 w1 he => ?_
      cases e <;> first | exact he.elim | skip
      rename_i id2
      obtain ⟨hid, he⟩ := he
      subst hid
      cases hb : Nat.beq id2 id with
      | true =>
        rw [hb] at hr
        subst hr
        show if id2 = id then _ else _
        rw [if_pos (Nat.eq_of_beq_eq_true hb)]
        exact he
      | false =>
        rw [hb] at hr
        subst hr
        show if id2 = id then _ else _
        rw [if_neg (Nat.ne_of_beq_eq_false hb)]
        exact ⟨rfl, he⟩
    | ret s1 d1 h1' =>
      have hr : ER.ret s1 d1 h1' = r := hr
      subst hr
      refine wp_mono (h1 (fun e => by cases e) φ a w st) fun e a1 w1 he => ?_
      cases e <;> first | exact he.elim | exact he
    | pan ch s1 d1 h1' =>
      have hr : ER.pan ch s1 d1 h1' = r := hr
      subst hr
      refine wp_mono (h1 (fun e => by cases e) φ a w st) fun e a1 w1 he => ?_
      cases e <;> first | exact he.elim | exact he
  | loop body =>
    have hr : loopN (fun s d h => ih N body s d h) n s d h = r := hr
    intro b k cs
    obtain ⟨e, a', w', h1, h2⟩ := loopN_ok (P := P) (S := S) (N := N) (c := body) (fun s d h r hr hn φ a w st => hev N body s d h r hr hn φ a w st) n s d h r hr hn φ a w st b k cs
    exact ⟨e, a', w', h1, .of_steps (.one step_loop) h2⟩
  | rangeFunc f ps as body => exact absurd hr.symm hn
  | exit id =>
    have hr : ER.ext id s d h = r := hr
    subst hr
    exact wp_exit ⟨rfl, φ, st, Fw.refl _ _ _ _⟩
  | scope body => exact absurd hr.symm hn
  | label l =>
    have hr : ER.nrm s d h = r := hr
    subst hr
    exact wp_label ⟨φ, st, Fw.refl _ _ _ _⟩
  | goto l => exact absurd hr.symm hn
  | ret =>
    have hr : ER.ret s d h = r := hr
    subst hr
    exact wp_ret ⟨φ, st, Fw.refl _ _ _ _⟩
  | refuse why => exact absurd hr.symm hn

/- Results. -/
def resF (tmps : Array Value) : ResultVar → Sem Value
  | .tmp t => pure (tmps.getD t undef)
  | .cell a t => do loadVar t (← asAddr (tmps.getD a undef))

theorem results_eq (fn : Func) (tmps : Array Value) : results fn tmps = (do let vs ← fn.results.mapM (resF tmps); pure (if h : vs.size = 1 then vs[0] else .tuple vs)) := by
  unfold results
  congr 2

theorem resL_ok {P : Program} {S : Nat} {φ : Env} {h : Hp} {w : World} {s : Sl} {tmps : Array Value} (R : Rel S φ h w.heap) (hs : SR φ s tmps) : ∀ (l : List ResultVar) (r : List AVal), resL P s h l = some r →
    ∃ vs, concs φ r = some vs ∧ (l.mapM (resF tmps)).run P w = .ok vs w := by
  intro l
  have hget : ∀ t, sget t s ≠ .bot → conc φ (sget t s) = some (tmps.getD t undef) := fun t ht => by
    obtain ⟨cv, h1, h2⟩ := hs t ht
    rw [h1]
    simp [Array.getD_eq_getD_getElem?, h2]
  induction l with
  | nil => intro r hr; cases hr; exact ⟨[], by simp [concs], rfl⟩
  | cons x l ih =>
    intro r hr
    unfold resL at hr
    cases x with
    | tmp t =>
      dsimp only at hr
      split at hr
      · rename_i r1 hb hr1
        cases hr
        obtain ⟨vs, h1, h2⟩ := ih _ hr1
        refine ⟨tmps.getD t undef :: vs, concs_cons.2 ⟨_, _, hget t (isBot_false hb), h1, rfl⟩, ?_⟩
        rw [List.mapM_cons, Sem.run_bind]
        have h6 : (resF tmps (.tmp t)).run P w = .ok (tmps.getD t undef) w := rfl
        rw [h6]
        simp only [Result.andThen_ok, Sem.run_bind, h2, Sem.run_pure]
      · cases hr
    | cell ad t =>
      dsimp only at hr
      split at hr
      · rename_i I hI
        split at hr
        · rename_i r1 hb hr1
          cases hr
          obtain ⟨vs, h1, h2⟩ := ih _ hr1
          have hb' := isBot_false hb
          have hnb : sget ad s ≠ .bot := fun e => by rw [e] at hb'; exact hb' rfl
          obtain ⟨cv, adr, h3, h4, h5⟩ := loadVar_ok R hI (hget ad hnb) hb'
          refine ⟨cv :: vs, concs_cons.2 ⟨_, _, h3, h1, rfl⟩, ?_⟩
          rw [List.mapM_cons, Sem.run_bind]
          have h6 : (resF tmps (.cell ad t)).run P w = .ok cv w := by
            unfold resF
            rw [Sem.run_bind, h4]
            simp only [asAddr, Sem.run_pure, Result.andThen_ok, h5]
          rw [h6]
          simp only [Result.andThen_ok, Sem.run_bind, h2, Sem.run_pure]
        · cases hr
      · cases hr

theorem resC_ok {P : Program} {S : Nat} {φ : Env} {h : Hp} {w : World} {s : Sl} {fn : Func} {tmps : Array Value} (R : Rel S φ h w.heap) (hs : SR φ s tmps) {r : CR} (hr : resC P fn s h = r) (hn : r ≠ .bad) :
    ∃ v cv, r = .ret v h ∧ conc φ v = some cv ∧ (results fn tmps).run P w = .ok cv w := by
  unfold resC resV at hr
  split at hr
  · exact absurd hr.symm hn
  · rename_i l hl
    obtain ⟨vs, h1, h2⟩ := resL_ok R hs _ _ hl
    have h3 : (results fn tmps).run P w = .ok (if h : vs.toArray.size = 1 then vs.toArray[0] else .tuple vs.toArray) w := by
      rw [results_eq, Sem.run_bind, Array.mapM_eq_mapM_toList, ← bind_pure_comp, Sem.run_bind, h2]
      simp only [Result.andThen_ok, Sem.run_pure]
    split at hr
    · subst hr
      simp only [concs, Option.some.injEq] at h1
      subst h1
      exact ⟨_, _, rfl, by simp [conc, concs], h3⟩
    · split at hr
      · subst hr
        obtain ⟨v, vs', h4, h5, rfl⟩ := concs_cons.1 h1
        simp only [concs, Option.some.injEq] at h5
        subst h5
        exact ⟨_, _, rfl, h4, h3⟩
      · subst hr
        refine ⟨_, _, rfl, ?_, h3⟩
        have hl := concs_length h1
        simp only [List.length_cons] at hl
        rw [dif_neg (by simp; omega)]
        simp [conc, h1]

/- How a call is left. -/
def MR (φ : Env) : AMode → FrameMode → Prop
  | .ret, .returning => True
  | .pan ch, .panicking chain => PR φ ch chain
  | _, _ => False

theorem MR.mono {φ φ' : Env} (hle : φ.le φ') {m : AMode} {u : FrameMode} (h : MR φ m u) : MR φ' m u := by
  cases m <;> cases u <;> first | exact h | exact PR.mono hle h

theorem MR.ne {φ : Env} {m : AMode} {u : FrameMode} (h : MR φ m u) : u ≠ .run := fun e => by subst e; cases m <;> exact h

theorem PR.drop {φ : Env} : ∀ {l : List APan} {ds : List PanicEntry}, PR φ l ds → ds.dropWhile (!·.goexit) = [] := by
  intro l
  induction l with
  | nil => intro ds h; cases h; rfl
  | cons p l ih =>
    rintro ds ⟨c, rest, rfl, _, h⟩
    simp [List.dropWhile, ih h]

theorem settle_ok {φ : Env} {m : AMode} {u : FrameMode} (h : MR φ m u) : MR φ (settleA m) (settle u) := by
  cases m with
  | ret => cases u <;> first | exact h.elim | trivial
  | pan ch =>
    cases u with
    | run => exact h.elim
    | returning => exact h.elim
    | panicking chain =>
      cases ch with
      | nil => cases h; exact rfl
      | cons p l =>
        obtain ⟨c, rest, rfl, h1, h2⟩ := h
        obtain ⟨v, rcd⟩ := p
        cases rcd with
        | true =>
          show MR φ .ret (settle _)
          have : settle (.panicking ({ v := c, recovered := true } :: rest)) = .returning := by
            unfold settle
            dsimp only
            rw [PR.drop h2]
          rw [this]
          trivial
        | false => exact ⟨c, rest, rfl, h1, h2⟩

theorem PR.app {φ : Env} {b : List APan} {db : List PanicEntry} (hb : PR φ b db) : ∀ {l : List APan} {ds : List PanicEntry}, PR φ l ds → PR φ (catP l b) (ds ++ db) := by
  intro l
  induction l with
  | nil => intro ds h; cases h; exact hb
  | cons p l ih =>
    rintro ds ⟨c, rest, rfl, h1, h⟩
    exact ⟨c, rest ++ db, rfl, h1, ih h⟩

theorem raised_ok {φ : Env} {m : AMode} {u : FrameMode} {ch : List APan} {chain : List PanicEntry} (h : MR φ m u) (hc : PR φ ch chain) : MR φ (raisedA m ch) (raised u chain) := by
  cases m with
  | ret => cases u <;> first | exact h.elim | exact hc
  | pan old => cases u <;> first | exact h.elim | exact PR.app h hc

theorem recover_ok {φ : Env} {m : AMode} {u : FrameMode} (h : MR φ m u) (c₀ : Frame) (cs : List Frame) :
    ∃ cv u', conc φ (recoverA m).1 = some cv ∧ MR φ (recoverA m).2 u' ∧
      (recoverD ({ c₀ with mode := u } :: cs) = some (cv, { c₀ with mode := u' } :: cs) ∨ (recoverD ({ c₀ with mode := u } :: cs) = none ∧ cv = .nilIface ∧ u' = u)) := by
  cases m with
  | ret =>
    cases u with
    | returning => exact ⟨.nilIface, .returning, by simp [recoverA, conc], trivial, .inr ⟨rfl, rfl, rfl⟩⟩
    | run => exact h.elim
    | panicking _ => exact h.elim
  | pan ch =>
    cases u with
    | run => exact h.elim
    | returning => exact h.elim
    | panicking chain =>
      cases ch with
      | nil =>
        cases h
        exact ⟨.nilIface, .panicking [], by simp [recoverA, conc], rfl, .inr ⟨rfl, rfl, rfl⟩⟩
      | cons p l =>
        obtain ⟨c, rest, rfl, h1, h2⟩ := h
        obtain ⟨v, rcd⟩ := p
        cases rcd with
        | true => exact ⟨.nilIface, .panicking ({ v := c, recovered := true } :: rest), by simp [recoverA, conc], ⟨c, rest, rfl, h1, h2⟩, .inr ⟨rfl, rfl, rfl⟩⟩
        | false => exact ⟨c, .panicking ({ v := c, recovered := true } :: rest), h1, ⟨c, rest, rfl, h1, h2⟩, .inl rfl⟩

/- Code in a deferred call. -/
def ESok (S N : Nat) (φ : Env) (h : Hp) (w : World) (c₀ : Frame) (cs₀ : List Frame) (r : ESR) (e : Exit) (a' : Act) (cs' : List Frame) (w' : World) : Prop :=
  match r, e with
  | .nrm s d m h', .normal => ∃ φ' u', cs' = { c₀ with mode := u' } :: cs₀ ∧ MR φ' m u' ∧ St S N φ' s d h' a' w' ∧ Fw S φ h w φ' h' w'
  | .ret s d m h', .ret => ∃ φ' u', cs' = { c₀ with mode := u' } :: cs₀ ∧ MR φ' m u' ∧ St S N φ' s d h' a' w' ∧ Fw S φ h w φ' h' w'
  | .pan ch s d m h', .panic chain => ∃ φ' u', PR φ' ch chain ∧ cs' = { c₀ with mode := u' } :: cs₀ ∧ MR φ' m u' ∧ St S N φ' s d h' a' w' ∧ Fw S φ h w φ' h' w'
  | _, _ => False

theorem ESok.trans {S N : Nat} {φ φ1 : Env} {h h1 : Hp} {w w1 : World} {c₀ : Frame} {cs₀ : List Frame} (R : Rel S φ h w.heap) (F : Fw S φ h w φ1 h1 w1) {r : ESR} {e : Exit} {a' : Act} {cs' : List Frame} {w' : World}
    (H : ESok S N φ1 h1 w1 c₀ cs₀ r e a' cs' w') : ESok S N φ h w c₀ cs₀ r e a' cs' w' := by
  cases r <;> cases e <;> first
    | exact H.elim
    | (obtain ⟨φ', u', h0, h2, h3, h4⟩ := H; exact ⟨φ', u', h0, h2, h3, F.trans R h4⟩)
    | (obtain ⟨φ', u', h0, h2, h3, h4, h5⟩ := H; exact ⟨φ', u', h0, h2, h3, h4, F.trans R h5⟩)

theorem doO_rcv {P : Program} {S : Nat} {cal : Cal} {o : Oper} {φ : Env} {s : Sl} {d : List ADef} {h : Hp} {a : Act} {w : World} (R : Rel S φ h w.heap) (hs : SR φ s a.tmps)
    (hp : doO cal (opK P S o) s d h = .rcv) : (execOp a.eval o).run P w = .ok .recover w := by
  have hok := opK_ok P S o
  generalize opK P S o = k at hok hp
  cases k with
  | bad => cases hp
  | q mem f =>
    have hp : Bool.rec (motive := fun _ => SO) (.ok (f s h) d h) .bad (isBot (f s h)) = .rcv := hp
    cases hb : isBot (f s h) <;> rw [hb] at hp <;> cases hp
  | n f =>
    have hp : NR.rec (motive := fun _ => SO) .bad (fun grp k => .ok (mkA k h.nx) d (h.add grp)) (f s) = .rcv := hp
    cases hf : f s <;> rw [hf] at hp <;> cases hp
  | l f =>
    have hp : LR.rec (motive := fun _ => SO) .bad (fun x h' => .ok x d h') (fun h' => .ok undefA d h')
      (fun g as => CR.rec (motive := fun _ => SO) .bad (fun v h' => .ok v d h') (fun ch h' => .pan ch h') (cal g as h))
      (fun x => .pan [⟨x, false⟩] h) (fun fn cap as => .ok undefA (⟨fn, cap, as⟩ :: d) h) .rcv (f s h) = .rcv := hp
    have hl := hok.1 φ s h a w R hs
    generalize f s h = r at hp hl
    cases r with
    | rcv => exact hl
    | call g as =>
      have hp : CR.rec (motive := fun _ => SO) .bad (fun v h' => .ok v d h') (fun ch h' => .pan ch h') (cal g as h) = .rcv := hp
      cases hc : cal g as h <;> rw [hc] at hp <;> cases hp
    | _ => cases hp

theorem put_defers (a : Act) (dst : Option Tmp) (v : Value) : (a.put dst v).defers = a.defers := by unfold Act.put; split <;> rfl

theorem seqS_ok {P : Program} {S N : Nat} {cal : Cal} (hcal : CalOk P S cal) {ops : Array Oper} (c₀ : Frame) (cs₀ : List Frame) : ∀ (k : Nat) (l : List Oper), ops.toList.drop k = l → ∀ s d m h r, seqS P S N cal ops l s d m h = r → r ≠ .bad →
    ∀ (φ : Env) (a : Act) (w : World) (u : FrameMode) (Q : Exit → Act → List Frame → World → Prop), (∀ e a' cs' w', ESok S N φ h w c₀ cs₀ r e a' cs' w' → Q e a' cs' w') → St S N φ s d h a w → MR φ m u →
      wpOpsS P ops Q ((List.range ops.size).drop k) a ({ c₀ with mode := u } :: cs₀) w := by
  intro k l
  induction l generalizing k with
  | nil =>
    intro hk s d m h r hr hn φ a w u Q hQ st hm
    have hge : ops.size ≤ k := by
      have := List.drop_eq_nil_iff.1 hk
      simpa using this
    rw [List.drop_eq_nil_of_le (by simpa using hge)]
    cases hr
    exact hQ _ _ _ _ ⟨φ, u, rfl, hm, st, Fw.refl _ _ _ _⟩
  | cons o l ih =>
    intro hk s d m h r hr hn φ a w u Q hQ st hm
    have hlt : k < ops.size := by
      have : k < ops.toList.length := by
        refine Nat.lt_of_not_le fun hge => ?_
        rw [List.drop_eq_nil_of_le hge] at hk
        cases hk
      simpa using this
    have ho : ops[k]? = some o := by
      rw [← Array.getElem?_toList, ← List.head?_drop, hk]
      rfl
    have hk' : ops.toList.drop (k + 1) = l := by
      rw [← List.tail_drop, hk]
      rfl
    have hdr : (List.range ops.size).drop k = k :: (List.range ops.size).drop (k + 1) := by
      rw [List.drop_eq_getElem_cons (by simpa using hlt)]
      simp
    rw [hdr]
    simp only [wpOpsS, ho]
    have hr : W3.rec (motive := fun _ => ESR)
      (SO.rec (motive := fun _ => ESR) .bad (fun v d' h' => putS (dK N o) v s fun s' => seqS P S N cal ops l s' d' m h') (fun ch h' => .pan ch s d m h')
        (Prod.rec (motive := fun _ => ESR) (fun v m' => putS (dK N o) v s fun s' => seqS P S N cal ops l s' d m' h) (recoverA m)) (doO cal (opK P S o) s d h))
      (putS (dK N o) undefA s fun s' => seqS P S N cal ops l s' d m h)
      .bad (gdA (gK ops o) s) = r := hr
    have hgd := gdA_ok (ops := ops) (o := o) st.sl
    cases hg : gdA (gK ops o) s with
    | bad => rw [hg] at hr; exact absurd hr.symm hn
    | no =>
      rw [hg] at hr
      rw [hgd.2 hg]
      simp only [Bool.false_eq_true, if_false]
      have hr : putS (dK N o) undefA s (fun s' => seqS P S N cal ops l s' d m h) = r := hr
      rw [putS_eq] at hr
      obtain ⟨h1, h2⟩ := putT_ok (o := o) st.sl st.sz (conc_undefA φ)
      exact ih (k + 1) hk' _ _ _ _ _ hr hn φ _ w u Q hQ ⟨st.rel, h1, by rw [put_defers]; exact st.df, h2⟩ hm
    | yes =>
      rw [hg] at hr
      rw [hgd.1 hg]
      simp only [if_true]
      have hr : SO.rec (motive := fun _ => ESR) .bad (fun v d' h' => putS (dK N o) v s fun s' => seqS P S N cal ops l s' d' m h') (fun ch h' => .pan ch s d m h')
        (Prod.rec (motive := fun _ => ESR) (fun v m' => putS (dK N o) v s fun s' => seqS P S N cal ops l s' d m' h) (recoverA m)) (doO cal (opK P S o) s d h) = r := hr
      have hrcv := doO_rcv (cal := cal) (P := P) (d := d) (o := o) st.rel st.sl
      have hok := doO_ok (P := P) hcal (o := o) (d := d) (next := fun a' w' => wpOpsS P ops Q ((List.range ops.size).drop (k + 1)) a' ({ c₀ with mode := u } :: cs₀) w')
        (Q := fun e a' w' => Q e a' ({ c₀ with mode := u } :: cs₀) w') st.rel st.sl st.df
      generalize doO cal (opK P S o) s d h = so at hr hrcv hok
      have hnext : (∀ v, so ≠ v ∨ v ≠ .rcv) → SOpost S φ h w a o.dst (fun a' w' => wpOpsS P ops Q ((List.range ops.size).drop (k + 1)) a' ({ c₀ with mode := u } :: cs₀) w') (fun e a' w' => Q e a' ({ c₀ with mode := u } :: cs₀) w') so := by
        intro hne
        cases so with
        | bad => exact absurd hr.symm hn
        | rcv => rcases hne .rcv with h | h <;> exact absurd rfl h
        | pan ch h' =>
          have hr : ESR.pan ch s d m h' = r := hr
          intro φ' w' chain R' F' hp
          subst hr
          exact hQ _ _ _ _ ⟨φ', u, hp, rfl, hm.mono F'.ext.le, ⟨R', st.sl.mono F'.ext.le, st.df.mono F'.ext.le, st.sz⟩, F'⟩
        | ok v d' h' =>
          have hr : putS (dK N o) v s (fun s' => seqS P S N cal ops l s' d' m h') = r := hr
          rw [putS_eq] at hr
          intro φ' w' cv ds R' F' hv hds
          obtain ⟨h1, h2⟩ := putT_ok (o := o) (a := { a with defers := ds }) (st.sl.mono F'.ext.le) st.sz hv
          exact ih (k + 1) hk' _ _ _ _ _ hr hn φ' _ w' u Q (fun e a' cs' w'' he => hQ _ _ _ _ (ESok.trans st.rel F' he)) ⟨R', h1, by rw [put_defers]; exact hds, h2⟩ (hm.mono F'.ext.le)
      by_cases hso : so = .rcv
      · rw [hrcv hso]
        subst hso
        obtain ⟨cv, u', h1, h2, h3⟩ := recover_ok hm c₀ cs₀
        have hr : Prod.rec (motive := fun _ => ESR) (fun v m' => putS (dK N o) v s fun s' => seqS P S N cal ops l s' d m' h) (recoverA m) = r := hr
        generalize recoverA m = vm at hr h1 h2
        obtain ⟨v, m'⟩ := vm
        have hr : putS (dK N o) v s (fun s' => seqS P S N cal ops l s' d m' h) = r := hr
        rw [putS_eq] at hr
        obtain ⟨h4, h5⟩ := putT_ok (o := o) st.sl st.sz h1
        have := ih (k + 1) hk' _ _ _ _ _ hr hn φ (a.put o.dst cv) w u' Q hQ ⟨st.rel, h4, by rw [put_defers]; exact st.df, h5⟩ h2
        rcases h3 with h3 | ⟨h3, rfl, rfl⟩
        · dsimp only; rw [h3]; exact this
        · dsimp only; rw [h3]; exact this
      · have hwp := hok (hnext fun v => by
          by_cases hv : v = .rcv
          · subst hv; exact .inl hso
          · exact .inr hv)
        unfold Oper.wp at hwp
        split
        · rename_i w' hrun
          rw [hrun] at hwp
          exact hwp.elim
        · exact hwp

theorem liftS_ok {P : Program} {S N : Nat} {c : Code} {φ : Env} {h : Hp} {a : Act} {w : World} {m : AMode} {u : FrameMode} {c₀ : Frame} {cs₀ : List Frame} {r1 : ER} {r : ESR} (hm : MR φ m u)
    (h1 : r1 ≠ .bad → c.wp P (ERok S N φ h w r1) a w) (hr : liftS m r1 = r) (hn : r ≠ .bad) : c.wpS P (ESok S N φ h w c₀ cs₀ r) a ({ c₀ with mode := u } :: cs₀) w := by
  have hle : ∀ {s d h' a' w'} {φ' : Env}, St S N φ' s d h' a' w' → Fw S φ h w φ' h' w' → MR φ' m u := fun _ F => hm.mono F.ext.le
  cases r1 with
  | bad => exact absurd hr.symm hn
  | ext id s1 d1 h1' => exact absurd hr.symm hn
  | nrm s1 d1 h1' =>
    have hr : ESR.nrm s1 d1 m h1' = r := hr
    subst hr
    refine wpS_of_wp (wp_mono (h1 (fun e => by cases e)) fun e a1 w1 he => ?_)
    cases e <;> first | exact he.elim | skip
    obtain ⟨φ1, st1, F1⟩ := he
    exact ⟨φ1, u, rfl, hle st1 F1, st1, F1⟩
  | ret s1 d1 h1' =>
    have hr : ESR.ret s1 d1 m h1' = r := hr
    subst hr
    refine wpS_of_wp (wp_mono (h1 (fun e => by cases e)) fun e a1 w1 he => ?_)
    cases e <;> first | exact he.elim | skip
    obtain ⟨φ1, st1, F1⟩ := he
    exact ⟨φ1, u, rfl, hle st1 F1, st1, F1⟩
  | pan ch s1 d1 h1' =>
    have hr : ESR.pan ch s1 d1 m h1' = r := hr
    subst hr
    refine wpS_of_wp (wp_mono (h1 (fun e => by cases e)) fun e a1 w1 he => ?_)
    cases e <;> first | exact he.elim | skip
    obtain ⟨φ1, hp, st1, F1⟩ := he
    exact ⟨φ1, u, hp, rfl, hle st1 F1, st1, F1⟩

theorem wpS_mono {P : Program} {c : Code} {Q Q' : Exit → Act → List Frame → World → Prop} {a : Act} {cs : List Frame} {w : World} (h : c.wpS P Q a cs w) (hq : ∀ e a cs w, Q e a cs w → Q' e a cs w) : c.wpS P Q' a cs w :=
  fun b k hb hr => let ⟨e, a', cs', w', q, r⟩ := h b k hb hr; ⟨e, a', cs', w', hq _ _ _ _ q, r⟩

theorem evS_ok {P : Program} {S N : Nat} {cal : Cal} {ih : Ev} (hcal : CalOk P S cal) (hev : EvOk P S ih) (c₀ : Frame) (cs₀ : List Frame) : ∀ (c : Code) s d m h r, evS P S N cal ih c s d m h = r → r ≠ .bad →
    ∀ φ a w u, St S N φ s d h a w → MR φ m u → c.wpS P (ESok S N φ h w c₀ cs₀ r) a ({ c₀ with mode := u } :: cs₀) w := by
  intro c
  induction c with
  | skip =>
    intro s d m h r hr hn φ a w u st hm
    have hr : ESR.nrm s d m h = r := hr
    subst hr
    exact wpS_of_wp (wp_skip ⟨φ, u, rfl, hm, st, Fw.refl _ _ _ _⟩)
  | region id ops draw =>
    intro s d m h r hr hn φ a w u st hm
    cases draw with
    | false =>
      have hr : flush s (fun s => seqS P S N cal ops ops.toList s d m h) = r := hr
      rw [flush_eq] at hr
      refine wpS_region ?_
      have := seqS_ok hcal (ops := ops) c₀ cs₀ 0 ops.toList rfl (flS s) d m h r hr hn φ a w u _ (fun _ _ _ _ he => he) st.fl hm
      simpa using this
    | true =>
      have hr : liftS m (ih N (.region id ops true) s d h) = r := hr
      exact liftS_ok hm (fun hb => hev N _ s d h _ rfl hb φ a w st) hr hn
  | seq x y ihx ihy =>
    intro s d m h r hr hn φ a w u st hm
    have hr : bindS (evS P S N cal ih x s d m h) (evS P S N cal ih y) = r := hr
    refine wpS_seq ?_
    have h1 := ihx s d m h _ rfl
    generalize evS P S N cal ih x s d m h = r1 at hr h1
    cases r1 with
    | bad => exact absurd hr.symm hn
    | nrm s1 d1 m1 h1' =>
      refine wpS_mono (h1 (fun e => by cases e) φ a w u st hm) fun e a1 cs1 w1 he => ?_
      cases e <;> first | exact he.elim | skip
      obtain ⟨φ1, u1, rfl, hm1, st1, F1⟩ := he
      exact wpS_mono (ihy s1 d1 m1 h1' r hr hn φ1 a1 w1 u1 st1 hm1) fun e a' cs' w' he => ESok.trans st.rel F1 he
    | ret s1 d1 m1 h1' =>
      have hr : ESR.ret s1 d1 m1 h1' = r := hr
      subst hr
      refine wpS_mono (h1 (fun e => by cases e) φ a w u st hm) fun e a1 cs1 w1 he => ?_
      cases e <;> first | exact he.elim | exact he
    | pan ch s1 d1 m1 h1' =>
      have hr : ESR.pan ch s1 d1 m1 h1' = r := hr
      subst hr
      refine wpS_mono (h1 (fun e => by cases e) φ a w u st hm) fun e a1 cs1 w1 he => ?_
      cases e <;> first | exact he.elim | exact he
  | cond c x y ihx ihy =>
    intro s d m h r hr hn φ a w u st hm
    have hr : W3.rec (motive := fun _ => ESR) (evS P S N cal ih x s d m h) (evS P S N cal ih y s d m h) .bad (bW (opd (cOpd S c) s)) = r := hr
    have hb := bW_ok (fun hx => opd_ok (o := c) st.rel st.sl hx)
    cases hbw : bW (opd (cOpd S c) s) with
    | yes =>
      rw [hbw] at hr
      exact wpS_cond (hb.1 hbw) (ihx s d m h r hr hn φ a w u st hm)
    | no =>
      rw [hbw] at hr
      exact wpS_cond (hb.2 hbw) (ihy s d m h r hr hn φ a w u st hm)
    | bad => rw [hbw] at hr; exact absurd hr.symm hn
  | block id body _ => intro s d m h r hr hn φ a w u st hm; exact liftS_ok hm (fun hb => hev N _ s d h _ rfl hb φ a w st) hr hn
  | loop body _ => intro s d m h r hr hn φ a w u st hm; exact liftS_ok hm (fun hb => hev N _ s d h _ rfl hb φ a w st) hr hn
  | rangeFunc f ps as body _ => intro s d m h r hr hn φ a w u st hm; exact liftS_ok hm (fun hb => hev N _ s d h _ rfl hb φ a w st) hr hn
  | exit id => intro s d m h r hr hn φ a w u st hm; exact liftS_ok hm (fun hb => hev N _ s d h _ rfl hb φ a w st) hr hn
  | scope body _ => intro s d m h r hr hn φ a w u st hm; exact liftS_ok hm (fun hb => hev N _ s d h _ rfl hb φ a w st) hr hn
  | label l => intro s d m h r hr hn φ a w u st hm; exact liftS_ok hm (fun hb => hev N _ s d h _ rfl hb φ a w st) hr hn
  | goto l => intro s d m h r hr hn φ a w u st hm; exact liftS_ok hm (fun hb => hev N _ s d h _ rfl hb φ a w st) hr hn
  | ret =>
    intro s d m h r hr hn φ a w u st hm
    have hr : ESR.ret s d m h = r := hr
    subst hr
    exact wpS_of_wp (wp_ret ⟨φ, u, rfl, hm, st, Fw.refl _ _ _ _⟩)
  | refuse why => intro s d m h r hr hn φ a w u st hm; exact liftS_ok hm (fun hb => hev N _ s d h _ rfl hb φ a w st) hr hn

/- Calls. -/
theorem argS_get : ∀ (l : List AVal) (i : Nat) (s : Sl) (p : Nat), sget p (argS i l s) = if i ≤ p ∧ p < i + l.length then getB l[p - i]? else sget p s := by
  intro l
  induction l with
  | nil => intro i s p; rw [if_neg (by simp)]; rfl
  | cons x l ih =>
    intro i s p
    show sget p (argS (i + 1) l (sset i x s)) = _
    rw [ih]
    by_cases h1 : i + 1 ≤ p ∧ p < i + 1 + l.length
    · rw [if_pos h1, if_pos (by simp only [List.length_cons]; omega), show p - i = (p - (i + 1)) + 1 from by omega, List.getElem?_cons_succ]
    · rw [if_neg h1]
      by_cases h2 : p = i
      · subst h2
        rw [sget_same, if_pos (by simp only [List.length_cons]; omega), Nat.sub_self]
        rfl
      · rw [sget_ne h2, if_neg (by simp only [List.length_cons]; omega)]

theorem argS_ok {φ : Env} {args : List AVal} {cargs : List Value} (ha : concs φ args = some cargs) (n x : Nat) : SR φ (argS 0 args (sNil x)) (cargs.toArray ++ Array.replicate n undef) := by
  intro p hp
  rw [argS_get] at hp ⊢
  split at hp
  · rename_i h1
    rw [if_pos h1] at *
    have hlt : p < args.length := by omega
    rw [Nat.sub_zero, List.getElem?_eq_getElem hlt] at hp ⊢
    obtain ⟨v, h2, h3⟩ := concs_get ha p _ (List.getElem?_eq_getElem hlt)
    refine ⟨v, h3, ?_⟩
    rw [Array.getElem?_append_left (by simp [concs_length ha, hlt])]
    simpa using h2
  · rw [sget_nil] at hp; exact absurd rfl hp

theorem st_start {S : Nat} {φ : Env} {h : Hp} {w : World} (R : Rel S φ h w.heap) {args : List AVal} {cargs : List Value} (ha : concs φ args = some cargs) {n : Nat} (hn : args.length ≤ n) (x : Nat) :
    St S n φ (argS 0 args (sNil x)) [] h { tmps := cargs.toArray ++ Array.replicate (n - cargs.toArray.size) undef, defers := [] } w :=
  ⟨R, argS_ok ha _ _, rfl, by simp [concs_length ha]; omega⟩

def DCok (S : Nat) (φ : Env) (h : Hp) (w : World) (r : DRr) (e : Ending) (u' : FrameMode) (w' : World) : Prop :=
  match r, e with
  | .ret m h', .returned _ => ∃ φ', MR φ' m u' ∧ Rel S φ' h' w'.heap ∧ Fw S φ h w φ' h' w'
  | .pan ch m h', .panicked chain => ∃ φ', PR φ' ch chain ∧ MR φ' m u' ∧ Rel S φ' h' w'.heap ∧ Fw S φ h w φ' h' w'
  | _, _ => False

theorem isNilD_ok {φ : Env} {d : List ADef} {ds : List Deferred} (h : isNilD d = true) (hd : DR φ d ds) : ds = [] := by
  cases d with
  | nil => exact hd
  | cons _ _ => cases h

theorem callD_ok {P : Program} {S : Nat} {cal : Cal} {ih : Ev} (hcal : CalOk P S cal) (hev : EvOk P S ih) {f : FuncId} {args : List AVal} {cargs : List Value} {m : AMode} {h : Hp} {r : DRr}
    (hr : callD P S cal ih f args m h = r) (hn : r ≠ .bad) {φ : Env} {w : World} {u : FrameMode} (R : Rel S φ h w.heap) (ha : concs φ args = some cargs) (hm : MR φ m u) :
    CallsD P f cargs.toArray u w (DCok S φ h w r) := by
  unfold callD at hr
  split at hr
  · exact absurd hr.symm hn
  · rename_i fn hf
    split at hr
    · exact absurd hr.symm hn
    · split at hr
      · exact absurd hr.symm hn
      · rename_i c hb
        split at hr
        · exact absurd hr.symm hn
        · rename_i hlen
          refine callsD_of_wpS hf hb fun c₀ cs hu => ?_
          have hc0 : c₀ = { c₀ with mode := u } := by subst hu; rfl
          rw [hc0]
          have h1 := evS_ok (N := fn.ntmps) hcal hev c₀ cs c (argS 0 args (sNil (expM fn))) [] m h _ rfl
          generalize evS P S fn.ntmps cal ih c (argS 0 args (sNil (expM fn))) [] m h = r1 at hr h1
          have fin : ∀ {s d m' h' φ' a' w'} {u' : FrameMode} (v : Value → Exit), St S fn.ntmps φ' s d h' a' w' → MR φ' m' u' → Fw S φ h w φ' h' w' →
              Bool.rec (motive := fun _ => DRr) .bad (CR.rec (motive := fun _ => DRr) .bad (fun _ _ => .ret m' h') (fun _ _ => .bad) (resC P fn s h')) (isNilD d) = r →
              a'.defers = [] ∧ ∃ u'', ({ c₀ with mode := u' } : Frame) :: cs = { c₀ with mode := u'' } :: cs ∧ ∃ v, (results fn a'.tmps).run P w' = .ok v w' ∧ DCok S φ h w r (.returned v) u'' w' := by
            intro s d m' h' φ' a' w' u' _ st' hm' F' hr
            cases hd : isNilD d with
            | false => rw [hd] at hr; exact absurd hr.symm hn
            | true =>
              rw [hd] at hr
              refine ⟨isNilD_ok hd st'.df, u', rfl, ?_⟩
              have hr : CR.rec (motive := fun _ => DRr) .bad (fun _ _ => .ret m' h') (fun _ _ => .bad) (resC P fn s h') = r := hr
              have hres := resC_ok (fn := fn) (P := P) st'.rel st'.sl rfl
              cases hx : resC P fn s h' with
              | bad => rw [hx] at hr; exact absurd hr.symm hn
              | pan _ _ => rw [hx] at hr; exact absurd hr.symm hn
              | ret v hv =>
                rw [hx] at hr hres
                obtain ⟨v', cv, h3, h4, h5⟩ := hres (fun e => by cases e)
                have hr : DRr.ret m' h' = r := hr
                subst hr
                exact ⟨cv, h5, φ', hm', st'.rel, F'⟩
          cases r1 with
          | bad => exact absurd hr.symm hn
          | nrm s d m' h' =>
            refine wpS_mono (h1 (fun e => by cases e) φ _ w u (st_start R ha (Nat.le_of_ble_eq_true hlen) _) hm) fun e a' cs' w' he => ?_
            cases e <;> first | exact he.elim | skip
            obtain ⟨φ', u', rfl, hm', st', F'⟩ := he
            exact fin (fun _ => .normal) st' hm' F' hr
          | ret s d m' h' =>
            refine wpS_mono (h1 (fun e => by cases e) φ _ w u (st_start R ha (Nat.le_of_ble_eq_true hlen) _) hm) fun e a' cs' w' he => ?_
            cases e <;> first | exact he.elim | skip
            obtain ⟨φ', u', rfl, hm', st', F'⟩ := he
            exact fin (fun _ => .normal) st' hm' F' hr
          | pan ch s d m' h' =>
            refine wpS_mono (h1 (fun e => by cases e) φ _ w u (st_start R ha (Nat.le_of_ble_eq_true hlen) _) hm) fun e a' cs' w' he => ?_
            cases e <;> first | exact he.elim | skip
            obtain ⟨φ', u', hp, rfl, hm', st', F'⟩ := he
            have hr : Bool.rec (motive := fun _ => DRr) .bad (.pan ch m' h') (isNilD d) = r := hr
            cases hd : isNilD d with
            | false => rw [hd] at hr; exact absurd hr.symm hn
            | true =>
              rw [hd] at hr
              have hr : DRr.pan ch m' h' = r := hr
              subst hr
              exact ⟨isNilD_ok hd st'.df, u', rfl, φ', hp, hm', st'.rel, F'⟩

theorem CRok.trans {S : Nat} {φ φ1 : Env} {h h1 : Hp} {w w1 : World} (R : Rel S φ h w.heap) (F : Fw S φ h w φ1 h1 w1) {r : CR} {e : Ending} {w' : World} (H : CRok S φ1 h1 w1 r e w') : CRok S φ h w r e w' := by
  cases r <;> cases e <;> first
    | exact H.elim
    | (obtain ⟨φ', h2, h3, h4⟩ := H; exact ⟨φ', h2, h3, F.trans R h4⟩)

theorem Leaves.mono {P : Program} {fn : Func} {tmps : Array Value} {R R' : Ending → World → Prop} (h : ∀ e w, R e w → R' e w) : ∀ (ds : List Deferred) (u : FrameMode) (w : World), Leaves P fn tmps R ds u w → Leaves P fn tmps R' ds u w := by
  intro ds
  induction ds with
  | nil =>
    intro u w hl
    cases u with
    | run => exact hl.elim
    | returning => obtain ⟨v, h1, h2⟩ := hl; exact ⟨v, h1, h _ _ h2⟩
    | panicking chain => exact h _ _ hl
  | cons d ds ih =>
    intro u w hl
    obtain ⟨h1, fv, cap, f, args, h2, h3, h4⟩ := hl
    refine ⟨h1, fv, cap, f, args, h2, h3, h4.mono fun e u' w' he => ?_⟩
    cases e with
    | returned _ => exact ih _ _ he
    | panicked _ => exact ih _ _ he
    | outgrown => exact h _ _ he

theorem lvR_ok {P : Program} {S : Nat} {cal : Cal} {ih : Ev} (hcal : CalOk P S cal) (hev : EvOk P S ih) {fn : Func} {s : Sl} : ∀ (ds : List ADef) (m : AMode) (h : Hp) (r : CR), lvR P S cal ih fn s ds m h = r → r ≠ .bad →
    ∀ (φ : Env) (tmps : Array Value) (cds : List Deferred) (u : FrameMode) (w : World), SR φ s tmps → Rel S φ h w.heap → DR φ ds cds → MR φ m u → Leaves P fn tmps (CRok S φ h w r) cds u w := by
  intro ds
  induction ds with
  | nil =>
    intro m h r hr hn φ tmps cds u w hs R hd hm
    cases hd
    cases m with
    | ret =>
      cases u <;> first | exact hm.elim | skip
      obtain ⟨v, cv, h1, h2, h3⟩ := resC_ok R hs hr hn
      subst h1
      exact ⟨cv, h3, φ, h2, R, Fw.refl _ _ _ _⟩
    | pan ch =>
      cases u <;> first | exact hm.elim | skip
      have hr : CR.pan ch h = r := hr
      subst hr
      exact ⟨φ, hm, R, Fw.refl _ _ _ _⟩
  | cons e ds ihd =>
    intro m h r hr hn φ tmps cds u w hs R hd hm
    obtain ⟨c, as, rest, rfl, h1, h2, h3⟩ := hd
    have hr : Option.rec (motive := fun _ => CR) .bad (fun f => DRr.rec (motive := fun _ => CR) .bad (fun m' h' => lvR P S cal ih fn s ds (settleA m') h') (fun ch m' h' => lvR P S cal ih fn s ds (raisedA m' ch) h')
      (callD P S cal ih f (cat e.args e.cap) m h)) (dfF e.fn) = r := hr
    cases hf : dfF e.fn with
    | none => rw [hf] at hr; exact absurd hr.symm hn
    | some f =>
      rw [hf] at hr
      have hfn : e.fn = .func f := by
        unfold dfF at hf
        split at hf
        · cases hf; assumption
        · cases hf
      have hr : DRr.rec (motive := fun _ => CR) .bad (fun m' h' => lvR P S cal ih fn s ds (settleA m') h') (fun ch m' h' => lvR P S cal ih fn s ds (raisedA m' ch) h')
        (callD P S cal ih f (cat e.args e.cap) m h) = r := hr
      have hcd := callD_ok hcal hev (f := f) (args := cat e.args e.cap) (cargs := as ++ c) (m := m) (h := h) rfl
      have hbody : ∃ fn' c', P.funcs[f]? = some fn' ∧ fn'.body = some c' ∧ (fn'.name == "runtime.NumGoroutine") = false := by
        have hnb : callD P S cal ih f (cat e.args e.cap) m h ≠ .bad := fun hb => by rw [hb] at hr; exact hn hr.symm
        unfold callD at hnb
        split at hnb
        · exact absurd rfl hnb
        · rename_i fn' hf'
          split at hnb
          · exact absurd rfl hnb
          · rename_i hname
            split at hnb
            · exact absurd rfl hnb
            · rename_i c' hb'
              exact ⟨fn', c', hf', hb', hname⟩
      obtain ⟨fn', c', hf', hb', hname⟩ := hbody
      rw [hfn]
      have hinv : (invoke (.fn (.func f) c.toArray) as.toArray).run P w = .ok (.enter f (as ++ c).toArray) w := by
        have h1 : fn'.name ≠ "runtime.NumGoroutine" := by simpa using hname
        simp [invoke, callFunc, hf', h1, hb']
      refine leaves_cons hm.ne hinv ?_
      generalize callD P S cal ih f (cat e.args e.cap) m h = r1 at hr hcd
      cases r1 with
      | bad => exact absurd hr.symm hn
      | ret m' h' =>
        refine (hcd (fun e => by cases e) R (concs_cat h2 h1) hm).mono fun e u' w' he => ?_
        cases e <;> first | exact he.elim | skip
        obtain ⟨φ', hm', R', F'⟩ := he
        exact Leaves.mono (fun _ _ h => CRok.trans R F' h) _ _ _ (ihd _ _ _ hr hn φ' tmps rest _ w' (hs.mono F'.ext.le) R' (h3.mono F'.ext.le) (settle_ok hm'))
      | pan ch m' h' =>
        refine (hcd (fun e => by cases e) R (concs_cat h2 h1) hm).mono fun e u' w' he => ?_
        cases e <;> first | exact he.elim | skip
        obtain ⟨φ', hp, hm', R', F'⟩ := he
        exact Leaves.mono (fun _ _ h => CRok.trans R F' h) _ _ _ (ihd _ _ _ hr hn φ' tmps rest _ w' (hs.mono F'.ext.le) R' (h3.mono F'.ext.le) (raised_ok hm' hp))

theorem callF_ok {P : Program} {S : Nat} {cal : Cal} {ih : Ev} (hcal : CalOk P S cal) (hev : EvOk P S ih) : CalOk P S (callF P S cal ih) := by
  intro f args h r hr hn φ w cargs R ha
  unfold callF at hr
  split at hr
  · exact absurd hr.symm hn
  · rename_i fn hf
    split at hr
    · exact absurd hr.symm hn
    · rename_i c hb
      split at hr
      · exact absurd hr.symm hn
      · rename_i hlen
        refine calls_of_wp_defers hf hb ?_
        have h1 := hev fn.ntmps c (argS 0 args (sNil (expM fn))) [] h _ rfl
        generalize ih fn.ntmps c (argS 0 args (sNil (expM fn))) [] h = r1 at hr h1
        have hst := st_start R ha (Nat.le_of_ble_eq_true hlen) (expM fn)
        cases r1 with
        | bad => exact absurd hr.symm hn
        | ext _ _ _ _ => exact absurd hr.symm hn
        | nrm s d h' =>
          have hr : lvR P S cal ih fn s d .ret h' = r := hr
          refine wp_mono (h1 (fun e => by cases e) φ _ w hst) fun e a' w' he => ?_
          cases e <;> first | exact he.elim | skip
          obtain ⟨φ', st', F'⟩ := he
          exact Leaves.mono (fun _ _ h => CRok.trans R F' h) _ _ _ (lvR_ok hcal hev _ _ _ _ hr hn φ' _ _ _ w' st'.sl st'.rel st'.df trivial)
        | ret s d h' =>
          have hr : lvR P S cal ih fn s d .ret h' = r := hr
          refine wp_mono (h1 (fun e => by cases e) φ _ w hst) fun e a' w' he => ?_
          cases e <;> first | exact he.elim | skip
          obtain ⟨φ', st', F'⟩ := he
          exact Leaves.mono (fun _ _ h => CRok.trans R F' h) _ _ _ (lvR_ok hcal hev _ _ _ _ hr hn φ' _ _ _ w' st'.sl st'.rel st'.df trivial)
        | pan ch s d h' =>
          have hr : lvR P S cal ih fn s d (.pan ch) h' = r := hr
          refine wp_mono (h1 (fun e => by cases e) φ _ w hst) fun e a' w' he => ?_
          cases e <;> first | exact he.elim | skip
          obtain ⟨φ', hp, st', F'⟩ := he
          exact Leaves.mono (fun _ _ h => CRok.trans R F' h) _ _ _ (lvR_ok hcal hev _ _ _ _ hr hn φ' _ _ _ w' st'.sl st'.rel st'.df hp)

theorem evc_ok {P : Program} {S : Nat} (hdr : DrOk P S) : ∀ n, EvOk P S (evc P S n).ev ∧ CalOk P S (evc P S n).cal := by
  intro n
  induction n with
  | zero => exact ⟨fun _ _ _ _ _ _ hr hn => absurd hr.symm hn, fun _ _ _ _ hr hn => absurd hr.symm hn⟩
  | succ n ih =>
    exact ⟨F_ok hdr ih.2 ih.1, callF_ok ih.2 ih.1⟩

end Go.Abs

/- The run tells what the program does: the whole. -/
namespace Go.Abs

theorem evc_sound {P : Program} (hm : P.follows .mixedOrders = true) (S n : Nat) : CalOk P S (evc P S n).cal :=
  (evc_ok (fun _ hcal _ _ _ _ _ _ hr hn _ _ _ id st => drR_ok hm hcal hr hn id st) n).2

end Go.Abs
