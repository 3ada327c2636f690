/- A verified run of the program over an abstract memory, part 3 of 5: what the run tells is what every run of the program does. No condition. -/
import Derived.Test.YtdoafpliifhbaaaGreatDoorE2
import Derived.Laws.Externs
import Derived.Laws.IdiomStrings

/- Operations that the program finds made: reading and writing one cell at once. -/
namespace Go.Abs

/- One store, of any kind. -/
theorem st1_ok {P : Program} {S : Nat} {φ : Env} {h h' : Hp} {w : World} {g : Pth} {v x : Nat} {a : AVal} {cv : Value} {i : VI} (R : Rel S φ h w.heap) (hi : φ g v = some i) (ha : conc φ a = some cv) (hs : stG h g v x [a] = some h') :
    ∃ w', (∀ m, (store ⟨i.block, i.base + x, none⟩ cv m).run P w = .ok () w') ∧ (∃ old, w.cell? ⟨i.block, i.base + x, none⟩ = some old) ∧ w.frozen? ⟨i.block, i.base + x, none⟩ = false ∧
      Wk w w' ∧ Rel S φ h' w'.heap ∧ Ext S φ h w.heap φ h' w'.heap := by
  obtain ⟨w', h1, h2, h3, h4⟩ := stG_ok (P := P) R hi (concs_cons.2 ⟨cv, [], ha, by simp [concs], rfl⟩) hs (by simp)
  have hcell : ∃ old, w.cell? ⟨i.block, i.base + x, none⟩ = some old := by
    unfold stG at hs
    split at hs
    · rename_i tr n lv esz elem flo fhi hg
      split at hs
      · rename_i e1 e2 _ _
        have e1 := Nat.eq_of_beq_eq_true e1
        subst e1
        have e2 : x + 1 ≤ n := Nat.le_of_ble_eq_true e2
        have RR := R.row _ _ _ _ _ _ _ _ hg
        obtain ⟨it, ht1, ht2⟩ := RR.top
        rw [hi] at ht1
        cases ht1
        obtain ⟨c, lo, hi', hb, hsz, _⟩ := RR.ver _ _ hi
        have hlt : i.base + x < c.size := by omega
        exact ⟨c[i.base + x], by simp [World.cell?, hb, hlt]⟩
      · cases hs
    · cases hs
  obtain ⟨old, hold⟩ := hcell
  have hone : cv.oneCell' = true := by
    unfold stG at hs
    split at hs
    · split at hs
      · rename_i h5
        exact scalL_ok h5 (concs_cons.2 ⟨cv, [], ha, by simp [concs], rfl⟩) cv (by simp)
      · cases hs
    · cases hs
  have hst : (store ⟨i.block, i.base + x, none⟩ cv).run P w = .ok () w' := by
    have e : storeCells ⟨i.block, i.base + x, none⟩ [cv] 0 = (do store ((⟨i.block, i.base + x, none⟩ : Addr).add 0) cv; pure ()) := rfl
    rw [e, Sem.run_bind, addr_add, Nat.add_zero] at h1
    cases hr : (store ⟨i.block, i.base + x, none⟩ cv).run P w with
    | ok u w1 => rw [hr] at h1; simp only [Result.andThen_ok, Sem.run_pure] at h1; cases h1; rfl
    | halt e w1 => rw [hr] at h1; cases h1
  have hfz : w.frozen? ⟨i.block, i.base + x, none⟩ = false := by
    rw [run_store P w _ cv _ hone, hold] at hst
    cases hf : w.frozen? ⟨i.block, i.base + x, none⟩ with
    | false => rfl
    | true => rw [hf] at hst; cases hst
  refine ⟨w', fun m => ?_, ⟨old, hold⟩, hfz, h2, h3, h4⟩
  rw [run_store P w _ cv _ hone, hold] at hst ⊢
  exact hst

theorem run_touches {P : Program} {w : World} {b off : Nat} {old : Value} (hc : w.cell? ⟨b, off, none⟩ = some old) (hf : w.frozen? ⟨b, off, none⟩ = false) : (Extern.Atomic.touchesFrozen ⟨b, off, none⟩).run P w = .ok false w := by
  have hs : (w.shape? b).isSome = true := by
    unfold World.cell? at hc
    unfold World.shape?
    split at hc
    · rename_i he
      rw [show w.heap[b]? = _ from he]
      rfl
    · cases hc
  unfold Extern.Atomic.touchesFrozen viewAt
  simp only [Sem.run_bind, run_shape, Result.andThen_ok, hs, if_true, Sem.run_pure, run_frozen, hf]

end Go.Abs

/- Texts over bytes; calls; deferred calls; calls of functions without a body. -/
namespace Go.Abs

/- unsafe.String. -/
theorem liesAt_off {P : Program} {e : TypeId} (hc : P.cellsOf e = 1) (count off n : Nat) (hn : off + n ≤ count) : liesAt P P.depth e count off e n = true := by
  have hd : P.depth = (2 * (P.types.size + Made.depth) + 1) + 1 := rfl
  rw [hd]
  simp only [liesAt, Bool.or_eq_true]
  left
  rw [hd]
  simp [rowAt, hc, hn, sameLayout, Nat.mod_one]

theorem run_unsafeString_off {P : Program} (w : World) (ts : Array TypeId) (pt ty e : TypeId) (k : IntKind) (hts : ts[0]? = some pt) (hp : P.underlying pt = some (.pointer e)) (hc : P.cellsOf e = 1) (g off cells : Nat) (hsh : w.shape? g = some (e, cells)) (l : List UInt8) (h0 : l ≠ [])
    (hn : off + l.length ≤ cells) (h63 : l.length ≤ 9223372036854775807) (hcell : ∀ j x, l[j]? = some x → w.cell? ((⟨g, off, none⟩ : Addr).add j) = some (.int .u8 x.toNat)) :
    (Builtin.unsafeString_ ts ty #[.pointer (some ⟨g, off, none⟩), .int k l.length]).run P w = .ok (.string ⟨l.toArray⟩) (w.freeze ⟨g, off, none⟩ l.length) := by
  have hl : l.length ≠ 0 := by simpa using h0
  have hlb := Lib.run_loadBytes (P := P) w l ⟨g, off, none⟩ .empty hcell
  have hlies := liesAt_off (P := P) hc (cells / P.cellsOf e) off l.length (by rw [hc]; simpa using hn)
  have h63' : ¬ (9223372036854775807 : Int) < (l.length : Int) := by omega
  have hdef : Builtin.unsafeString_ ts ty #[.pointer (some ⟨g, off, none⟩), .int k l.length] =
      (do
        let n ← asInt (.int k l.length)
        let some pt := ts[0]? | stuck "unsafe.String: no argument types"
        if n < 0 then runtimePanic (.error "unsafe.String: len out of range")
        if n > IntKind.i64.max then unsupported (.unsafePointer "String: a length above the largest int")
        if n = 0 then pure (.string .empty)
        else if ← variablesAt ⟨g, off, none⟩ (← elemOf pt) n.toNat then do
          let s ← loadBytes ⟨g, off, none⟩ .empty n.toNat
          freeze ⟨g, off, none⟩ n.toNat
          pure (.string s)
        else unsupported (.unsafePointer "String: not so many bytes at ptr")) := rfl
  rw [hdef]
  have hmax : IntKind.i64.max = 9223372036854775807 := rfl
  have hneg : ¬ (l.length : Int) < 0 := by omega
  simp [hts, asInt, asIntOf, hmax, h63', hneg, hl, variablesAt, hsh, elemOf, run_underlying hp, hlies, hlb]

theorem run_unsafeString_0 {P : Program} (w : World) (ts : Array TypeId) (pt ty : TypeId) (k : IntKind) (hts : ts[0]? = some pt) (p : Option Addr) :
    (Builtin.unsafeString_ ts ty #[.pointer p, .int k 0]).run P w = .ok (.string .empty) w := by
  have hmax : IntKind.i64.max = 9223372036854775807 := rfl
  cases p with
  | none =>
    have hdef : Builtin.unsafeString_ ts ty #[.pointer none, .int k 0] =
        (do
          let n ← asInt (.int k 0)
          let some _ := ts[0]? | stuck "unsafe.String: no argument types"
          if n < 0 then runtimePanic (.error "unsafe.String: len out of range")
          if n > IntKind.i64.max then unsupported (.unsafePointer "String: a length above the largest int")
          if n = 0 then pure (.string .empty)
          else runtimePanic (.error "unsafe.String: ptr is nil and len is not zero")) := rfl
    rw [hdef]
    simp [hts, asInt, asIntOf, hmax]
  | some a =>
    have hdef : Builtin.unsafeString_ ts ty #[.pointer (some a), .int k 0] =
        (do
          let n ← asInt (.int k 0)
          let some pt := ts[0]? | stuck "unsafe.String: no argument types"
          if n < 0 then runtimePanic (.error "unsafe.String: len out of range")
          if n > IntKind.i64.max then unsupported (.unsafePointer "String: a length above the largest int")
          if n = 0 then pure (.string .empty)
          else if ← variablesAt a (← elemOf pt) n.toNat then do
            let s ← loadBytes a .empty n.toNat
            freeze a n.toNat
            pure (.string s)
          else unsupported (.unsafePointer "String: not so many bytes at ptr")) := rfl
    rw [hdef]
    simp [hts, asInt, asIntOf, hmax]

noncomputable def frzG (h : Hp) (g : Pth) (x k : Nat) (e : TypeId) : Option Hp :=
  match h.get g with
  | .row tr n lv esz elem flo fhi => match Nat.ble lim fhi, Nat.beq elem e with
    | false, true => match Nat.ble fhi flo with
      | true => some (h.put g (.row tr n lv esz elem x (Nat.add x k)))
      | false => some (h.put g (.row tr n lv esz elem (minN flo x) (match Nat.ble fhi (Nat.add x k) with | true => Nat.add x k | false => fhi)))
    | _, _ => none
  | _ => none

noncomputable def usA (e : TypeId) (h : Hp) (p n : AVal) : LR :=
  match n with
  | .int _ (.ofNat n) => match n with
    | 0 => match p with
      | .nilp => .val (.str 0 0) h
      | .ptr _ _ _ => .val (.str 0 0) h
      | _ => .bad
    | n + 1 => match p with
      | .ptr g v x => match ldL (h.get g) v (Nat.succ n) x with
        | some l => match strOf l, Nat.ble (Nat.succ n) maxI with
          | some (a, b), true => match frzG h g x (Nat.succ n) e with
            | some h' => .val (.str a b) h'
            | none => .bad
          | _, _ => .bad
        | none => .bad
      | _ => .bad
  | _ => .bad

noncomputable def lUs (e : TypeId) (x y : Opd) : LQ := fun s h => usA e h (opd x s) (opd y s)

theorem frzG_ok {S : Nat} {φ : Env} {h h' : Hp} {w : World} (R : Rel S φ h w.heap) {g : Pth} {v x k : Nat} {e : TypeId} {i : VI} (hi : φ g v = some i) (hk : k ≠ 0) (hf : frzG h g x k e = some h') :
    Rel S φ h' (w.freeze ⟨i.block, i.base + x, none⟩ k).heap ∧ Ext S φ h w.heap φ h' (w.freeze ⟨i.block, i.base + x, none⟩ k).heap ∧ ∃ tr n lv esz flo fhi, h.get g = .row tr n lv esz e flo fhi := by
  unfold frzG at hf
  split at hf
  · rename_i tr n lv esz elem flo fhi hg
    split at hf
    · rename_i h1 h2
      have h1 := not_ble h1
      have h2 := Nat.eq_of_beq_eq_true h2
      subst h2
      have hS : S ≤ g.nat := by
        rcases R.ro _ _ _ _ _ _ _ _ hg with h | ⟨_, h⟩
        · exact h
        · exact absurd h h1
      have := Rel.freeze R hg hS hi x k hk
      split at hf
      · rename_i h3
        have h3 := Nat.le_of_ble_eq_true h3
        cases hf
        rw [if_pos h3, if_pos h3] at this
        exact ⟨this.1, this.2, _, _, _, _, _, _, hg⟩
      · rename_i h3
        have h3 := not_ble h3
        cases hf
        rw [if_neg h3, if_neg h3] at this
        have e1 : minN flo x = min flo x := minN_eq flo x
        have e2 : (match Nat.ble fhi (Nat.add x k) with | true => Nat.add x k | false => fhi) = max fhi (x + k) := by
          split
          · rename_i h4; have h4 : fhi ≤ x + k := Nat.le_of_ble_eq_true h4; show x + k = _; omega
          · rename_i h4; have h4 : ¬ fhi ≤ x + k := not_ble h4; omega
        rw [e1, e2]
        exact ⟨this.1, this.2, _, _, _, _, _, _, hg⟩
    · cases hf
  · cases hf

theorem lUs_ok {P : Program} {S : Nat} {o : Oper} {c : Call} {x y : Operand} {pt e : TypeId} (hc : c.callee = .builtin .unsafeString) (ha : c.args.toList = [x, y]) (hts : c.argTypes[0]? = some pt)
    (hp : P.underlying pt = some (.pointer e)) (he : P.cellsOf e = 1) (ho : o.op = .call c) : ImplL P S o (lUs e (cOpd S x) (cOpd S y)) := by
  intro φ s h a w R hs
  have hrun : ∀ cv w', (Builtin.unsafeString_ c.argTypes o.type #[a.eval x, a.eval y]).run P w = .ok cv w' → (execOp a.eval o).run P w = .ok (.value cv) w' := by
    intro cv w' h
    rw [run_call_builtin hc ho]
    simp only [builtin, Sem.run_bind, args2 ha, h, Result.andThen_ok, Sem.run_pure]
  unfold lUs
  generalize hf : usA e h (opd (cOpd S x) s) (opd (cOpd S y) s) = r
  unfold usA at hf
  split at hf
  · rename_i k n hya
    have hy := opd_ok R hs (o := y) (by rw [hya]; exact fun e => by cases e)
    rw [hya] at hy
    simp only [conc, Option.some.injEq] at hy
    split at hf
    · have hz : ∀ p, a.eval x = .pointer p → (execOp a.eval o).run P w = .ok (.value (.string ⟨(sbytes 0 0).toArray⟩)) w := by
        intro p hp
        refine hrun _ _ ?_
        rw [hp, ← hy]
        exact run_unsafeString_0 w _ pt _ k hts p
      split at hf
      · rename_i hxa
        have hx := opd_ok R hs (o := x) (by rw [hxa]; exact fun e => by cases e)
        rw [hxa] at hx
        simp only [conc, Option.some.injEq] at hx
        subst hf
        exact ⟨φ, w, _, hz none hx.symm, by simp [conc], R, Ext.refl _ _ _ _, Wk.refl w⟩
      · rename_i hxa
        have hx := opd_ok R hs (o := x) (by rw [hxa]; exact fun e => by cases e)
        rw [hxa] at hx
        obtain ⟨i, hi, e1⟩ := conc_ptr hx
        subst hf
        exact ⟨φ, w, _, hz _ e1, by simp [conc], R, Ext.refl _ _ _ _, Wk.refl w⟩
      · subst hf; trivial
    · rename_i n
      split at hf
      · rename_i g v x' hxa
        have hx := opd_ok R hs (o := x) (by rw [hxa]; exact fun e => by cases e)
        rw [hxa] at hx
        obtain ⟨i, hi, e1⟩ := conc_ptr hx
        split at hf
        · rename_i l hl
          split at hf
          · rename_i a' b' hs2 hmx
            have hmx : n + 1 ≤ 9223372036854775807 := Nat.le_of_ble_eq_true hmx
            split at hf
            · rename_i h' hfz
              subst hf
              obtain ⟨h4, cs, h5, h6⟩ := ldL_ok R hi _ _ _ hl
              obtain ⟨bs, h7, h8, h9⟩ := strOf_spec hs2
              have h10 := h9 φ
              rw [h5] at h10
              cases h10
              have hlen : bs.length = n + 1 := by rw [show n + 1 = l.length from h4.symm, ← concs_length h5]; simp
              obtain ⟨R', E', tr, n0, lv, esz, flo, fhi, hg⟩ := frzG_ok R hi (by omega) hfz
              obtain ⟨c0, lo, hi', hb, hcap, _, _⟩ := (R.row _ _ _ _ _ _ _ _ hg).ver v i hi
              have hlast := h6 n (.int .u8 (bs[n]'(by omega)).toNat) (by simp [hlen])
              have hin : i.base + x' + n < c0.size := by
                simp only [World.cell?, hb] at hlast
                exact (Array.getElem?_eq_some_iff.1 hlast).1
              refine ⟨φ, _, .string ⟨bs.toArray⟩, hrun _ _ ?_, ?_, R', E', ?_⟩
              · rw [e1, ← hy]
                have := run_unsafeString_off (P := P) w c.argTypes pt o.type e k hts hp he i.block (i.base + x') c0.size (by simp [World.shape?, hb]) bs (fun e => by rw [e] at hlen; simp at hlen) (by omega) (by omega)
                  (fun j u hj => by rw [addr_add]; exact h6 j _ (by simp [hj]))
                rw [hlen] at this
                exact this
              · simp only [conc, ← h7, ← h8]
                rw [if_pos (natOf_lt bs), sbytes_natOf]
              · unfold World.freeze
                split <;> exact ⟨rfl, rfl, rfl⟩
            · subst hf; trivial
          · subst hf; trivial
        · subst hf; trivial
      · subst hf; trivial
  · subst hf; trivial


/- Calls. -/
noncomputable def cat (a b : List AVal) : List AVal := List.rec (motive := fun _ => List AVal) b (fun x _ ih => x :: ih) a

theorem cat_eq (a b : List AVal) : cat a b = a ++ b := by
  induction a with
  | nil => rfl
  | cons x a ih => show x :: cat a b = _; rw [ih]; rfl

theorem concs_cat {φ : Env} {a b : List AVal} {ca cb : List Value} (ha : concs φ a = some ca) (hb : concs φ b = some cb) : concs φ (cat a b) = some (ca ++ cb) := by
  rw [cat_eq]; exact concs_append ha hb

/-- Functions without a body that are understood. -/
inductive XK where
  | none
  | same
  | mkNoZero (e : TypeId)
  | ald (k : IntKind)
  | ast
  | acas (k : IntKind)
  | aadd (k : IntKind)
  | nop
  | mrk

def atK (name : String) : XK :=
  match name == "sync/atomic.LoadUint32" with
  | true => .ald .u32
  | false => match name == "sync/atomic.StoreUint32" with
    | true => .ast
    | false => match name == "sync/atomic.CompareAndSwapInt32" with
      | true => .acas .i32
      | false => match name == "sync/atomic.AddInt32" with
        | true => .aadd .i32
        | false => match name == "internal/race.Disable" with
          | true => .nop
          | false => match name == "internal/race.Enable" with
            | true => .nop
            | false => match name == "internal/race.Acquire" with
              | true => .mrk
              | false => match name == "internal/race.ReleaseMerge" with
                | true => .mrk
                | false => .none

def mkNoZeroO (P : Program) (fn : Func) : XK :=
  match fn.resultTypes[0]? with
  | some t => match P.underlying t with
    | some (.slice e) => .mkNoZero e
    | _ => .none
  | none => .none

def extK (P : Program) (fn : Func) : XK :=
  match (Extern.findNext fn).isNone with
  | false => .none
  | true => match fn.name == "internal/abi.NoEscape" with
    | true => .same
    | false => match fn.name == "internal/bytealg.MakeNoZero" with
      | true => mkNoZeroO P fn
      | false => atK fn.name

/-- A whole number that lies in one cell. -/
noncomputable def ldI (k : IntKind) (h : Hp) (x : AVal) : Option Int :=
  match x with
  | .ptr g v o => match ld1 (h.get g) v o with
    | .int k' n => match kEq k k' with
      | true => some n
      | false => none
    | _ => none
  | _ => none

noncomputable def atA (k : XK) (h : Hp) (args : List AVal) : LR :=
  match k, args with
  | .ald k, [x] => match ldI k h x with
    | some n => .val (.int k n) h
    | none => .bad
  | .ast, [.ptr g v o, a] => match isBot a with
    | true => .bad
    | false => match stG h g v o [a] with
      | some h' => .val (.tuple []) h'
      | none => .bad
  | .acas k, [.ptr g v o, .int _ old, .int k2 new] => match ldI k h (.ptr g v o) with
    | some n => match stG h g v o [.int k2 new] with
      | some h' => match eqI n old with
        | true => .val (.bool true) h'
        | false => .val (.bool false) h
      | none => .bad
    | none => .bad
  | .aadd k, [.ptr g v o, .int _ y] => match ldI k h (.ptr g v o) with
    | some n => match stG h g v o [.int k (wrapA k (Int.add n y))] with
      | some h' => .val (.int k (wrapA k (Int.add n y))) h'
      | none => .bad
    | none => .bad
  | .nop, _ => .val (.tuple []) h
  | .mrk, [.ptr _ _ _] => .val (.tuple []) h
  | _, _ => .bad

noncomputable def xtA (k : XK) (h : Hp) (args : List AVal) : LR :=
  match k with
  | .none => .bad
  | .same => match args with
    | [x] => match isBot x with
      | true => .bad
      | false => .val x h
    | _ => .bad
  | .mkNoZero e => match args with
    | [.int .i64 (.ofNat n)] => match Nat.ble n lim with
      | true => .val (.slice h.nx 0 0 n (.opn 0)) (h.add (.row .nil n 0 1 e 0 0))
      | false => .bad
    | _ => .bad
  | .ald k => atA (.ald k) h args
  | .ast => atA .ast h args
  | .acas k => atA (.acas k) h args
  | .aadd k => atA (.aadd k) h args
  | .nop => atA .nop h args
  | .mrk => atA .mrk h args

noncomputable def cfA (P : Program) (f : FuncId) (h : Hp) (args : List AVal) : LR :=
  match P.funcs[f]? with
  | none => .bad
  | some fn => match fn.name == "runtime.NumGoroutine" with
    | true => .bad
    | false => match fn.body with
      | some _ => .call f args
      | none => xtA (extK P fn) h args

theorem find_same {fn : Func} (h : fn.name = "internal/abi.NoEscape") : Extern.find fn = some Extern.AbiNoEscape.same := by
  obtain ⟨name, b, c, d, e, f, g, i, j, k, l, m, n, o, p, q⟩ := fn
  dsimp only at h
  subst h
  kernel_rfl

theorem find_mkNoZero {fn : Func} (h : fn.name = "internal/bytealg.MakeNoZero") : Extern.find fn = some (Extern.BytealgMakeNoZero.makeNoZero fn.params fn.resultTypes) := by
  obtain ⟨name, b, c, d, e, f, g, i, j, k, l, m, n, o, p, q⟩ := fn
  dsimp only at h
  subst h
  kernel_rfl

theorem find_ald {fn : Func} (h : fn.name = "sync/atomic.LoadUint32") : Extern.find fn = some (Extern.Atomic.loadT (.int .u32)) := by
  obtain ⟨name, b, c, d, e, f, g, i, j, k, l, m, n, o, p, q⟩ := fn
  dsimp only at h
  subst h
  kernel_rfl

theorem find_ast {fn : Func} (h : fn.name = "sync/atomic.StoreUint32") : Extern.find fn = some Extern.Atomic.storeT := by
  obtain ⟨name, b, c, d, e, f, g, i, j, k, l, m, n, o, p, q⟩ := fn
  dsimp only at h
  subst h
  kernel_rfl

theorem find_acas {fn : Func} (h : fn.name = "sync/atomic.CompareAndSwapInt32") : Extern.find fn = some (Extern.Atomic.casT (.int .i32)) := by
  obtain ⟨name, b, c, d, e, f, g, i, j, k, l, m, n, o, p, q⟩ := fn
  dsimp only at h
  subst h
  kernel_rfl

theorem find_aadd {fn : Func} (h : fn.name = "sync/atomic.AddInt32") : Extern.find fn = some (Extern.Atomic.update (Op.intArith .add) .i32 true) := by
  obtain ⟨name, b, c, d, e, f, g, i, j, k, l, m, n, o, p, q⟩ := fn
  dsimp only at h
  subst h
  kernel_rfl

theorem atK_cases (n : String) : atK n = .none ∨ atK n = .ald .u32 ∨ atK n = .ast ∨ atK n = .acas .i32 ∨ atK n = .aadd .i32 ∨ atK n = .nop ∨ atK n = .mrk := by
  unfold atK
  repeat' split
  all_goals simp

theorem find_dis {fn : Func} (h : fn.name = "internal/race.Disable") : Extern.find fn = some (fun _ => do mark .disable; pure Extern.Race.none_) := by
  obtain ⟨name, b, c, d, e, f, g, i, j, k, l, m, n, o, p, q⟩ := fn
  dsimp only at h
  subst h
  kernel_rfl

theorem find_ena {fn : Func} (h : fn.name = "internal/race.Enable") : Extern.find fn = some (fun _ => do mark .enable; pure Extern.Race.none_) := by
  obtain ⟨name, b, c, d, e, f, g, i, j, k, l, m, n, o, p, q⟩ := fn
  dsimp only at h
  subst h
  kernel_rfl

theorem find_acq {fn : Func} (h : fn.name = "internal/race.Acquire") : Extern.find fn = some (Extern.Race.marked .acquire) := by
  obtain ⟨name, b, c, d, e, f, g, i, j, k, l, m, n, o, p, q⟩ := fn
  dsimp only at h
  subst h
  kernel_rfl

theorem find_rel {fn : Func} (h : fn.name = "internal/race.ReleaseMerge") : Extern.find fn = some (Extern.Race.marked .releaseMerge) := by
  obtain ⟨name, b, c, d, e, f, g, i, j, k, l, m, n, o, p, q⟩ := fn
  dsimp only at h
  subst h
  kernel_rfl

theorem run_marked {P : Program} {w : World} (m : Addr → Mark) (a : Addr) (l : List Value) : (Extern.Race.marked m (Value.pointer (some a) :: l).toArray).run P w = .ok (.tuple #[]) w := by
  unfold Extern.Race.marked Extern.Race.at_
  simp
  rfl

theorem ldI_ok {S : Nat} {φ : Env} {h : Hp} {w : World} (R : Rel S φ h w.heap) {k : IntKind} {x : AVal} {cx : Value} {n : Int} (hx : conc φ x = some cx) (hl : ldI k h x = some n) :
    ∃ g v o i, x = .ptr g v o ∧ φ g v = some i ∧ cx = .pointer (some ⟨i.block, i.base + o, none⟩) ∧ w.cell? ⟨i.block, i.base + o, none⟩ = some (.int k n) := by
  unfold ldI at hl
  split at hl
  · rename_i g v o
    split at hl
    · rename_i k' n' hld
      split at hl
      · rename_i hk
        cases hl
        obtain rfl := kEq_eq hk
        obtain ⟨i, hi, e2⟩ := conc_ptr hx
        obtain ⟨cv, h1, h2⟩ := ld1_ok R (by rw [hld]; exact fun e => by cases e) hi
        rw [hld] at h1
        simp only [conc, Option.some.injEq] at h1
        subst h1
        exact ⟨g, v, o, i, rfl, hi, e2, h2⟩
      · cases hl
    · cases hl
  · cases hl

theorem run_readI {P : Program} {w : World} {a : Addr} {k : IntKind} {n : Int} (h : w.cell? a = some (.int k n)) : (Extern.Atomic.read (.int k) a).run P w = .ok (.int k n) w := by
  unfold Extern.Atomic.read
  rw [Sem.run_bind, run_load, h]
  simp

theorem atA_ok {P : Program} {S : Nat} {φ : Env} {h : Hp} {w : World} (R : Rel S φ h w.heap) {fn : Func} {args : List AVal} {cargs : List Value} (ha : concs φ args = some cargs) {m : Sem Next}
    (hm : ∀ e, Extern.find fn = some e → ∀ cv w', (e cargs.toArray).run P w = .ok cv w' → m.run P w = .ok (.value cv) w') : LOk P S φ h w (atA (atK fn.name) h args) m := by
  generalize hk : atK fn.name = K
  unfold atK at hk
  split at hk
  · rename_i hn
    have hn : fn.name = "sync/atomic.LoadUint32" := by simpa using hn
    subst hk
    unfold atA
    split <;> first | (rename_i e _; cases e; done) | (rename_i e; cases e; done) | trivial | skip
    rename_i k x e
    cases e
    split
    · rename_i n hl
      obtain ⟨c, cs, h1, h2, rfl⟩ := concs_cons.1 ha
      simp only [concs, Option.some.injEq] at h2
      subst h2
      obtain ⟨g, v, o, i, rfl, hi, rfl, hc⟩ := ldI_ok R h1 hl
      refine ⟨φ, w, .int .u32 n, hm _ (find_ald hn) _ _ ?_, conc_int _ _ _, R, Ext.refl _ _ _ _, Wk.refl w⟩
      have hdef : Extern.Atomic.loadT (.int .u32) #[.pointer (some ⟨i.block, i.base + o, none⟩)] = (do Extern.Atomic.read (.int .u32) (← asAddr (.pointer (some ⟨i.block, i.base + o, none⟩)))) := rfl
      show (Extern.Atomic.loadT (.int .u32) #[.pointer (some ⟨i.block, i.base + o, none⟩)]).run P w = _
      rw [hdef]
      simp only [Sem.run_bind, asAddr, Sem.run_pure, Result.andThen_ok, run_readI hc]
    · trivial
  · split at hk
    · rename_i hn
      have hn : fn.name = "sync/atomic.StoreUint32" := by simpa using hn
      subst hk
      unfold atA
      split <;> first | (rename_i e _; cases e; done) | (rename_i e; cases e; done) | trivial | skip
      rename_i g v o a e
      split
      · trivial
      · split
        · rename_i h' hs
          obtain ⟨c, cs, h1, h2, rfl⟩ := concs_cons.1 ha
          obtain ⟨c2, cs2, h3, h4, rfl⟩ := concs_cons.1 h2
          simp only [concs, Option.some.injEq] at h4
          subst h4
          obtain ⟨i, hi, rfl⟩ := conc_ptr h1
          obtain ⟨w', h5, _, _, h6, h7, h8⟩ := st1_ok (P := P) R hi h3 hs
          refine ⟨φ, w', .tuple #[], hm _ (find_ast hn) _ _ ?_, by simp [conc, concs], h7, h8, h6⟩
          have hdef : Extern.Atomic.storeT #[.pointer (some ⟨i.block, i.base + o, none⟩), c2] = (do
              store (← asAddr (.pointer (some ⟨i.block, i.base + o, none⟩))) c2 .atomic
              pure Extern.Atomic.none_) := rfl
          show (Extern.Atomic.storeT #[.pointer (some ⟨i.block, i.base + o, none⟩), c2]).run P w = _
          rw [hdef]
          simp only [Sem.run_bind, asAddr, Sem.run_pure, Result.andThen_ok, h5]
          rfl
        · trivial
    · split at hk
      · rename_i hn
        have hn : fn.name = "sync/atomic.CompareAndSwapInt32" := by simpa using hn
        subst hk
        unfold atA
        split <;> first | (rename_i e _; cases e; done) | (rename_i e; cases e; done) | trivial | skip
        rename_i k g v o k1 old k2 new e
        cases e
        split
        · rename_i n hl
          split
          · rename_i h' hs
            obtain ⟨c, cs, h1, h2, rfl⟩ := concs_cons.1 ha
            obtain ⟨c2, cs2, h3, h4, rfl⟩ := concs_cons.1 h2
            obtain ⟨c3, cs3, h5, h6, rfl⟩ := concs_cons.1 h4
            simp only [concs, Option.some.injEq] at h6
            subst h6
            simp only [conc, Option.some.injEq] at h3
            subst h3
            obtain ⟨g', v', o', i, e1, hi, rfl, hc⟩ := ldI_ok R h1 hl
            cases e1
            obtain ⟨w', h7, _, hf, h8, h9, h10⟩ := st1_ok (P := P) R hi h5 hs
            have hdef : Extern.Atomic.casT (.int .i32) #[.pointer (some ⟨i.block, i.base + o, none⟩), .int k1 old, c3] = (do
                if ← Extern.Atomic.touchesFrozen ⟨i.block, i.base + o, none⟩ then unsupported (.unsafePointer "a write to bytes that a string shares")
                let eq ← match Extern.Atomic.T.int .i32, ← Extern.Atomic.read (.int .i32) ⟨i.block, i.base + o, none⟩, Value.int k1 old with
                  | _, .int _ x, .int _ y => pure (x == y)
                  | .ptr, .pointer x, .pointer y => samePointer x y
                  | .int _, .pointer (some _), .int _ 0 | .int _, .int _ 0, .pointer (some _) => pure false
                  | .int _, .pointer (some _), _ | .int _, _, .pointer (some _) => unsupported .addressObserved
                  | _, _, _ => stuck "atomic.CompareAndSwap: old is no T"
                if eq then store ⟨i.block, i.base + o, none⟩ c3 .atomic
                pure (.bool eq)) := rfl
            have hrun : (Extern.Atomic.casT (.int .i32) #[.pointer (some ⟨i.block, i.base + o, none⟩), .int k1 old, c3]).run P w = .ok (.bool (eqI n old)) (if eqI n old then w' else w) := by
              rw [hdef, eqI_eq]
              simp only [Sem.run_bind, run_touches hc hf, Result.andThen_ok, Bool.false_eq_true, if_false, run_readI hc, Sem.run_pure]
              cases hb : n == old with
              | true => simp only [if_true, Sem.run_bind, h7, Result.andThen_ok, Sem.run_pure]
              | false => simp only [Bool.false_eq_true, if_false, Result.andThen_ok, Sem.run_pure]
            cases hb : eqI n old with
            | true =>
              rw [hb] at hrun
              exact ⟨φ, w', .bool true, hm _ (find_acas hn) _ _ (hrun.trans rfl), conc_bool _ _, h9, h10, h8⟩
            | false =>
              rw [hb] at hrun
              exact ⟨φ, w, .bool false, hm _ (find_acas hn) _ _ (hrun.trans rfl), conc_bool _ _, R, Ext.refl _ _ _ _, Wk.refl w⟩
          · trivial
        · trivial
      · split at hk
        · rename_i hn
          have hn : fn.name = "sync/atomic.AddInt32" := by simpa using hn
          subst hk
          unfold atA
          split <;> first | (rename_i e _; cases e; done) | (rename_i e; cases e; done) | trivial | skip
          rename_i k g v o k1 y e
          cases e
          split
          · rename_i n hl
            split
            · rename_i h' hs
              obtain ⟨c, cs, h1, h2, rfl⟩ := concs_cons.1 ha
              obtain ⟨c2, cs2, h3, h4, rfl⟩ := concs_cons.1 h2
              simp only [concs, Option.some.injEq] at h4
              subst h4
              simp only [conc, Option.some.injEq] at h3
              subst h3
              obtain ⟨g', v', o', i, e1, hi, rfl, hc⟩ := ldI_ok R h1 hl
              cases e1
              obtain ⟨w', h7, _, _, h8, h9, h10⟩ := st1_ok (P := P) R hi (conc_int φ _ _) hs
              refine ⟨φ, w', _, hm _ (find_aadd hn) _ _ ?_, conc_int _ _ _, h9, h10, h8⟩
              have hdef : Extern.Atomic.update (Op.intArith .add) .i32 true #[.pointer (some ⟨i.block, i.base + o, none⟩), .int k1 y] = (do
                  let a ← asAddr (.pointer (some ⟨i.block, i.base + o, none⟩))
                  let old ← Extern.Atomic.read (.int .i32) a
                  let new ← Op.intArith .add .i32 (← asInt old) (← asInt (.int k1 y))
                  store a new .atomic
                  pure (if true then new else old)) := rfl
              show (Extern.Atomic.update (Op.intArith .add) .i32 true #[.pointer (some ⟨i.block, i.base + o, none⟩), .int k1 y]).run P w = _
              rw [hdef]
              have e2 : IntKind.i32.wrap (n + y) = wrapA .i32 (Int.add n y) := by rw [wrapA_eq]; rfl
              simp only [Sem.run_bind, asAddr, Sem.run_pure, Result.andThen_ok, run_readI hc, asInt, asIntOf, Op.intArith]
              rw [e2]
              simp only [h7, Result.andThen_ok, if_true]
            · trivial
          · trivial
        · split at hk
          · rename_i hn
            have hn : fn.name = "internal/race.Disable" := by simpa using hn
            subst hk
            exact ⟨φ, w, .tuple #[], hm _ (find_dis hn) _ _ rfl, by simp [conc, concs], R, Ext.refl _ _ _ _, Wk.refl w⟩
          · split at hk
            · rename_i hn
              have hn : fn.name = "internal/race.Enable" := by simpa using hn
              subst hk
              exact ⟨φ, w, .tuple #[], hm _ (find_ena hn) _ _ rfl, by simp [conc, concs], R, Ext.refl _ _ _ _, Wk.refl w⟩
            · split at hk
              · rename_i hn
                have hn : fn.name = "internal/race.Acquire" := by simpa using hn
                subst hk
                unfold atA
                split <;> first | (rename_i e _; cases e; done) | (rename_i e; cases e; done) | trivial | skip
                obtain ⟨c, cs, h1, h2, rfl⟩ := concs_cons.1 ha
                obtain ⟨i, hi, rfl⟩ := conc_ptr h1
                exact ⟨φ, w, .tuple #[], hm _ (find_acq hn) _ _ (run_marked _ _ _), by simp [conc, concs], R, Ext.refl _ _ _ _, Wk.refl w⟩
              · split at hk
                · rename_i hn
                  have hn : fn.name = "internal/race.ReleaseMerge" := by simpa using hn
                  subst hk
                  unfold atA
                  split <;> first | (rename_i e _; cases e; done) | (rename_i e; cases e; done) | trivial | skip
                  obtain ⟨c, cs, h1, h2, rfl⟩ := concs_cons.1 ha
                  obtain ⟨i, hi, rfl⟩ := conc_ptr h1
                  exact ⟨φ, w, .tuple #[], hm _ (find_rel hn) _ _ (run_marked _ _ _), by simp [conc, concs], R, Ext.refl _ _ _ _, Wk.refl w⟩
                · subst hk
                  unfold atA
                  split <;> first | (rename_i e _; cases e; done) | (rename_i e; cases e; done) | trivial

theorem digits_size : ∀ (n t : Nat) (acc : Array Value), (Extern.BytealgMakeNoZero.digits n t acc).size = acc.size + n := by
  intro n
  induction n with
  | zero => intro t acc; rfl
  | succ n ih => intro t acc; simp only [Extern.BytealgMakeNoZero.digits]; rw [ih]; simp; omega

theorem xtA_ok {P : Program} {S : Nat} {φ : Env} {h : Hp} {w : World} (R : Rel S φ h w.heap) {f : FuncId} {fn : Func} (hf : P.funcs[f]? = some fn) (hname : (fn.name == "runtime.NumGoroutine") = false) (hb : fn.body = none)
    {args : List AVal} {cargs : List Value} (ha : concs φ args = some cargs) {m : Sem Next} (hm : ∀ cv w', (callFunc f cargs.toArray).run P w = .ok (.value cv) w' → m.run P w = .ok (.value cv) w') : LOk P S φ h w (xtA (extK P fn) h args) m := by
  have hrun : ∀ e, Extern.findNext fn = none → Extern.find fn = some e → (callFunc f cargs.toArray).run P w = ((e cargs.toArray).run P w).andThen fun v w' => .ok (.value v) w' :=
    fun e h1 h2 => run_callFunc_extern hf hname (by rw [hb]; rfl) h1 h2 _ _
  generalize hk : extK P fn = k
  unfold extK at hk
  split at hk
  · subst hk; trivial
  · rename_i hnext
    have hnext : Extern.findNext fn = none := by simpa using hnext
    split at hk
    · rename_i hn
      have hn : fn.name = "internal/abi.NoEscape" := by simpa using hn
      subst hk
      unfold xtA
      split <;> first | (rename_i e; cases e; done) | skip
      · split
        · rename_i x
          split
          · trivial
          · rename_i hbot
            obtain ⟨c, cs, h1, h2, rfl⟩ := concs_cons.1 ha
            simp only [concs, Option.some.injEq] at h2
            subst h2
            refine ⟨φ, w, c, hm _ _ ?_, h1, R, Ext.refl _ _ _ _, Wk.refl w⟩
            rw [hrun _ hnext (find_same hn)]
            rfl
        · trivial
    · split at hk
      · rename_i hn
        have hn : fn.name = "internal/bytealg.MakeNoZero" := by simpa using hn
        unfold mkNoZeroO at hk
        split at hk
        · rename_i t ht
          split at hk
          · rename_i e hu
            subst hk
            unfold xtA
            split <;> first | (rename_i e; cases e; done) | skip
            · rename_i e' he
              cases he
              split
              · rename_i n
                split
                · rename_i hle
                  have hle : n ≤ 1099511627776 := Nat.le_of_ble_eq_true hle
                  obtain ⟨c, cs, h1, h2, rfl⟩ := concs_cons.1 ha
                  simp only [concs, Option.some.injEq] at h2
                  subst h2
                  simp only [conc, Option.some.injEq] at h1
                  subst h1
                  have hge := grownCap_ge w n 0 e
                  generalize hgc : grownCap w n 0 e = gc at hge
                  have hA := Rel.alloc R (.cells (Extern.BytealgMakeNoZero.digits gc (w.tape (w.drawn + 1) (.extern "internal/bytealg.MakeNoZero.bytes" 0)) #[]) e) (.row .nil n 0 1 e 0 0) gc
                    (by
                      intro tr n' lv esz elem flo fhi heq
                      cases heq
                      exact ⟨rfl, hle, by omega, _, 0, 0, rfl, by rw [digits_size]; simp, (fun x a u hx => by rw [cellAt_nil] at hx; cases hx), Nat.le_refl _, .inl rfl⟩)
                    (by intro es c heq; cases heq)
                  refine ⟨_, { w with heap := w.heap.push (.cells (Extern.BytealgMakeNoZero.digits gc (w.tape (w.drawn + 1) (.extern "internal/bytealg.MakeNoZero.bytes" 0)) #[]) e), drawn := w.drawn + 2 }, .slice (some ⟨w.heap.size, 0, none⟩) n (gc - 0), hm _ _ ?_, ?_, hA.1, hA.2, ⟨rfl, rfl, rfl⟩⟩
                  · rw [hrun _ hnext (find_mkNoZero hn)]
                    have h48 : ¬ ((281474976710656 : Int) < (n : Int)) := by omega
                    have hcut : (Question.extern "internal/bytealg.MakeNoZero.bytes" 0).cut (w.tape (w.drawn + 1) (.extern "internal/bytealg.MakeNoZero.bytes" 0)) = w.tape (w.drawn + 1) (.extern "internal/bytealg.MakeNoZero.bytes" 0) := rfl
                    have hneg : ¬ ((n : Int) < 0) := by omega
                    have hdef : Extern.BytealgMakeNoZero.makeNoZero fn.params fn.resultTypes #[.int .i64 (Int.ofNat n)] =
                        (do
                          let some t := fn.resultTypes[0]? | stuck "bytealg.MakeNoZero: no result type"
                          let .slice elem ← underlying t | stuck "bytealg.MakeNoZero: slice type expected"
                          if Int.ofNat n < 0 || Int.ofNat n > 2 ^ 48 then runtimePanic (.error "makeslice: len out of range")
                          let cap ← choose (.appendCap (Int.ofNat n).toNat 0 elem)
                          askRoom cap
                          let bytes ← choose (.extern "internal/bytealg.MakeNoZero.bytes" 0)
                          let a ← newRow elem (Extern.BytealgMakeNoZero.digits cap bytes #[])
                          pure (.slice (some a) (Int.ofNat n).toNat cap)) := rfl
                    rw [hdef]
                    simp only [Int.ofNat_eq_natCast]
                    simp [ht, run_underlying hu, h48, hneg, Question.forced, hcut, newRow, newObj, Sem.run, ← hgc, grownCap]
                    rfl
                  · exact (conc_slice_mk (i := ⟨w.heap.size, 0, gc⟩) (k := .opn 0) (Env.upd_same _ _ _ _) (show 0 + n ≤ gc by omega)).trans rfl
                · trivial
              · trivial
          · subst hk; trivial
        · subst hk; trivial
      · subst hk
        have hat := atA_ok (P := P) (fn := fn) R ha (m := m) fun e he cv w' hr => hm cv w' (by rw [hrun e hnext he, hr]; rfl)
        rcases atK_cases fn.name with e | e | e | e | e | e | e <;> rw [e] at hat ⊢ <;> first | exact hat | trivial

theorem cfA_ok {P : Program} {S : Nat} {φ : Env} {h : Hp} {w : World} (R : Rel S φ h w.heap) {f : FuncId} {args : List AVal} {cargs : List Value} (ha : concs φ args = some cargs)
    {m : Sem Next} (hm : ∀ r, (callFunc f cargs.toArray).run P w = r → m.run P w = r) : LOk P S φ h w (cfA P f h args) m := by
  generalize hr : cfA P f h args = r
  unfold cfA at hr
  split at hr
  · subst hr; trivial
  · rename_i fn hf
    split at hr
    · subst hr; trivial
    · rename_i hname
      split at hr
      · rename_i c hb
        subst hr
        refine ⟨cargs, ha, hm _ ?_⟩
        have h1 : fn.name ≠ "runtime.NumGoroutine" := by simpa using hname
        simp [callFunc, hf, h1, hb]
      · rename_i hb
        rw [← hr]
        exact xtA_ok R hf hname hb ha fun cv w' h => hm _ h

noncomputable def lCv (P : Program) (S : Nat) (f : Opd) (args : List Operand) : LQ := fun s h =>
  match opd f s with
  | .func fn first captured => match fn with
    | .func f => match opds S s args with
      | some as => cfA P f h (cat (cat first as) captured)
      | none => .bad
    | _ => .bad
  | _ => .bad

theorem lCv_ok {P : Program} {S : Nat} {o : Oper} {c : Call} {f : Operand} (hc : c.callee = .value f) (ho : o.op = .call c) : ImplL P S o (lCv P S (cOpd S f) c.args.toList) := by
  intro φ s h a w R hs
  generalize hr : lCv P S (cOpd S f) c.args.toList s h = r
  unfold lCv at hr
  split at hr
  · rename_i fn first captured hfa
    have hf := opd_ok R hs (o := f) (by rw [hfa]; exact fun e => by cases e)
    rw [hfa] at hf
    obtain ⟨lf, lc, h1, h2, e⟩ := conc_func hf
    split at hr
    · rename_i f'
      split at hr
      · rename_i as has
        have h3 := opds_ok R hs _ _ has
        rw [← hr]
        refine cfA_ok R (concs_cat (concs_cat h1 h3) h2) fun r hrun => ?_
        rw [← hrun]
        simp only [execOp, ho, resolve, hc, e, Deferred.ofValue, Sem.run_bind, Sem.run_pure, Result.andThen_ok, invoke]
        congr 2
        apply Array.ext'
        simp
      · subst hr; trivial
    · subst hr; trivial
  · subst hr; trivial

/- Calls through an interface. -/
def mtO (P : Program) (t : TypeId) (name : String) : Option FuncId :=
  match P.info? t with
  | none => none
  | some i => match i.methods.find? (·.name == name) with
    | none => none
    | some m => match m.path.toList, m.func, P.underlying t with
      | [], some (f, true), some (.pointer _) => some f
      | [], some (_, false), some (.pointer _) => none
      | [], some (f, false), some _ => some f
      | _, _, _ => none

theorem mtO_run {P : Program} {t : TypeId} {name : String} {f : FuncId} (h : mtO P t name = some f) (n : Nat) (v : Value) (w : World) : (method (n + 1) t v name).run P w = .ok (f, v) w := by
  unfold mtO at h
  split at h
  · cases h
  · rename_i i hi
    split at h
    · cases h
    · rename_i m hm
      split at h
      · rename_i f' e hp hfn hu
        cases h
        simp only [method, typeInfo, Sem.run_bind, run_program, Result.andThen_ok, hi, Sem.run_pure, hm, hp, follow, hfn, receiverAt, run_underlying hu, Place.get]
      · cases h
      · rename_i f' d hnp hp hfn hu
        cases h
        simp only [method, typeInfo, Sem.run_bind, run_program, Result.andThen_ok, hi, Sem.run_pure, hm, hp, follow, hfn, receiverAt, run_underlying hu]
        cases d <;> first | (simp [Place.get]; done) | (exact absurd rfl (hnp _))
      · cases h

noncomputable def lInv (P : Program) (S : Nat) (x : Opd) (name : String) (args : List Operand) : LQ := fun s h =>
  match opd x s with
  | .iface t v => match mtO P t name with
    | some f => match opds S s args with
      | some as => cfA P f h (v :: as)
      | none => .bad
    | none => .bad
  | _ => .bad

theorem lInv_ok {P : Program} {S : Nat} {o : Oper} {c : Call} {x : Operand} {name : String} (hc : c.callee = .invoke x name) (ho : o.op = .call c) : ImplL P S o (lInv P S (cOpd S x) name c.args.toList) := by
  intro φ s h a w R hs
  generalize hr : lInv P S (cOpd S x) name c.args.toList s h = r
  unfold lInv at hr
  split at hr
  · rename_i t v hxa
    have hx := opd_ok R hs (o := x) (by rw [hxa]; exact fun e => by cases e)
    rw [hxa] at hx
    obtain ⟨l, h1, e⟩ := conc_iface hx
    split at hr
    · rename_i f hmt
      split at hr
      · rename_i as has
        have h3 := opds_ok R hs _ _ has
        rw [← hr]
        refine cfA_ok R (concs_cons.2 ⟨l, _, h1, h3, rfl⟩) fun r hrun => ?_
        rw [← hrun]
        obtain ⟨k, hk⟩ : ∃ k, P.types.size + Made.depth = k + 1 := ⟨P.types.size + Made.depth - 1, by unfold Made.depth; omega⟩
        have hmr := mtO_run hmt k l w
        simp only [execOp, ho, resolve, hc, e, Sem.run_bind, Sem.run_pure, Result.andThen_ok, invoke]
        simp only [Array.getElem?_append, List.getElem?_toArray]
        simp [callMethod, hk, hmr]
        congr 2
        apply Array.ext'
        have hsz : (c.args.map a.eval).extract 0 c.args.size = c.args.map a.eval := by
          rw [show c.args.size = (c.args.map a.eval).size from by simp]
          exact Array.extract_size
        rw [hsz]
        simp
      · subst hr; trivial
    · subst hr; trivial
  · subst hr; trivial

/- Deferred calls; recover. -/
noncomputable def lDf (S : Nat) (f : Opd) (args : List Operand) : LQ := fun s _ =>
  match opd f s with
  | .func fn first captured => match opds S s args with
    | some as => .dfr fn captured (cat first as)
    | none => .bad
  | _ => .bad

theorem lDf_ok {P : Program} {S : Nat} {o : Oper} {c : Call} {f : Operand} (hc : c.callee = .value f) (ho : o.op = .defer c) : ImplL P S o (lDf S (cOpd S f) c.args.toList) := by
  intro φ s h a w R hs
  generalize hr : lDf S (cOpd S f) c.args.toList s h = r
  unfold lDf at hr
  split at hr
  · rename_i fn first captured hfa
    have hf := opd_ok R hs (o := f) (by rw [hfa]; exact fun e => by cases e)
    rw [hfa] at hf
    obtain ⟨lf, lc, h1, h2, e⟩ := conc_func hf
    split at hr
    · rename_i as has
      have h3 := opds_ok R hs _ _ has
      subst hr
      refine ⟨lc, _, h2, concs_cat h1 h3, ?_⟩
      simp only [execOp, ho, resolve, hc, e, Deferred.ofValue, Sem.run_bind, Sem.run_pure, Result.andThen_ok]
      congr 3
      apply Array.ext'
      simp
    · subst hr; trivial
  · subst hr; trivial

theorem lRc_ok {P : Program} {S : Nat} {o : Oper} {c : Call} (hc : c.callee = .builtin .recover) (ho : o.op = .call c) : ImplL P S o (fun _ _ => .rcv) := by
  intro φ s h a w R hs
  show (execOp a.eval o).run P w = _
  rw [run_call_builtin hc ho]
  rfl

end Go.Abs

/- Pointers seen without a type. -/
namespace Go.Abs
theorem rowAt_mono {P : Program} (fits : TypeId → Bool) : ∀ (d : Nat) (e : TypeId) (count count' off n : Nat), count ≤ count' → rowAt P fits d e count off n = true → rowAt P fits d e count' off n = true := by
  intro d
  cases d with
  | zero => intro e c c' off n _ h; cases h
  | succ d =>
    intro e c c' off n hc h
    simp only [rowAt] at h ⊢
    split at h
    · cases h
    · rename_i hs
      rw [if_neg hs]
      simp only [Bool.or_eq_true, Bool.and_eq_true, decide_eq_true_eq] at h ⊢
      rcases h with ⟨⟨h1, h2⟩, h3⟩ | ⟨h1, h2⟩
      · exact .inl ⟨⟨h1, by omega⟩, h3⟩
      · exact .inr ⟨by omega, h2⟩
theorem liesAt_mono {P : Program} : ∀ (d : Nat) (e : TypeId) (count count' off : Nat) (u : TypeId) (n : Nat), count ≤ count' → liesAt P d e count off u n = true → liesAt P d e count' off u n = true := by
  intro d
  induction d with
  | zero => intro e c c' off u n _ h; cases h
  | succ d ih =>
    intro e c c' off u n hc h
    simp only [liesAt, Bool.or_eq_true] at h ⊢
    rcases h with h | h
    · exact .inl (rowAt_mono _ _ _ _ _ _ _ hc h)
    · right
      split at h
      · exact ih _ _ _ _ _ _ hc h
      · cases h

/- Pointers without a type. -/
inductive UK where
  | no
  | out
  | back (u : TypeId)

def upO (P : Program) (src dst : TypeId) : UK :=
  match P.underlying src, P.underlying dst with
  | some (.pointer t), some .unsafePointer => match P.info? t with
    | some i => match Nat.ble 1 i.size with
      | true => .out
      | false => .no
    | none => .no
  | some .unsafePointer, some (.pointer u) => match P.info? u with
    | some _ => .back u
    | none => .no
  | _, _ => .no

noncomputable def upG (P : Program) (k : UK) (grp : Grp) (v y : Nat) : Bool :=
  match grp with
  | .row _ n lv _ elem _ _ => match Nat.beq v lv, Nat.ble (Nat.succ y) n with
    | true, true => match k with
      | .no => false
      | .out => true
      | .back u => liesAt P P.depth elem (Nat.div n (P.cellsOf elem)) y u 1
    | _, _ => false
  | _ => false

noncomputable def upA (P : Program) (k : UK) (h : Hp) (x : AVal) : AVal :=
  match x with
  | .nilp => match k with
    | .no => .bot
    | _ => .nilp
  | .ptr g v y => match upG P k (h.get g) v y with
    | true => .ptr g v y
    | false => .bot
  | _ => .bot

noncomputable def qUp (P : Program) (src dst : TypeId) (x : Opd) : Q := fun s h => upA P (upO P src dst) h (opd x s)

theorem upG_spec {P : Program} {k : UK} {grp : Grp} {v y : Nat} (h : upG P k grp v y = true) :
    ∃ tr n esz elem flo fhi, grp = .row tr n v esz elem flo fhi ∧ y < n ∧ k ≠ .no ∧ ∀ u, k = .back u → liesAt P P.depth elem (n / P.cellsOf elem) y u 1 = true := by
  unfold upG at h
  split at h
  · rename_i tr n lv esz elem flo fhi
    split at h
    · rename_i h1 h2
      have h1 := Nat.eq_of_beq_eq_true h1
      have h2 : y < n := Nat.le_of_ble_eq_true h2
      subst h1
      refine ⟨tr, n, esz, elem, flo, fhi, rfl, h2, ?_, ?_⟩
      · intro e; subst e; cases h
      · intro u e; subst e; exact h
    · cases h
  · cases h

theorem qUp_ok {P : Program} {S : Nat} {o : Oper} {src dst : TypeId} {x : Operand} (ho : o.op = .convert src dst x) : ImplQ P S o (qUp P src dst (cOpd S x)) := by
  intro φ s h a w R hs hn
  unfold qUp at hn ⊢
  generalize hxa : opd (cOpd S x) s = xa at hn ⊢
  have hx : xa ≠ .bot → conc φ xa = some (a.eval x) := fun e => hxa ▸ opd_ok R hs (hxa ▸ e)
  have key : ∀ cv, (Conv.unsafePointer src dst (a.eval x)).run P w = .ok cv w → upO P src dst ≠ .no → (execOp a.eval o).run P w = .ok (.value cv) w := by
    intro cv hc hno
    simp only [execOp, ho, Sem.run_bind]
    have : (convert src dst (a.eval x)).run P w = (Conv.unsafePointer src dst (a.eval x)).run P w := by
      unfold upO at hno
      split at hno
      · rename_i t h1 h2
        unfold convert
        simp only [Sem.run_bind, run_underlying h1, run_underlying h2, Result.andThen_ok]
      · rename_i u h1 h2
        unfold convert
        simp only [Sem.run_bind, run_underlying h1, run_underlying h2, Result.andThen_ok]
      · exact absurd rfl hno
    rw [this, hc]
    rfl
  unfold upA at hn ⊢
  split at hn
  · have e := hx (fun e => by cases e)
    simp only [conc, Option.some.injEq] at e
    split at hn
    · exact absurd rfl hn
    · rename_i hno
      refine ⟨.pointer none, by simp [conc], key _ ?_ (fun e => hno e)⟩
      rw [← e]
      generalize hk : upO P src dst = k at hno
      unfold upO at hk
      split at hk
      · rename_i t h1 h2
        simp [Conv.unsafePointer, run_underlying h1, run_underlying h2]
      · rename_i u h1 h2
        simp [Conv.unsafePointer, run_underlying h1, run_underlying h2]
      · exact absurd hk.symm hno
  · rename_i g v y
    obtain ⟨i, hi, e⟩ := conc_ptr (hx (fun e => by cases e))
    split at hn
    · rename_i hg
      obtain ⟨tr, n, esz, elem, flo, fhi, h1, h2, h3, h4⟩ := upG_spec hg
      have RR := R.row _ _ _ _ _ _ _ _ h1
      obtain ⟨it, ht1, ht2⟩ := RR.top
      rw [hi] at ht1
      cases ht1
      obtain ⟨c, lo, hi', hb, hcap, _, _⟩ := RR.ver v i hi
      have hz := R.zero _ _ _ hi
      refine ⟨.pointer (some ⟨i.block, i.base + y, none⟩), by simp [conc, hi], key _ ?_ h3⟩
      rw [e]
      have hsh : w.shape? i.block = some (elem, c.size) := by simp [World.shape?, hb]
      generalize hk : upO P src dst = k at h3 h4
      unfold upO at hk
      split at hk
      · rename_i t u1 u2
        split at hk
        · rename_i ie hie
          split at hk
          · rename_i hsz
            have hsz := Nat.le_of_ble_eq_true hsz
            have e1 : ¬ (ie.size = 0) := by omega
            have e2 : ¬ (c.size ≤ i.base + y) := by omega
            simp [Conv.unsafePointer, run_underlying u1, run_underlying u2, Conv.seenAt, viewAt, cellsIn, hsh, sizeOf, typeInfo, hie, e1, e2]
          · exact absurd hk.symm h3
        · exact absurd hk.symm h3
      · rename_i u u1 u2
        split at hk
        · rename_i ie hie
          have hl := liesAt_mono P.depth elem (n / P.cellsOf elem) (c.size / P.cellsOf elem) y u 1 (Nat.div_le_div_right (by omega)) (h4 u hk.symm)
          rw [hz, Nat.zero_add]
          simp [Conv.unsafePointer, run_underlying u1, run_underlying u2, Conv.seenAt, viewAt, hsh, sizeOf, typeInfo, hie, variablesAt, hl]
        · exact absurd hk.symm h3
      · exact absurd hk.symm h3
    · exact absurd rfl hn
  · exact absurd rfl hn

end Go.Abs

/- The bytes of a text, as a new row. -/
namespace Go.Abs

noncomputable def s2bA (e : TypeId) (x : AVal) : NR :=
  match x with
  | .str n m => match Nat.ble n lim with
    | true => .mk (.row (mkTr (bytesL n m)) n 0 1 e n 9223372036854775808) (.s n (.opn 0))
    | false => .bad
  | _ => .bad

noncomputable def nS2b (e : TypeId) (x : Opd) : NQ := fun s => s2bA e (opd x s)

theorem nS2b_ok {P : Program} {S : Nat} {o : Oper} {src dst e : TypeId} {x : Operand} (hs : P.underlying src = some .string) (hd : P.underlying dst = some (.slice e)) (he : P.underlying e = some (.int .u8))
    (ho : o.op = .convert src dst x) : ImplN P S o (nS2b e (cOpd S x)) := by
  intro φ s h a w M grp k R hs' hf
  unfold nS2b s2bA at hf
  split at hf
  · rename_i n m hx
    split at hf
    · rename_i hn
      have hn : n ≤ 1099511627776 := Nat.le_of_ble_eq_true hn
      cases hf
      have c1 := opd_ok R hs' (o := x) (by rw [hx]; exact fun e => by cases e)
      rw [hx] at c1
      obtain ⟨hlt, hev⟩ := conc_str c1
      have hl := bytesL_ok φ n m
      have hsz : (⟨(sbytes n m).toArray⟩ : ByteArray).size = n := sbytes_size n m
      have hcells : byteCells ⟨(sbytes n m).toArray⟩ = (sbytes n m).map fun b => Value.int .u8 b.toNat := by
        simp [byteCells]
      rw [hcells] at hl
      have hlen : (bytesL n m).length = n := by
        have := concs_length hl
        rw [List.length_map, sbytes_length] at this
        exact this.symm
      have hge := grownCap_ge w n 0 e
      have hle := grownCap_le_maxLen w n 0 e (by simp only [maxLen]; omega)
      generalize hgc : grownCap w n 0 e = gc at hge hle
      have hrow : bytesRow ⟨(sbytes n m).toArray⟩ gc = ((sbytes n m).map (fun b => Value.int .u8 b.toNat)).toArray ++ Array.replicate (gc - n) (.int .u8 0) := by
        unfold bytesRow
        rw [hsz]
        simp
      have hrs : (bytesRow ⟨(sbytes n m).toArray⟩ gc).size = gc := by
        rw [hrow]
        simp [sbytes_length]
        omega
      refine ⟨.cells (bytesRow ⟨(sbytes n m).toArray⟩ gc) e (gc, gc + 1), gc, 1, ⟨?_, fun _ _ e => by cases e⟩, (show 0 + n ≤ gc by omega), ?_⟩
      · intro tr n' lv esz elem flo fhi heq
        cases heq
        refine ⟨rfl, hn, by omega, _, _, _, rfl, by omega, ?_, by omega, .inr ⟨hge, by simp only [maxLen] at hle; omega⟩⟩
        intro y b u hy
        have hck := cellAt_mk (l := bytesL n m) (by rw [hlen]; exact hn) y
        rw [hlen] at hck
        rw [hck] at hy
        split at hy
        · rename_i b' hb'
          cases hy
          obtain ⟨v, h1, h2⟩ := concs_get hl y b hb'
          refine ⟨rfl, v, h2, ?_⟩
          rw [hrow, Array.getElem?_append_left (by
            have := (List.getElem?_eq_some_iff.1 h1).1
            simpa using this)]
          simpa using h1
        · cases hy
      · simp only [execOp, ho, hev, Sem.run_bind]
        rw [run_bytes_of_string w src dst e ⟨(sbytes n m).toArray⟩ hs hd he]
        simp only [Result.andThen_ok, Sem.run_pure, hsz, hgc, hrs]
        rfl
    · cases hf
  · cases hf

end Go.Abs

/- Every operation's abstract counterpart. -/
namespace Go.Abs

inductive OK where
  | bad
  | q (mem : Bool) (f : Q)
  | n (f : NQ)
  | l (f : LQ)

def Agr (S : Nat) (o : Oper) (s s' : Sl) : Prop := ∀ x ∈ o.op.operands.toList, opd (cOpd S x) s = opd (cOpd S x) s'

def OKok (P : Program) (S : Nat) (o : Oper) : OK → Prop
  | .bad => True
  | .q mem f => ImplQ P S o f ∧ ∀ s s' h h', Agr S o s s' → (mem = true → h.tr = h'.tr) → f s h = f s' h'
  | .n f => ImplN P S o f ∧ ∀ s s', Agr S o s s' → f s = f s'
  | .l f => ImplL P S o f ∧ ∀ s s' h, Agr S o s s' → f s h = f s' h

theorem opds_congr {S : Nat} {s s' : Sl} : ∀ {xs : List Operand}, (∀ x ∈ xs, opd (cOpd S x) s = opd (cOpd S x) s') → opds S s xs = opds S s' xs := by
  intro xs
  induction xs with
  | nil => intro _; rfl
  | cons x xs ih =>
    intro h
    unfold opds
    rw [h x (by simp), ih (fun y hy => h y (by simp [hy]))]

theorem fillA_congr {S : Nat} {s s' : Sl} (place : Nat → Option (Nat × Nat)) : ∀ (parts : List (Nat × Operand)) (cells : List AVal), (∀ p ∈ parts, opd (cOpd S p.2) s = opd (cOpd S p.2) s') → fillA place s S cells parts = fillA place s' S cells parts := by
  intro parts
  induction parts with
  | nil => intro cells _; rfl
  | cons p parts ih =>
    obtain ⟨i, x⟩ := p
    intro cells h
    unfold fillA
    have e : opd (cOpd S x) s = opd (cOpd S x) s' := h (i, x) (by simp)
    rw [e]
    cases place i with
    | none => rfl
    | some r =>
      obtain ⟨off, size⟩ := r
      dsimp only
      rw [ih _ (fun p hp => h p (by simp [hp]))]

theorem tr_get {h h' : Hp} (e : h.tr = h'.tr) (g : Pth) : h.get g = h'.get g := by rw [Hp.get_eq, Hp.get_eq, e]

noncomputable def ldOK (P : Program) (S : Nat) (t : TypeId) (x : Operand) : OK :=
  match tyI P t with
  | some I => .q true (qLd I (cOpd S x))
  | none => .bad

noncomputable def stOK (P : Program) (S : Nat) (t : TypeId) (x y : Operand) : OK :=
  match tyI P t with
  | some I => .l (lSt I.size (cOpd S x) (cOpd S y))
  | none => .bad

noncomputable def alOK (P : Program) (elem : TypeId) : OK :=
  match P.info? elem with
  | some i => match i.zero with
    | some z => .n (nAlloc elem (toA z))
    | none => .bad
  | none => .bad

noncomputable def cvOK (P : Program) (S : Nat) (t t' : TypeId) (x : Operand) : OK :=
  match P.underlying t, P.underlying t' with
  | some (.slice e), some .string => match P.underlying e with
    | some (.int .u8) => .q true (qB2s (cOpd S x))
    | _ => .bad
  | some .string, some (.slice e) => match P.underlying e with
    | some (.int .u8) => .n (nS2b e (cOpd S x))
    | _ => .bad
  | some (.pointer _), some .unsafePointer => .q true (qUp P t t' (cOpd S x))
  | some .unsafePointer, some (.pointer _) => .q true (qUp P t t' (cOpd S x))
  | _, _ => .q false (qConv P t t' (cOpd S x))

noncomputable def ifOK (P : Program) (S : Nat) (t : TypeId) (x : Operand) : OK :=
  match P.underlying t with
  | some d => match isIfD d with
    | false => .q false (qIface t (cOpd S x))
    | true => .bad
  | none => .bad

noncomputable def msOK (P : Program) (S : Nat) (t : TypeId) (l c : Operand) : OK :=
  match P.underlying t with
  | some (.slice e) => match tyI P e with
    | some I => .n (nMsl P t I.bytes (cOpd S l) (cOpd S c))
    | none => .bad
  | _ => .bad

def nilIfV : Value → Bool
  | .nilIface => true
  | _ => false

noncomputable def taOK (P : Program) (S : Nat) (x : Operand) (t : TypeId) (ok : Bool) : OK :=
  match P.info? t with
  | some i => match isIfD ((P.underlying t).getD .invalid) with
    | false => .q false (qTa P t ok (cOpd S x))
    | true => match i.zero with
      | some z => match nilIfV z with
        | true => .q false (qTa P t ok (cOpd S x))
        | false => .bad
      | none => .bad
  | none => .bad

noncomputable def biOK (P : Program) (S : Nat) (b : Builtin) (args : List Operand) (tys : List TypeId) : OK :=
  match b, args, tys with
  | .len, [x], [t] => match P.underlying t with
    | some d => .q false (qLen d (cOpd S x))
    | none => .bad
  | .cap, [x], [t] => match P.underlying t with
    | some (.slice _) => .q false (qCap (cOpd S x))
    | _ => .bad
  | .max, [x, y], _ => .q false (qMM true (cOpd S x) (cOpd S y))
  | .min, [x, y], _ => .q false (qMM false (cOpd S x) (cOpd S y))
  | .unsafeSliceData, [x], _ => .q false (qSd (cOpd S x))
  | .append, [x, y], [t, tx] => match P.underlying tx with
    | some (.slice _) => .l (lAp P t false (cOpd S x) (cOpd S y))
    | some .string => .l (lAp P t true (cOpd S x) (cOpd S y))
    | _ => .bad
  | .copy, [x, y], [t, _] => .l (lCp P t (cOpd S x) (cOpd S y))
  | .unsafeString, [x, y], pt :: _ => match P.underlying pt with
    | some (.pointer e) => match Nat.beq (P.cellsOf e) 1 with
      | true => .l (lUs e (cOpd S x) (cOpd S y))
      | false => .bad
    | _ => .bad
  | .panic, [x], _ => .l (lPn (cOpd S x))
  | .recover, _, _ => .l (fun _ _ => .rcv)
  | _, _, _ => .bad

noncomputable def opK (P : Program) (S : Nat) (o : Oper) : OK :=
  match o.op with
  | .move x => .q false (qMov (cOpd S x))
  | .assign x => .q false (qMov (cOpd S x))
  | .pick c a b => .q false (qPick (cOpd S c) (cOpd S a) (cOpd S b))
  | .alloc elem => alOK P elem
  | .box elem x => .n (nBox elem (cOpd S x))
  | .build t parts => .q false (qBld P S t parts.toList)
  | .buildSlice t len parts => .n (nBsl P S t len parts.toList)
  | .load t a => ldOK P S t a
  | .store t a x => stOK P S t a x
  | .nilCheck x => .q false (qNil (cOpd S x))
  | .binOp op t x y _ => .q false (qBin P op t (isConstO x || isConstO y) (cOpd S x) (cOpd S y))
  | .unOp op _ x => .q false (qUn op (cOpd S x))
  | .convert t t' x => cvOK P S t t' x
  | .makeInterface t x => ifOK P S t x
  | .makeFunc fn first captured => .q false (qFunc S fn first.toList captured.toList)
  | .makeMap _ none => .n nMap
  | .makeSlice t l c => msOK P S t l c
  | .slice t x lo hi none => .q false (qSl P t (cOpd S x) (lo.map (cOpd S)) (hi.map (cOpd S)))
  | .fieldAddr t x f => .q false (qFa P t f (cOpd S x))
  | .field t x f => .q false (qFld P t f (cOpd S x))
  | .indexAddr t x i => .q false (qIx P t (cOpd S x) (cOpd S i))
  | .index t x i => .q false (qIdx P t (cOpd S x) (cOpd S i))
  | .lookup t x k ok => .q true (qLk P t ok (cOpd S x) (cOpd S k))
  | .mapUpdate t m k v => .l (lMu P t (cOpd S m) (cOpd S k) (cOpd S v))
  | .insert t m k v => .l (lMu P t (cOpd S m) (cOpd S k) (cOpd S v))
  | .typeAssert x _ t ok => taOK P S x t ok
  | .extract x i => .q false (qExt i (cOpd S x))
  | .call c => match c.callee with
    | .builtin b => biOK P S b c.args.toList c.argTypes.toList
    | .value f => .l (lCv P S (cOpd S f) c.args.toList)
    | .invoke x name => .l (lInv P S (cOpd S x) name c.args.toList)
  | .defer c => match c.callee with
    | .value f => .l (lDf S (cOpd S f) c.args.toList)
    | _ => .bad
  | .panic x => .l (lPn (cOpd S x))
  | _ => .bad

theorem ldA_tr {h h' : Hp} (e : h.tr = h'.tr) (I : TI) (x : AVal) : ldA I h x = ldA I h' x := by
  unfold ldA
  split <;> first | rfl | skip
  rw [tr_get e]

theorem upA_tr {P : Program} {k : UK} {h h' : Hp} (e : h.tr = h'.tr) (x : AVal) : upA P k h x = upA P k h' x := by
  unfold upA
  split <;> first | rfl | skip
  rw [tr_get e]

theorem biOK_ok (P : Program) (S : Nat) (o : Oper) (c : Call) (b : Builtin) (ho : o.op = .call c) (hc : c.callee = .builtin b) : OKok P S o (biOK P S b c.args.toList c.argTypes.toList) := by
  have hag : ∀ s s', Agr S o s s' → ∀ x ∈ c.args.toList, opd (cOpd S x) s = opd (cOpd S x) s' := fun s s' h x hx => h x (by
    rw [ho]; simp only [Op.operands, Call.operands, hc]; simpa using hx)
  have ht0 : ∀ t, c.argTypes.toList = [t] → c.argTypes[0]? = some t := fun t h => by
    rw [← Array.getElem?_toList, h]; rfl
  have ht1 : ∀ t r, c.argTypes.toList = t :: r → c.argTypes[0]? = some t := fun t r h => by
    rw [← Array.getElem?_toList, h]; rfl
  generalize hA : c.args.toList = A
  generalize hT : c.argTypes.toList = T
  unfold biOK
  split
  · rename_i x t
    split
    · rename_i d hd
      exact ⟨qLen_ok hc hA (ht0 _ hT) hd ho, fun s s' h h' ha _ => by unfold qLen; rw [hag s s' ha x (by rw [hA]; simp)]⟩
    · trivial
  · rename_i x t
    split
    · rename_i e hd
      exact ⟨qCap_ok hc hA (ht0 _ hT) hd ho, fun s s' h h' ha _ => by unfold qCap; rw [hag s s' ha x (by rw [hA]; simp)]⟩
    · trivial
  · rename_i x y
    exact ⟨qMM_ok (mx := true) hc hA ho, fun s s' h h' ha _ => by unfold qMM; rw [hag s s' ha x (by rw [hA]; simp), hag s s' ha y (by rw [hA]; simp)]⟩
  · rename_i x y
    exact ⟨qMM_ok (mx := false) hc hA ho, fun s s' h h' ha _ => by unfold qMM; rw [hag s s' ha x (by rw [hA]; simp), hag s s' ha y (by rw [hA]; simp)]⟩
  · rename_i x
    exact ⟨qSd_ok hc hA ho, fun s s' h h' ha _ => by unfold qSd; rw [hag s s' ha x (by rw [hA]; simp)]⟩
  · rename_i x y t tx
    split
    · rename_i e he
      exact ⟨lAp_ok hc hA hT (by simpa using ⟨e, he⟩) ho, fun s s' h ha => by unfold lAp; rw [hag s s' ha x (by rw [hA]; simp), hag s s' ha y (by rw [hA]; simp)]⟩
    · rename_i he
      exact ⟨lAp_ok hc hA hT (by simpa using he) ho, fun s s' h ha => by unfold lAp; rw [hag s s' ha x (by rw [hA]; simp), hag s s' ha y (by rw [hA]; simp)]⟩
    · trivial
  · rename_i x y t tx
    exact ⟨lCp_ok hc hA hT ho, fun s s' h ha => by unfold lCp; rw [hag s s' ha x (by rw [hA]; simp), hag s s' ha y (by rw [hA]; simp)]⟩
  · rename_i x y pt r
    split
    · rename_i e he
      split
      · rename_i h1
        exact ⟨lUs_ok hc hA (ht1 _ _ hT) he (Nat.eq_of_beq_eq_true h1) ho, fun s s' h ha => by unfold lUs; rw [hag s s' ha x (by rw [hA]; simp), hag s s' ha y (by rw [hA]; simp)]⟩
      · trivial
    · trivial
  · rename_i x
    exact ⟨lPnB_ok hc hA ho, fun s s' h ha => by unfold lPn; rw [hag s s' ha x (by rw [hA]; simp)]⟩
  · exact ⟨lRc_ok hc ho, fun s s' h ha => rfl⟩
  · trivial

theorem opK_ok (P : Program) (S : Nat) (o : Oper) : OKok P S o (opK P S o) := by
  have hag : ∀ s s', Agr S o s s' → ∀ x ∈ o.op.operands.toList, opd (cOpd S x) s = opd (cOpd S x) s' := fun s s' h => h
  generalize hop : o.op = op
  unfold opK
  rw [hop]
  cases op <;> (try dsimp only) <;> first | trivial | skip
  case move x => exact ⟨qMov_ok (.inl hop), fun s s' h h' ha _ => by unfold qMov; rw [hag s s' ha x (by rw [hop]; simp [Op.operands])]⟩
  case assign x => exact ⟨qMov_ok (.inr hop), fun s s' h h' ha _ => by unfold qMov; rw [hag s s' ha x (by rw [hop]; simp [Op.operands])]⟩
  case pick c x y => exact ⟨qPick_ok hop, fun s s' h h' ha _ => by unfold qPick; rw [hag s s' ha c (by rw [hop]; simp [Op.operands]), hag s s' ha x (by rw [hop]; simp [Op.operands]), hag s s' ha y (by rw [hop]; simp [Op.operands])]⟩
  case alloc elem =>
    unfold alOK
    split
    · rename_i i hi
      split
      · rename_i z hz
        exact ⟨nAlloc_ok hi hz hop, fun s s' ha => rfl⟩
      · trivial
    · trivial
  case box elem x => exact ⟨nBox_ok hop, fun s s' ha => by unfold nBox; rw [hag s s' ha x (by rw [hop]; simp [Op.operands])]⟩
  case build t parts =>
    refine ⟨qBld_ok hop, fun s s' h h' ha _ => ?_⟩
    unfold qBld bldA
    split <;> first | rfl | skip
    split <;> first | rfl | skip
    rw [fillA_congr _ parts.toList _ (fun p hp => hag s s' ha p.2 (by rw [hop]; simp only [Op.operands, List.mem_map]; exact ⟨p, hp, rfl⟩))]
  case buildSlice t len parts =>
    refine ⟨nBsl_ok hop, fun s s' ha => ?_⟩
    unfold nBsl bslA
    split <;> first | rfl | skip
    split <;> first | rfl | skip
    split <;> first | rfl | skip
    split <;> first | rfl | skip
    rw [fillA_congr _ parts.toList _ (fun p hp => hag s s' ha p.2 (by rw [hop]; simp only [Op.operands, List.mem_map]; exact ⟨p, hp, rfl⟩))]
  case load t x =>
    unfold ldOK
    split
    · rename_i I hI
      exact ⟨qLd_ok hI hop, fun s s' h h' ha he => by unfold qLd; rw [hag s s' ha x (by rw [hop]; simp [Op.operands]), ldA_tr (he rfl)]⟩
    · trivial
  case store t x y =>
    unfold stOK
    split
    · rename_i I hI
      exact ⟨lSt_ok hI hop, fun s s' h ha => by unfold lSt; rw [hag s s' ha x (by rw [hop]; simp [Op.operands]), hag s s' ha y (by rw [hop]; simp [Op.operands])]⟩
    · trivial
  case nilCheck x => exact ⟨qNil_ok hop, fun s s' h h' ha _ => by unfold qNil; rw [hag s s' ha x (by rw [hop]; simp [Op.operands])]⟩
  case binOp op t x y t' => exact ⟨qBin_ok hop, fun s s' h h' ha _ => by unfold qBin; rw [hag s s' ha x (by rw [hop]; simp [Op.operands]), hag s s' ha y (by rw [hop]; simp [Op.operands])]⟩
  case unOp op t x => exact ⟨qUn_ok hop, fun s s' h h' ha _ => by unfold qUn; rw [hag s s' ha x (by rw [hop]; simp [Op.operands])]⟩
  case convert t t' x =>
    unfold cvOK
    split
    · rename_i e h1 h2
      split
      · rename_i h3
        refine ⟨qB2s_ok h1 h2 h3 hop, fun s s' h h' ha he => ?_⟩
        unfold qB2s b2sA
        rw [hag s s' ha x (by rw [hop]; simp [Op.operands])]
        split <;> first | rfl | skip
        rw [tr_get (he rfl)]
      · trivial
    · rename_i e h1 h2
      split
      · rename_i h3
        refine ⟨nS2b_ok h1 h2 h3 hop, fun s s' ha => ?_⟩
        unfold nS2b
        rw [hag s s' ha x (by rw [hop]; simp [Op.operands])]
      · trivial
    · exact ⟨qUp_ok hop, fun s s' h h' ha he => by unfold qUp; rw [hag s s' ha x (by rw [hop]; simp [Op.operands]), upA_tr (he rfl)]⟩
    · exact ⟨qUp_ok hop, fun s s' h h' ha he => by unfold qUp; rw [hag s s' ha x (by rw [hop]; simp [Op.operands]), upA_tr (he rfl)]⟩
    · exact ⟨qConv_ok hop, fun s s' h h' ha _ => by unfold qConv; rw [hag s s' ha x (by rw [hop]; simp [Op.operands])]⟩
  case makeInterface t x =>
    unfold ifOK
    split
    · rename_i d hd
      split
      · rename_i h1
        exact ⟨qIface_ok hd h1 hop, fun s s' h h' ha _ => by unfold qIface; rw [hag s s' ha x (by rw [hop]; simp [Op.operands])]⟩
      · trivial
    · trivial
  case makeFunc fn first captured =>
    refine ⟨qFunc_ok hop, fun s s' h h' ha _ => ?_⟩
    unfold qFunc
    rw [opds_congr (fun y hy => hag s s' ha y (by rw [hop]; simp [Op.operands]; exact .inl (by simpa using hy))),
      opds_congr (xs := captured.toList) (fun y hy => hag s s' ha y (by rw [hop]; simp [Op.operands]; exact .inr (by simpa using hy)))]
  case makeMap t r =>
    cases r with
    | none => exact ⟨nMap_ok hop, fun s s' ha => rfl⟩
    | some _ => trivial
  case makeSlice t l c =>
    unfold msOK
    split
    · rename_i e hu
      split
      · rename_i I hI
        exact ⟨nMsl_ok hu hI hop, fun s s' ha => by unfold nMsl; rw [hag s s' ha l (by rw [hop]; simp [Op.operands]), hag s s' ha c (by rw [hop]; simp [Op.operands])]⟩
      · trivial
    · trivial
  case slice t x lo hi mx =>
    cases mx with
    | some _ => trivial
    | none =>
      refine ⟨qSl_ok hop, fun s s' h h' ha _ => ?_⟩
      unfold qSl
      rw [hag s s' ha x (by rw [hop]; simp [Op.operands])]
      have e1 : opdO (lo.map (cOpd S)) s = opdO (lo.map (cOpd S)) s' := by
        cases lo with
        | none => rfl
        | some y => exact congrArg some (hag s s' ha y (by rw [hop]; simp [Op.operands]))
      have e2 : opdO (hi.map (cOpd S)) s = opdO (hi.map (cOpd S)) s' := by
        cases hi with
        | none => rfl
        | some y => exact congrArg some (hag s s' ha y (by rw [hop]; simp [Op.operands]))
      rw [e1, e2]
  case fieldAddr t x f => exact ⟨qFa_ok hop, fun s s' h h' ha _ => by unfold qFa; rw [hag s s' ha x (by rw [hop]; simp [Op.operands])]⟩
  case field t x f => exact ⟨qFld_ok hop, fun s s' h h' ha _ => by unfold qFld; rw [hag s s' ha x (by rw [hop]; simp [Op.operands])]⟩
  case indexAddr t x y => exact ⟨qIx_ok hop, fun s s' h h' ha _ => by unfold qIx; rw [hag s s' ha x (by rw [hop]; simp [Op.operands]), hag s s' ha y (by rw [hop]; simp [Op.operands])]⟩
  case index t x y => exact ⟨qIdx_ok hop, fun s s' h h' ha _ => by unfold qIdx; rw [hag s s' ha x (by rw [hop]; simp [Op.operands]), hag s s' ha y (by rw [hop]; simp [Op.operands])]⟩
  case lookup t x y ok =>
    refine ⟨qLk_ok hop, fun s s' h h' ha he => ?_⟩
    unfold qLk lkA
    rw [hag s s' ha x (by rw [hop]; simp [Op.operands]), hag s s' ha y (by rw [hop]; simp [Op.operands])]
    split <;> first | rfl | skip
    split <;> first | rfl | skip
    split <;> first | rfl | skip
    rw [tr_get (he rfl)]
  case mapUpdate t m k v => exact ⟨lMu_ok (.inl hop), fun s s' h ha => by unfold lMu; rw [hag s s' ha m (by rw [hop]; simp [Op.operands]), hag s s' ha k (by rw [hop]; simp [Op.operands]), hag s s' ha v (by rw [hop]; simp [Op.operands])]⟩
  case insert t m k v => exact ⟨lMu_ok (.inr hop), fun s s' h ha => by unfold lMu; rw [hag s s' ha m (by rw [hop]; simp [Op.operands]), hag s s' ha k (by rw [hop]; simp [Op.operands]), hag s s' ha v (by rw [hop]; simp [Op.operands])]⟩
  case typeAssert x xt t ok =>
    unfold taOK
    have hl : ∀ s s' (h h' : Hp), Agr S o s s' → qTa P t ok (cOpd S x) s h = qTa P t ok (cOpd S x) s' h' := fun s s' h h' ha => by unfold qTa; rw [hag s s' ha x (by rw [hop]; simp [Op.operands])]
    split
    · rename_i i hi
      split
      · rename_i h1
        exact ⟨qTa_ok hi (fun e => by rw [e] at h1; cases h1) hop, fun s s' h h' ha _ => hl s s' h h' ha⟩
      · split
        · rename_i z hz
          split
          · rename_i h2
            refine ⟨qTa_ok hi (fun _ => ?_) hop, fun s s' h h' ha _ => hl s s' h h' ha⟩
            rw [hz]
            cases z <;> first | rfl | (cases h2; done)
          · trivial
        · trivial
    · trivial
  case extract x i => exact ⟨qExt_ok hop, fun s s' h h' ha _ => by unfold qExt; rw [hag s s' ha x (by rw [hop]; simp [Op.operands])]⟩
  case call c =>
    split
    · rename_i b hb
      exact biOK_ok P S o c b hop hb
    · rename_i f hc
      refine ⟨lCv_ok hc hop, fun s s' h ha => ?_⟩
      unfold lCv
      rw [hag s s' ha f (by rw [hop]; simp [Op.operands, Call.operands, hc]), opds_congr (fun y hy => hag s s' ha y (by rw [hop]; simp [Op.operands, Call.operands, hc]; exact .inr (by simpa using hy)))]
    · rename_i x name hc
      refine ⟨lInv_ok hc hop, fun s s' h ha => ?_⟩
      unfold lInv
      rw [hag s s' ha x (by rw [hop]; simp [Op.operands, Call.operands, hc]), opds_congr (fun y hy => hag s s' ha y (by rw [hop]; simp [Op.operands, Call.operands, hc]; exact .inr (by simpa using hy)))]
  case defer c =>
    split
    · rename_i f hc
      refine ⟨lDf_ok hc hop, fun s s' h ha => ?_⟩
      unfold lDf
      rw [hag s s' ha f (by rw [hop]; simp [Op.operands, Call.operands, hc]), opds_congr (fun y hy => hag s s' ha y (by rw [hop]; simp [Op.operands, Call.operands, hc]; exact .inr (by simpa using hy)))]
    · trivial
  case panic x => exact ⟨lPn_ok hop, fun s s' h ha => by unfold lPn; rw [hag s s' ha x (by rw [hop]; simp [Op.operands])]⟩

end Go.Abs

/- One operation; a region in its own order. -/
namespace Go.Abs

structure ADef where
  fn : Fn
  cap : List AVal
  args : List AVal

structure APan where
  v : AVal
  rcd : Bool

inductive CR where
  | bad
  | ret (v : AVal) (h : Hp)
  | pan (ch : List APan) (h : Hp)

inductive ER where
  | bad
  | nrm (s : Sl) (d : List ADef) (h : Hp)
  | ext (id : Nat) (s : Sl) (d : List ADef) (h : Hp)
  | ret (s : Sl) (d : List ADef) (h : Hp)
  | pan (ch : List APan) (s : Sl) (d : List ADef) (h : Hp)

inductive SO where
  | bad
  | ok (v : AVal) (d : List ADef) (h : Hp)
  | pan (ch : List APan) (h : Hp)
  | rcv

abbrev Cal := FuncId → List AVal → Hp → CR

def DR (φ : Env) : List ADef → List Deferred → Prop
  | [], ds => ds = []
  | d :: l, ds => ∃ c as rest, ds = { target := .fn d.fn c.toArray, args := as.toArray } :: rest ∧ concs φ d.cap = some c ∧ concs φ d.args = some as ∧ DR φ l rest

theorem DR.mono {φ φ' : Env} (hle : φ.le φ') : ∀ {l : List ADef} {ds : List Deferred}, DR φ l ds → DR φ' l ds := by
  intro l
  induction l with
  | nil => intro ds h; exact h
  | cons d l ih =>
    rintro ds ⟨c, as, rest, h1, h2, h3, h4⟩
    exact ⟨c, as, rest, h1, concs_mono hle _ _ h2, concs_mono hle _ _ h3, ih h4⟩

def PR (φ : Env) : List APan → List PanicEntry → Prop
  | [], ps => ps = []
  | p :: l, ps => ∃ c rest, ps = { v := c, recovered := p.rcd } :: rest ∧ conc φ p.v = some c ∧ PR φ l rest

theorem PR.mono {φ φ' : Env} (hle : φ.le φ') : ∀ {l : List APan} {ds : List PanicEntry}, PR φ l ds → PR φ' l ds := by
  intro l
  induction l with
  | nil => intro ds h; exact h
  | cons d l ih =>
    rintro ds ⟨c, rest, h1, h2, h4⟩
    exact ⟨c, rest, h1, conc_mono hle _ _ h2, ih h4⟩

structure St (S N : Nat) (φ : Env) (s : Sl) (d : List ADef) (h : Hp) (a : Act) (w : World) : Prop where
  rel : Rel S φ h w.heap
  sl : SR φ s a.tmps
  df : DR φ d a.defers
  sz : a.tmps.size = N

structure Fw (S : Nat) (φ : Env) (h : Hp) (w : World) (φ' : Env) (h' : Hp) (w' : World) : Prop where
  ext : Ext S φ h w.heap φ' h' w'.heap
  wk : Wk w w'

theorem Fw.refl (S : Nat) (φ : Env) (h : Hp) (w : World) : Fw S φ h w φ h w := ⟨Ext.refl _ _ _ _, Wk.refl w⟩
theorem Fw.trans {S : Nat} {φ φ1 φ2 : Env} {h h1 h2 : Hp} {w w1 w2 : World} (R : Rel S φ h w.heap) (a : Fw S φ h w φ1 h1 w1) (b : Fw S φ1 h1 w1 φ2 h2 w2) : Fw S φ h w φ2 h2 w2 :=
  ⟨a.ext.trans R b.ext, a.wk.trans b.wk⟩

def CRok (S : Nat) (φ : Env) (h : Hp) (w : World) (r : CR) (e : Ending) (w' : World) : Prop :=
  match r, e with
  | .ret v h', .returned cv => ∃ φ', conc φ' v = some cv ∧ Rel S φ' h' w'.heap ∧ Fw S φ h w φ' h' w'
  | .pan ch h', .panicked chain => ∃ φ', PR φ' ch chain ∧ Rel S φ' h' w'.heap ∧ Fw S φ h w φ' h' w'
  | _, _ => False

def ERok (S N : Nat) (φ : Env) (h : Hp) (w : World) (r : ER) (e : Exit) (a' : Act) (w' : World) : Prop :=
  match r, e with
  | .nrm s d h', .normal => ∃ φ', St S N φ' s d h' a' w' ∧ Fw S φ h w φ' h' w'
  | .ext id s d h', .exit id' => id' = id ∧ ∃ φ', St S N φ' s d h' a' w' ∧ Fw S φ h w φ' h' w'
  | .ret s d h', .ret => ∃ φ', St S N φ' s d h' a' w' ∧ Fw S φ h w φ' h' w'
  | .pan ch s d h', .panic chain => ∃ φ', PR φ' ch chain ∧ St S N φ' s d h' a' w' ∧ Fw S φ h w φ' h' w'
  | _, _ => False

theorem ERok.trans {S N : Nat} {φ φ1 : Env} {h h1 : Hp} {w w1 : World} (R : Rel S φ h w.heap) (F : Fw S φ h w φ1 h1 w1) {r : ER} {e : Exit} {a' : Act} {w' : World} (H : ERok S N φ1 h1 w1 r e a' w') : ERok S N φ h w r e a' w' := by
  cases r <;> cases e <;> first
    | exact H.elim
    | (obtain ⟨φ', h3, h4⟩ := H; exact ⟨φ', h3, F.trans R h4⟩)
    | (obtain ⟨h0, φ', h3, h4⟩ := H; exact ⟨h0, φ', h3, F.trans R h4⟩)
    | (obtain ⟨φ', h0, h3, h4⟩ := H; exact ⟨φ', h0, h3, F.trans R h4⟩)

def CalOk (P : Program) (S : Nat) (cal : Cal) : Prop :=
  ∀ f args h r, cal f args h = r → r ≠ .bad → ∀ φ w cargs, Rel S φ h w.heap → concs φ args = some cargs → Calls P f cargs.toArray w (CRok S φ h w r)

def undefA : AVal := .tuple []
theorem conc_undefA (φ : Env) : conc φ undefA = some undef := by simp [undefA, conc, concs]; rfl

/-- One operation. -/
noncomputable def doO (cal : Cal) (k : OK) (s : Sl) (d : List ADef) (h : Hp) : SO :=
  OK.rec (motive := fun _ => SO) .bad
    (fun _ f => Bool.rec (motive := fun _ => SO) (.ok (f s h) d h) .bad (isBot (f s h)))
    (fun f => NR.rec (motive := fun _ => SO) .bad (fun grp k => .ok (mkA k h.nx) d (h.add grp)) (f s))
    (fun f => LR.rec (motive := fun _ => SO) .bad (fun x h' => .ok x d h') (fun h' => .ok undefA d h')
      (fun g as => CR.rec (motive := fun _ => SO) .bad (fun v h' => .ok v d h') (fun ch h' => .pan ch h') (cal g as h))
      (fun x => .pan [⟨x, false⟩] h) (fun fn cap as => .ok undefA (⟨fn, cap, as⟩ :: d) h) .rcv (f s h)) k

/-- What an operation comes to. -/
def SOpost (S : Nat) (φ : Env) (h : Hp) (w : World) (a : Act) (dst : Option Tmp) (next : Act → World → Prop) (Q : Exit → Act → World → Prop) (r : SO) : Prop :=
  match r with
  | .ok v d h' => ∀ φ' w' cv ds, Rel S φ' h' w'.heap → Fw S φ h w φ' h' w' → conc φ' v = some cv → DR φ' d ds → next ({ a with defers := ds }.put dst cv) w'
  | .pan ch h' => ∀ φ' w' chain, Rel S φ' h' w'.heap → Fw S φ h w φ' h' w' → PR φ' ch chain → Q (.panic chain) a w'
  | _ => False

theorem doO_ok {P : Program} {S : Nat} {cal : Cal} (hcal : CalOk P S cal) {o : Oper} {φ : Env} {s : Sl} {d : List ADef} {h : Hp} {a : Act} {w : World} (R : Rel S φ h w.heap) (hs : SR φ s a.tmps) (hd : DR φ d a.defers)
    {next : Act → World → Prop} {Q : Exit → Act → World → Prop} (hp : SOpost S φ h w a o.dst next Q (doO cal (opK P S o) s d h)) : o.wp P a w next Q := by
  have hok := opK_ok P S o
  generalize opK P S o = k at hok hp
  cases k with
  | bad => exact hp.elim
  | q mem f =>
    have hp : SOpost S φ h w a o.dst next Q (Bool.rec (motive := fun _ => SO) (.ok (f s h) d h) .bad (isBot (f s h))) := hp
    cases hb : isBot (f s h) with
    | true => rw [hb] at hp; exact hp.elim
    | false =>
      rw [hb] at hp
      obtain ⟨cv, h1, h2⟩ := hok.1 φ s h a w R hs (isBot_false hb)
      unfold Oper.wp
      rw [h2]
      exact hp φ w cv a.defers R (Fw.refl _ _ _ _) h1 hd
  | n f =>
    have hp : SOpost S φ h w a o.dst next Q (NR.rec (motive := fun _ => SO) .bad (fun grp k => .ok (mkA k h.nx) d (h.add grp)) (f s)) := hp
    cases hf : f s with
    | bad => rw [hf] at hp; exact hp.elim
    | mk grp k =>
      rw [hf] at hp
      obtain ⟨obj, capE, dr, h1, h2, h3⟩ := hok.1 φ s h a w w.heap grp k R hs hf
      unfold Oper.wp
      rw [h3]
      obtain ⟨h4, h5⟩ := Rel.alloc R obj grp capE h1.row h1.map
      exact hp _ _ _ a.defers h4 ⟨h5, ⟨rfl, rfl, rfl⟩⟩ (conc_mkA (Env.upd_same _ _ _ _) h2) (hd.mono h5.le)
  | l f =>
    have hp : SOpost S φ h w a o.dst next Q (LR.rec (motive := fun _ => SO) .bad (fun x h' => .ok x d h') (fun h' => .ok undefA d h')
      (fun g as => CR.rec (motive := fun _ => SO) .bad (fun v h' => .ok v d h') (fun ch h' => .pan ch h') (cal g as h))
      (fun x => .pan [⟨x, false⟩] h) (fun fn cap as => .ok undefA (⟨fn, cap, as⟩ :: d) h) .rcv (f s h)) := hp
    have hl := hok.1 φ s h a w R hs
    unfold Oper.wp
    generalize f s h = r at hp hl
    cases r with
    | bad => exact hp.elim
    | val x h' =>
      obtain ⟨φ', w', cv, h1, h2, h3, h4, h5⟩ := hl
      rw [h1]
      exact hp φ' w' cv a.defers h3 ⟨h4, h5⟩ h2 (hd.mono h4.le)
    | skp h' =>
      obtain ⟨φ', w', h1, h3, h4, h5⟩ := hl
      rw [h1]
      exact hp φ' w' undef a.defers h3 ⟨h4, h5⟩ (conc_undefA _) (hd.mono h4.le)
    | call g as =>
      obtain ⟨cargs, h1, h2⟩ := hl
      rw [h2]
      have hp : SOpost S φ h w a o.dst next Q (CR.rec (motive := fun _ => SO) .bad (fun v h' => .ok v d h') (fun ch h' => .pan ch h') (cal g as h)) := hp
      cases hc : cal g as h with
      | bad => rw [hc] at hp; exact hp.elim
      | ret v h' =>
        rw [hc] at hp
        refine (hcal g as h _ hc (fun e => by cases e) φ w cargs R h1).mono fun e w' he => ?_
        cases e with
        | returned cv =>
          obtain ⟨φ', h3, h4, h5⟩ := he
          exact hp φ' w' cv a.defers h4 h5 h3 (hd.mono h5.ext.le)
        | panicked _ => exact he.elim
        | outgrown => exact he.elim
      | pan ch h' =>
        rw [hc] at hp
        refine (hcal g as h _ hc (fun e => by cases e) φ w cargs R h1).mono fun e w' he => ?_
        cases e with
        | returned cv => exact he.elim
        | panicked chain =>
          obtain ⟨φ', h3, h4, h5⟩ := he
          exact hp φ' w' chain h4 h5 h3
        | outgrown => exact he.elim
    | pan x =>
      obtain ⟨cx, h1, h2⟩ := hl
      rw [h2]
      exact hp φ w _ R (Fw.refl _ _ _ _) ⟨cx, [], rfl, h1, rfl⟩
    | dfr fn cap as =>
      obtain ⟨ccap, cargs, h1, h2, h3⟩ := hl
      rw [h3]
      have := hp φ w undef ({ target := .fn fn ccap.toArray, args := cargs.toArray } :: a.defers) R (Fw.refl _ _ _ _) (conc_undefA _) ⟨ccap, cargs, a.defers, rfl, h1, h2, hd⟩
      exact this
    | rcv => exact hp.elim

/- Guards. -/
inductive GK where
  | always
  | never
  | slot (p : Nat) (want : Bool)

noncomputable def gK (ops : Array Oper) (o : Oper) : GK :=
  match o.guard with
  | none => .always
  | some (j, want) => match (ops[j]?).bind (·.dst) with
    | none => .never
    | some t => .slot t want

inductive W3 where
  | yes
  | no
  | bad

def beqB (a b : Bool) : Bool :=
  match a with
  | true => b
  | false => match b with
    | true => false
    | false => true

def w3 (x : AVal) (want : Bool) : W3 :=
  match x with
  | .bot => .bad
  | .bool b => match beqB b want with
    | true => .yes
    | false => .no
  | _ => .no

noncomputable def gdA (k : GK) (s : Sl) : W3 :=
  GK.rec (motive := fun _ => W3) .yes .no (fun p want => w3 (sget p s) want) k

def boolV : Value → Option Bool
  | .bool b => some b
  | _ => none

theorem conc_bool_inv {φ : Env} {x : AVal} {b : Bool} (h : conc φ x = some (.bool b)) : x = .bool b := by
  cases x <;> first
    | (simp only [conc, Option.some.injEq, Value.bool.injEq] at h; subst h; rfl)
    | (simp [conc] at h; done)
    | (obtain ⟨_, h⟩ := conc_str h; cases h)
    | (obtain ⟨_, _, h⟩ := conc_ptr h; cases h)
    | (obtain ⟨_, _, _, h⟩ := conc_slice h; cases h)
    | (obtain ⟨_, _, _, h⟩ := conc_slc0 h; cases h)
    | (obtain ⟨_, _, h⟩ := conc_map h; cases h)
    | (obtain ⟨_, _, _, _, h⟩ := conc_func h; cases h)
    | (obtain ⟨_, _, h⟩ := conc_iface h; cases h)
    | (obtain ⟨_, _, h⟩ := conc_agg h; cases h)
    | (obtain ⟨_, _, h⟩ := conc_tuple h; cases h)

theorem gdA_ok {φ : Env} {s : Sl} {tmps : Array Value} (hs : SR φ s tmps) {ops : Array Oper} {o : Oper} :
    (gdA (gK ops o) s = .yes → Region.wanted o (yielded ops tmps) = true) ∧ (gdA (gK ops o) s = .no → Region.wanted o (yielded ops tmps) = false) := by
  unfold gK Region.wanted
  cases hg : o.guard with
  | none => exact ⟨fun _ => rfl, fun h => by cases h⟩
  | some jw =>
    obtain ⟨j, want⟩ := jw
    dsimp only
    cases hd : (ops[j]?).bind (·.dst) with
    | none => exact ⟨fun h => (by cases h), fun _ => by simp [yielded, hd]⟩
    | some t =>
      dsimp only
      show (w3 (sget t s) want = .yes → _) ∧ (w3 (sget t s) want = .no → _)
      by_cases hb : sget t s = .bot
      · rw [hb]; exact ⟨fun h => (by cases h), fun h => by cases h⟩
      · obtain ⟨cv, h1, h2⟩ := hs t hb
        have hy : yielded ops tmps j = boolV cv := by
          unfold yielded
          rw [hd]
          simp only [Option.bind_some, h2]
          cases cv <;> rfl
        rw [hy]
        generalize sget t s = x at hb h1
        cases x with
        | bot => exact absurd rfl hb
        | bool b =>
          simp only [conc, Option.some.injEq] at h1
          subst h1
          cases b <;> cases want <;> simp [w3, beqB, boolV]
        | _ =>
          refine ⟨fun h => (by cases h), fun _ => ?_⟩
          cases cv with
          | bool b => exact absurd (conc_bool_inv h1) (fun e => by cases e)
          | _ => rfl

/- Strict writing of a slot. -/
noncomputable def setK {ρ : Type} (x : AVal) (n : Nat) (s : Sl) (k : Sl → ρ) : ρ := Sl.rec (motive := fun _ => ρ) (fun l t m w => k (.mk (.c n x l) t m (Nat.lor w (Nat.pow 2 n)))) s

theorem setK_eq {ρ : Type} (x : AVal) (n : Nat) (s : Sl) (k : Sl → ρ) : setK x n s k = k (sset n x s) := by cases s; rfl

inductive DK where
  | none
  | to (p : Nat)

noncomputable def dK (N : Nat) (o : Oper) : DK :=
  match o.dst with
  | none => .none
  | some t => match Nat.ble (Nat.succ t) N with
    | true => .to t
    | false => .none

noncomputable def putS {ρ : Type} (k : DK) (x : AVal) (s : Sl) (next : Sl → ρ) : ρ :=
  DK.rec (motive := fun _ => ρ) (next s) (fun p => setK x p s next) k

/-- The slots behind an operation. -/
noncomputable def putT (k : DK) (x : AVal) (s : Sl) : Sl := putS k x s fun s => s

theorem putS_eq {ρ : Type} (k : DK) (x : AVal) (s : Sl) (next : Sl → ρ) : putS k x s next = next (putT k x s) := by
  cases k with
  | none => rfl
  | to p => show setK x p s next = next (setK x p s fun s => s); rw [setK_eq, setK_eq]

theorem putT_ok {φ : Env} {N : Nat} {o : Oper} {s : Sl} {a : Act} {x : AVal} {cv : Value} (hs : SR φ s a.tmps) (hN : a.tmps.size = N) (hx : conc φ x = some cv) :
    SR φ (putT (dK N o) x s) (a.put o.dst cv).tmps ∧ (a.put o.dst cv).tmps.size = N := by
  unfold dK
  cases hd : o.dst with
  | none => exact ⟨hs, hN⟩
  | some t =>
    dsimp only
    cases hb : Nat.ble (Nat.succ t) N with
    | true =>
      have hlt : t < N := Nat.le_of_ble_eq_true hb
      refine ⟨?_, by simp [Act.put, hN]⟩
      show SR φ (setK x t s fun s => s) _
      rw [setK_eq]
      exact hs.set (n := t) hx (by rw [hN]; exact hlt)
    | false =>
      have hge : ¬ t < N := fun h => by rw [ble_of h] at hb; cases hb
      have e : (a.put (some t) cv).tmps = a.tmps := by
        simp only [Act.put]
        apply Array.ext'
        simp only [Array.toList_setIfInBounds]
        exact List.set_eq_of_length_le (by rw [Array.length_toList, hN]; exact Nat.le_of_not_lt hge)
      rw [e]
      exact ⟨hs, hN⟩

/- A region, in its own order. -/
noncomputable def seqR (P : Program) (S N : Nat) (cal : Cal) (ops : Array Oper) (l : List Oper) : Sl → List ADef → Hp → ER :=
  List.rec (motive := fun _ => Sl → List ADef → Hp → ER) (fun s d h => .nrm s d h)
    (fun o _ ih s d h => W3.rec (motive := fun _ => ER)
      (SO.rec (motive := fun _ => ER) .bad (fun v d' h' => putS (dK N o) v s fun s' => ih s' d' h') (fun ch h' => .pan ch s d h') .bad (doO cal (opK P S o) s d h))
      (putS (dK N o) undefA s fun s' => ih s' d h)
      .bad (gdA (gK ops o) s)) l

theorem seqR_ok {P : Program} {S N : Nat} {cal : Cal} (hcal : CalOk P S cal) {ops : Array Oper} : ∀ (k : Nat) (l : List Oper), ops.toList.drop k = l → ∀ (s : Sl) (d : List ADef) (h : Hp) (r : ER), seqR P S N cal ops l s d h = r → r ≠ .bad →
    ∀ (φ : Env) (a : Act) (w : World) (Q : Exit → Act → World → Prop), (∀ e a' w', ERok S N φ h w r e a' w' → Q e a' w') → St S N φ s d h a w → wpOps P ops Q ((List.range ops.size).drop k) a w := by
  intro k l
  induction l generalizing k with
  | nil =>
    intro hk s d h r hr hn φ a w Q hQ st
    have hge : ops.size ≤ k := by
      have := List.drop_eq_nil_iff.1 hk
      simpa using this
    rw [List.drop_eq_nil_of_le (by simpa using hge)]
    cases hr
    exact hQ _ _ _ ⟨φ, st, Fw.refl _ _ _ _⟩
  | cons o l ih =>
    intro hk s d h r hr hn φ a w Q hQ st
    have hlt : k < ops.size := by
      have : k < ops.toList.length := by
        refine Nat.lt_of_not_le fun hge => ?_
        rw [List.drop_eq_nil_of_le hge] at hk
        cases hk
      simpa using this
    have ho : ops[k]? = some o := by
      rw [← Array.getElem?_toList, ← List.head?_drop, hk]
      rfl
    have hk' : ops.toList.drop (k + 1) = l := by
      rw [← List.tail_drop, hk]
      rfl
    have hdr : (List.range ops.size).drop k = k :: (List.range ops.size).drop (k + 1) := by
      rw [List.drop_eq_getElem_cons (by simpa using hlt)]
      simp
    rw [hdr]
    simp only [wpOps, ho]
    have hr : W3.rec (motive := fun _ => ER)
      (SO.rec (motive := fun _ => ER) .bad (fun v d' h' => putS (dK N o) v s fun s' => seqR P S N cal ops l s' d' h') (fun ch h' => .pan ch s d h') .bad (doO cal (opK P S o) s d h))
      (putS (dK N o) undefA s fun s' => seqR P S N cal ops l s' d h)
      .bad (gdA (gK ops o) s) = r := hr
    have hgd := gdA_ok (ops := ops) (o := o) st.sl
    cases hg : gdA (gK ops o) s with
    | bad => rw [hg] at hr; exact absurd hr.symm hn
    | no =>
      rw [hg] at hr
      rw [hgd.2 hg]
      simp only [Bool.false_eq_true, if_false]
      have hr : putS (dK N o) undefA s (fun s' => seqR P S N cal ops l s' d h) = r := hr
      rw [putS_eq] at hr
      obtain ⟨h1, h2⟩ := putT_ok (o := o) st.sl st.sz (conc_undefA φ)
      refine ih (k + 1) hk' _ _ _ _ hr hn φ _ w Q hQ ⟨st.rel, h1, ?_, h2⟩
      have : (a.put o.dst undef).defers = a.defers := by unfold Act.put; split <;> rfl
      rw [this]
      exact st.df
    | yes =>
      rw [hg] at hr
      rw [hgd.1 hg]
      simp only [if_true]
      left
      refine doO_ok hcal st.rel st.sl st.df ?_
      have hr : SO.rec (motive := fun _ => ER) .bad (fun v d' h' => putS (dK N o) v s fun s' => seqR P S N cal ops l s' d' h') (fun ch h' => .pan ch s d h') .bad (doO cal (opK P S o) s d h) = r := hr
      generalize doO cal (opK P S o) s d h = so at hr
      cases so with
      | bad => exact absurd hr.symm hn
      | rcv => exact absurd hr.symm hn
      | pan ch h' =>
        have hr : ER.pan ch s d h' = r := hr
        intro φ' w' chain R' F' hp
        subst hr
        exact hQ _ _ _ ⟨φ', hp, ⟨R', st.sl.mono F'.ext.le, st.df.mono F'.ext.le, st.sz⟩, F'⟩
      | ok v d' h' =>
        have hr : putS (dK N o) v s (fun s' => seqR P S N cal ops l s' d' h') = r := hr
        rw [putS_eq] at hr
        intro φ' w' cv ds R' F' hv hds
        obtain ⟨h1, h2⟩ := putT_ok (o := o) (a := { a with defers := ds }) (st.sl.mono F'.ext.le) st.sz hv
        have hdf : ({ a with defers := ds }.put o.dst cv).defers = ds := by unfold Act.put; split <;> rfl
        exact ih (k + 1) hk' _ _ _ _ hr hn φ' _ w' Q (fun e a' w'' he => hQ _ _ _ (ERok.trans st.rel F' he)) ⟨R', h1, by rw [hdf]; exact hds, h2⟩

/-- What was written last is laid where it stays; then the region. -/
noncomputable def regR (P : Program) (S N : Nat) (cal : Cal) (ops : Array Oper) (s : Sl) (d : List ADef) (h : Hp) : ER := flush s fun s => seqR P S N cal ops ops.toList s d h

theorem St.fl {S N : Nat} {φ : Env} {s : Sl} {d : List ADef} {h : Hp} {a : Act} {w : World} (st : St S N φ s d h a w) : St S N φ (flS s) d h a w := ⟨st.rel, st.sl.fl, st.df, st.sz⟩

end Go.Abs
