/- A verified run of the program over an abstract memory, part 2 of 5: what the run tells is what every run of the program does. No condition. -/
import Derived.Test.YtdoafpliifhbaaaGreatDoorE1
import Derived.Laws.Tables
import Derived.Great.BuildSlice
import Derived.Laws.MakeOwn
import Derived.Deep.AppendSrc
import Derived.Lib.UnsafeStr

/- Cutting slices and texts; loads; look-ups; built-in functions that change nothing. -/
namespace Go.Abs

/- Bounds. -/
def bndA (o : Option AVal) (d mx : Nat) : Option Nat :=
  match o with
  | none => some d
  | some (.int _ (.ofNat j)) => match Nat.ble j mx with
    | true => some j
    | false => none
  | _ => none

theorem bndA_le {o : Option AVal} {d mx n : Nat} (h : bndA o d mx = some n) (hd : d ≤ mx) : n ≤ mx := by
  unfold bndA at h
  split at h
  · cases h; exact hd
  · split at h
    · rename_i hb; cases h; exact Nat.le_of_ble_eq_true hb
    · cases h
  · cases h

theorem bnd_run {P : Program} {φ : Env} {v : AVal} {cv : Value} {d mx n y : Nat} (h : bndA (some v) d mx = some n) (hv : conc φ v = some cv) (hy : mx ≤ y) (code : BoundsCode) (w : World) :
    (Instr.sliceBound cv y code).run P w = .ok n w := by
  unfold bndA at h
  split at h
  · rename_i e; cases e
  · rename_i k j e
    split at h
    · rename_i hb
      have hb := Nat.le_of_ble_eq_true hb
      cases e
      cases h
      simp only [conc, Option.some.injEq] at hv
      subst hv
      simp only [Instr.sliceBound, asIntOf, Sem.run_bind, Sem.run_pure, Result.andThen_ok]
      rw [if_pos ⟨by simp, by simp only [Int.ofNat_eq_natCast]; omega⟩]
      simp
    · cases h
  · cases h

inductive SlK where
  | no
  | str
  | sl (size : Nat)
  | ar (len size : Nat)

def slO (P : Program) (t : TypeId) : SlK :=
  match P.underlying t with
  | some .string => .str
  | some (.slice e) => match tyI P e with
    | some I => .sl I.size
    | none => .no
  | some (.array n e) => match tyI P e with
    | some I => .ar n I.size
    | none => .no
  | _ => .no

def slA (o : SlK) (x : AVal) (lo hi : Option AVal) : AVal :=
  match o, x with
  | .str, .str n m => match bndA hi n n with
    | none => .bot
    | some b => match bndA lo 0 b with
      | none => .bot
      | some a => .str (Nat.sub b a) (Nat.mod (Nat.div m (Nat.pow 256 a)) (Nat.pow 256 (Nat.sub b a)))
  | .sl size, .slice g v k len (.exact c) => match bndA hi len c with
    | none => .bot
    | some b => match bndA lo 0 b with
      | none => .bot
      | some a => match Nat.beq a c with
        | true => .slice g v k (Nat.sub b a) (.exact 0)
        | false => .slice g v (Nat.add k (Nat.mul a size)) (Nat.sub b a) (.exact (Nat.sub c a))
  | .sl size, .slice g v k len (.opn q) => match bndA hi len len with
    | none => .bot
    | some b => match bndA lo 0 b with
      | none => .bot
      | some a => match Nat.beq a len with
        | true => .slc0 g v k (Nat.add k (Nat.mul a size)) (Nat.add q a)
        | false => .slice g v (Nat.add k (Nat.mul a size)) (Nat.sub b a) (.opn (Nat.add q a))
  | .sl _, .nils => match bndA hi 0 0 with
    | none => .bot
    | some b => match bndA lo 0 b with
      | none => .bot
      | some _ => .nils
  | .sl _, .slc0 g v k y q => match bndA hi 0 0 with
    | none => .bot
    | some b => match bndA lo 0 b with
      | none => .bot
      | some _ => .slc0 g v k y q
  | .ar n size, .ptr g v k => match bndA hi n n with
    | none => .bot
    | some b => match bndA lo 0 b with
      | none => .bot
      | some a => match Nat.beq a n with
        | true => .slice g v k (Nat.sub b a) (.exact 0)
        | false => .slice g v (Nat.add k (Nat.mul a size)) (Nat.sub b a) (.exact (Nat.sub n a))
  | _, _ => .bot

noncomputable def opdO (x : Option Opd) (s : Sl) : Option AVal :=
  match x with
  | none => none
  | some x => some (opd x s)

noncomputable def qSl (P : Program) (t : TypeId) (x : Opd) (lo hi : Option Opd) : Q := fun s _ => slA (slO P t) (opd x s) (opdO lo s) (opdO hi s)

theorem slBounds_run {P : Program} {S : Nat} {φ : Env} {h : Hp} {M : Mem} {s : Sl} {ac : Act} (R : Rel S φ h M) (hs : SR φ s ac.tmps) {lo hi : Option Operand} {d mx a b : Nat} {isS : Bool} {len cap : Nat}
    (hb : bndA (opdO (hi.map (cOpd S)) s) d mx = some b) (ha : bndA (opdO (lo.map (cOpd S)) s) 0 b = some a) (hd : d = len) (hmx : mx ≤ cap) (w : World) :
    (Instr.sliceBounds isS len cap (lo.map ac.eval) (hi.map ac.eval) none).run P w = .ok (a, b, cap) w := by
  have h1 : ∀ x, hi = some x → ∀ code, (Instr.sliceBound (ac.eval x) cap code).run P w = .ok b w := by
    intro x e code
    subst e
    refine bnd_run hb (opd_ok R hs ?_) hmx code w
    intro e
    simp only [Option.map_some, opdO] at hb
    rw [e] at hb
    cases hb
  have h2 : ∀ x, lo = some x → ∀ code, (Instr.sliceBound (ac.eval x) b code).run P w = .ok a w := by
    intro x e code
    subst e
    refine bnd_run ha (opd_ok R hs ?_) (Nat.le_refl _) code w
    intro e
    simp only [Option.map_some, opdO] at ha
    rw [e] at ha
    cases ha
  subst hd
  cases hi with
  | none =>
    simp only [Option.map_none, opdO, bndA, Option.some.injEq] at hb
    subst hb
    cases lo with
    | none =>
      simp only [Option.map_none, opdO, bndA, Option.some.injEq] at ha
      subst ha
      simp [Instr.sliceBounds]
    | some y => simp [Instr.sliceBounds, h2 y rfl]
  | some x =>
    cases lo with
    | none =>
      simp only [Option.map_none, opdO, bndA, Option.some.injEq] at ha
      subst ha
      simp [Instr.sliceBounds, h1 x rfl]
    | some y => simp [Instr.sliceBounds, h1 x rfl, h2 y rfl]

theorem slO_str {P : Program} {t : TypeId} (h : slO P t = .str) : P.underlying t = some .string := by
  unfold slO at h
  split at h
  · assumption
  · split at h <;> cases h
  · split at h <;> cases h
  · cases h
theorem slO_sl {P : Program} {t : TypeId} {n : Nat} (h : slO P t = .sl n) : ∃ e I, P.underlying t = some (.slice e) ∧ tyI P e = some I ∧ I.size = n := by
  unfold slO at h
  split at h
  · cases h
  · split at h
    · rename_i I hI; cases h; exact ⟨_, I, by assumption, hI, rfl⟩
    · cases h
  · split at h <;> cases h
  · cases h
theorem slO_ar {P : Program} {t : TypeId} {m n : Nat} (h : slO P t = .ar m n) : ∃ e I, P.underlying t = some (.array m e) ∧ tyI P e = some I ∧ I.size = n := by
  unfold slO at h
  split at h
  · cases h
  · split at h <;> cases h
  · split at h
    · rename_i I hI; cases h; exact ⟨_, I, by assumption, hI, rfl⟩
    · cases h
  · cases h

theorem qSl_ok {P : Program} {S : Nat} {o : Oper} {t : TypeId} {x : Operand} {lo hi : Option Operand} (ho : o.op = .slice t x lo hi none) :
    ImplQ P S o (qSl P t (cOpd S x) (lo.map (cOpd S)) (hi.map (cOpd S))) := by
  intro φ s h a w R hs hn
  unfold qSl at hn ⊢
  generalize hOk : slO P t = ok at hn ⊢
  generalize hxa : opd (cOpd S x) s = xa at hn ⊢
  have hx : xa ≠ .bot → conc φ xa = some (a.eval x) := fun e => hxa ▸ opd_ok R hs (hxa ▸ e)
  unfold slA at hn ⊢
  split at hn
  · rename_i n m
    have hu := slO_str hOk
    obtain ⟨hm, e⟩ := conc_str (hx (fun e => by cases e))
    split at hn
    · exact absurd rfl hn
    · rename_i b hb
      split at hn
      · exact absurd rfl hn
      · rename_i k hk
        have hbn : b ≤ n := bndA_le hb (Nat.le_refl _)
        have hkb : k ≤ b := bndA_le hk (Nat.zero_le _)
        have hsz : (⟨(sbytes n m).toArray⟩ : ByteArray).size = n := by simp [ByteArray.size, sbytes_length]
        refine ⟨.string ⟨(sbytes (b - k) (m / 256 ^ k % 256 ^ (b - k))).toArray⟩, ?_, ?_⟩
        · simp only [conc]
          exact if_pos (Nat.mod_lt _ (Nat.pow_pos (by decide)))
        · have hrun := slBounds_run (P := P) (isS := false) (len := n) (cap := n) R hs hb hk rfl (Nat.le_refl _) w
          simp only [execOp, ho, Instr.sliceAt, Sem.run_bind, run_underlying hu, Result.andThen_ok, Instr.slice, e, Option.map_none, Option.isSome_none, Bool.false_eq_true, if_false, hsz, hrun, Sem.run_pure]
          congr 3
          apply ByteArray.ext
          rw [ByteArray.data_extract]
          show (sbytes n m).toArray.extract k b = (sbytes (b - k) (m / 256 ^ k % 256 ^ (b - k))).toArray
          rw [sbytes_mod, List.extract_toArray, List.extract_eq_take_drop, sbytes_drop _ _ _ (by omega), sbytes_take _ _ _ (by omega)]
  · rename_i size g v k len c
    obtain ⟨el, I, hu, hI, rfl⟩ := slO_sl hOk
    have hcx := hx (fun e => by cases e)
    obtain ⟨i, hi, hlc, e⟩ := conc_slice hcx
    simp only [capOf] at e
    have hlc := hlc
    unfold capOk at hlc
    dsimp only at hlc
    split at hn
    · exact absurd rfl hn
    · rename_i b hb
      split at hn
      · exact absurd rfl hn
      · rename_i l hl
        have hbn : b ≤ c := bndA_le hb hlc
        have hlb : l ≤ b := bndA_le hl (Nat.zero_le _)
        have hrun := slBounds_run (P := P) (isS := true) (len := len) (cap := c) R hs hb hl rfl (Nat.le_refl _) w
        split at hn
        · rename_i hq
          obtain rfl := Nat.eq_of_beq_eq_true hq
          refine ⟨.slice (some ⟨i.block, i.base + k, none⟩) (b - l) 0, conc_slice_mk hi (show b - l ≤ 0 by omega), ?_⟩
          simp only [execOp, ho, Instr.sliceAt, Sem.run_bind, run_underlying hu, Result.andThen_ok, Instr.slice, e, Option.map_none, hrun, run_sizeOf' hI, Sem.run_pure, if_true]
          simp
        · rename_i hq
          have hq : c ≠ l := fun e => by rw [e, Nat.beq_refl] at hq; cases hq
          refine ⟨.slice (some ⟨i.block, i.base + (k + l * I.size), none⟩) (b - l) (c - l), conc_slice_mk hi (show b - l ≤ c - l by omega), ?_⟩
          simp only [execOp, ho, Instr.sliceAt, Sem.run_bind, run_underlying hu, Result.andThen_ok, Instr.slice, e, Option.map_none, hrun, run_sizeOf' hI, Sem.run_pure, if_neg hq]
          simp [addr_add, Nat.add_assoc]
  · rename_i size g v k len q
    obtain ⟨el, I, hu, hI, rfl⟩ := slO_sl hOk
    have hcx := hx (fun e => by cases e)
    obtain ⟨i, hi, hlc, e⟩ := conc_slice hcx
    simp only [capOf] at e
    have hlc := hlc
    unfold capOk at hlc
    dsimp only at hlc
    split at hn
    · exact absurd rfl hn
    · rename_i b hb
      split at hn
      · exact absurd rfl hn
      · rename_i l hl
        have hbn : b ≤ len := bndA_le hb (Nat.le_refl _)
        have hlb : l ≤ b := bndA_le hl (Nat.zero_le _)
        have hrun := slBounds_run (P := P) (isS := true) (len := len) (cap := i.capE - q) R hs hb hl rfl (show len ≤ i.capE - q by omega) w
        split at hn
        · rename_i hq
          obtain rfl := Nat.eq_of_beq_eq_true hq
          obtain rfl : b = l := by omega
          by_cases hce : i.capE = q + b
          · have hc2 : i.capE - q = b := by omega
            refine ⟨.slice (some ⟨i.block, i.base + k, none⟩) 0 0, ?_, ?_⟩
            · refine (conc_slc0_mk hi (show q + b ≤ i.capE by omega)).trans ?_
              rw [if_pos hce, hce, Nat.sub_self]
            · simp only [execOp, ho, Instr.sliceAt, Sem.run_bind, run_underlying hu, Result.andThen_ok, Instr.slice, e, Option.map_none, hrun, run_sizeOf' hI, Sem.run_pure, if_pos hc2]
              simp [hc2]
          · have hc2 : ¬ i.capE - q = b := by omega
            refine ⟨.slice (some ⟨i.block, i.base + (k + b * I.size), none⟩) 0 (i.capE - q - b), ?_, ?_⟩
            · refine (conc_slc0_mk hi (show q + b ≤ i.capE by omega)).trans ?_
              rw [if_neg hce, ← Nat.sub_sub]
              rfl
            · simp only [execOp, ho, Instr.sliceAt, Sem.run_bind, run_underlying hu, Result.andThen_ok, Instr.slice, e, Option.map_none, hrun, run_sizeOf' hI, Sem.run_pure, if_neg hc2]
              simp [addr_add, Nat.add_assoc]
        · rename_i hq
          have hq : l ≠ len := fun e => by rw [e, Nat.beq_refl] at hq; cases hq
          have hc2 : ¬ i.capE - q = l := by omega
          refine ⟨.slice (some ⟨i.block, i.base + (k + l * I.size), none⟩) (b - l) (i.capE - q - l), ?_, ?_⟩
          · refine (conc_slice_mk (n := Nat.sub b l) (k := .opn (Nat.add q l)) hi (show q + l + (b - l) ≤ i.capE by omega)).trans ?_
            simp only [capOf]
            rw [show i.capE - Nat.add q l = i.capE - q - l from (Nat.sub_sub _ _ _).symm]
            rfl
          · simp only [execOp, ho, Instr.sliceAt, Sem.run_bind, run_underlying hu, Result.andThen_ok, Instr.slice, e, Option.map_none, hrun, run_sizeOf' hI, Sem.run_pure, if_neg hc2]
            simp [addr_add, Nat.add_assoc]
  · rename_i size
    obtain ⟨el, I, hu, hI, rfl⟩ := slO_sl hOk
    have hcx := hx (fun e => by cases e)
    have e := hcx
    simp only [conc, Option.some.injEq] at e
    split at hn
    · exact absurd rfl hn
    · rename_i b hb
      split at hn
      · exact absurd rfl hn
      · rename_i l hl
        have hb0 : b ≤ 0 := bndA_le hb (Nat.le_refl _)
        obtain rfl : b = 0 := by omega
        have hl0 : l ≤ 0 := bndA_le hl (Nat.le_refl _)
        obtain rfl : l = 0 := by omega
        have hrun := slBounds_run (P := P) (isS := true) (len := 0) (cap := 0) R hs hb hl rfl (Nat.le_refl _) w
        refine ⟨.slice none 0 0, by simp only [conc], ?_⟩
        simp only [execOp, ho, Instr.sliceAt, Sem.run_bind, run_underlying hu, Result.andThen_ok, Instr.slice, ← e, Option.map_none, hrun, run_sizeOf' hI, Sem.run_pure, if_true, Nat.sub_self]
  · rename_i size g v k y q
    obtain ⟨el, I, hu, hI, rfl⟩ := slO_sl hOk
    have hcx := hx (fun e => by cases e)
    obtain ⟨i, hi, hlc, e⟩ := conc_slc0 hcx
    split at hn
    · exact absurd rfl hn
    · rename_i b hb
      split at hn
      · exact absurd rfl hn
      · rename_i l hl
        have hb0 : b ≤ 0 := bndA_le hb (Nat.le_refl _)
        obtain rfl : b = 0 := by omega
        have hl0 : l ≤ 0 := bndA_le hl (Nat.le_refl _)
        obtain rfl : l = 0 := by omega
        have hrun := slBounds_run (P := P) (isS := true) (len := 0) (cap := i.capE - q) R hs hb hl rfl (Nat.zero_le _) w
        refine ⟨_, hcx, ?_⟩
        simp only [execOp, ho, Instr.sliceAt, Sem.run_bind, run_underlying hu, Result.andThen_ok, Instr.slice, e, Option.map_none, hrun, run_sizeOf' hI, Sem.run_pure, Nat.sub_self, Nat.zero_mul, Nat.sub_zero, Option.map_some, addr_add, Nat.add_zero, ite_self]
  · rename_i n size g v k
    obtain ⟨el, I, hu, hI, rfl⟩ := slO_ar hOk
    have hcx := hx (fun e => by cases e)
    obtain ⟨i, hi, e⟩ := conc_ptr hcx
    split at hn
    · exact absurd rfl hn
    · rename_i b hb
      split at hn
      · exact absurd rfl hn
      · rename_i l hl
        have hbn : b ≤ n := bndA_le hb (Nat.le_refl _)
        have hlb : l ≤ b := bndA_le hl (Nat.zero_le _)
        have hrun := slBounds_run (P := P) (isS := false) (len := n) (cap := n) R hs hb hl rfl (Nat.le_refl _) w
        split at hn
        · rename_i hq
          obtain rfl := Nat.eq_of_beq_eq_true hq
          refine ⟨.slice (some ⟨i.block, i.base + k, none⟩) (b - l) 0, conc_slice_mk hi (show b - l ≤ 0 by omega), ?_⟩
          simp only [execOp, ho, Instr.sliceAt, Sem.run_bind, run_underlying hu, Result.andThen_ok, e, Instr.sureAddr, Option.map_none, hrun, run_sizeOf' hI, Sem.run_pure, if_true]
          simp
        · rename_i hq
          have hq : n ≠ l := fun e => by rw [e, Nat.beq_refl] at hq; cases hq
          refine ⟨.slice (some ⟨i.block, i.base + (k + l * I.size), none⟩) (b - l) (n - l), conc_slice_mk hi (show b - l ≤ n - l by omega), ?_⟩
          simp only [execOp, ho, Instr.sliceAt, Sem.run_bind, run_underlying hu, Result.andThen_ok, e, Instr.sureAddr, Option.map_none, hrun, run_sizeOf' hI, Sem.run_pure, if_neg hq]
          simp [addr_add, Nat.add_assoc]
  · exact absurd rfl hn

end Go.Abs

/- Loads, texts out of bytes, look-ups, built-in functions, assertions. -/
namespace Go.Abs

/- One cell. -/
noncomputable def clA (v : Nat) (c : Cl) : AVal :=
  match c with
  | .no => .bot
  | .c u a => match Nat.ble u v with
    | true => a
    | false => .bot

noncomputable def ld1 (grp : Grp) (v x : Nat) : AVal :=
  match grp with
  | .row tr n _ _ _ _ _ => match Nat.ble (Nat.succ x) n with
    | true => clA v (getC (pthD x) tr)
    | false => .bot
  | _ => .bot

theorem ld1_spec {grp : Grp} {v x : Nat} (h : ld1 grp v x ≠ .bot) : ∃ tr n lv esz elem flo fhi u, grp = .row tr n lv esz elem flo fhi ∧ cellAt tr n x = some (ld1 grp v x, u) ∧ u ≤ v := by
  unfold ld1 at h ⊢
  split at h
  · rename_i tr n lv esz elem flo fhi
    split at h
    · rename_i hb
      have hb' := Nat.le_of_ble_eq_true hb
      rw [getC_eq] at h ⊢
      unfold clA at h ⊢
      split at h
      · exact absurd rfl h
      · rename_i u a he
        split at h
        · rename_i hu
          refine ⟨tr, n, lv, esz, elem, flo, fhi, u, rfl, ?_, Nat.le_of_ble_eq_true hu⟩
          unfold cellAt
          rw [if_pos (show x < n from hb'), he]
        · exact absurd rfl h
    · exact absurd rfl h
  · exact absurd rfl h

theorem ld1_ok {S : Nat} {φ : Env} {h : Hp} {w : World} (R : Rel S φ h w.heap) {g : Pth} {v x : Nat} (hn : ld1 (h.get g) v x ≠ .bot) {i : VI} (hi : φ g v = some i) :
    ∃ cv, conc φ (ld1 (h.get g) v x) = some cv ∧ w.cell? ⟨i.block, i.base + x, none⟩ = some cv := by
  obtain ⟨tr, n, lv, esz, elem, flo, fhi, u, hg, hx, hu⟩ := ld1_spec hn
  exact R.load hg hx hu hi

noncomputable def ldL (grp : Grp) (v : Nat) (k : Nat) : Nat → Option (List AVal) :=
  Nat.rec (motive := fun _ => Nat → Option (List AVal)) (fun _ => some [])
    (fun _ ih x => match isBot (ld1 grp v x) with
      | true => none
      | false => match ih (Nat.succ x) with
        | none => none
        | some l => some (ld1 grp v x :: l)) k

theorem ldL_succ (grp : Grp) (v k x : Nat) : ldL grp v (k + 1) x = match isBot (ld1 grp v x) with
      | true => none
      | false => match ldL grp v k (x + 1) with
        | none => none
        | some l => some (ld1 grp v x :: l) := rfl

theorem ldL_ok {S : Nat} {φ : Env} {h : Hp} {w : World} (R : Rel S φ h w.heap) {g : Pth} {v : Nat} {i : VI} (hi : φ g v = some i) :
    ∀ (k x : Nat) (l : List AVal), ldL (h.get g) v k x = some l → l.length = k ∧ ∃ cs, concs φ l = some cs ∧ ∀ j c, cs[j]? = some c → w.cell? ⟨i.block, i.base + x + j, none⟩ = some c := by
  intro k
  induction k with
  | zero =>
    intro x l hl
    cases hl
    exact ⟨rfl, [], by simp [concs], fun j c hc => by simp at hc⟩
  | succ k ih =>
    intro x l hl
    rw [ldL_succ] at hl
    split at hl
    · cases hl
    · rename_i hb
      split at hl
      · cases hl
      · rename_i l' hl'
        cases hl
        obtain ⟨cv, h1, h2⟩ := ld1_ok R (isBot_false hb) hi
        obtain ⟨h3, cs, h4, h5⟩ := ih (x + 1) l' hl'
        refine ⟨by simp [h3], cv :: cs, concs_cons.2 ⟨cv, cs, h1, h4, rfl⟩, fun j c hc => ?_⟩
        cases j with
        | zero => simp at hc; subst hc; exact h2
        | succ j =>
          simp at hc
          have := h5 j c hc
          rw [show i.base + x + (j + 1) = i.base + (x + 1) + j from by omega]
          exact this

noncomputable def ldA (I : TI) (h : Hp) (x : AVal) : AVal :=
  match x with
  | .ptr g v k => match I.ag with
    | false => ld1 (h.get g) v k
    | true => match ldL (h.get g) v I.size k with
      | some l => .agg l
      | none => .bot
  | _ => .bot

noncomputable def qLd (I : TI) (x : Opd) : Q := fun s h => ldA I h (opd x s)

theorem loadVar_ok {P : Program} {S : Nat} {φ : Env} {h : Hp} {w : World} (R : Rel S φ h w.heap) {t : TypeId} {I : TI} (hI : tyI P t = some I) {x : AVal} {cx : Value} (hx : conc φ x = some cx) (hn : ldA I h x ≠ .bot) :
    ∃ cv ad, conc φ (ldA I h x) = some cv ∧ cx = .pointer (some ad) ∧ (loadVar t ad).run P w = .ok cv w := by
  unfold ldA at hn ⊢
  split at hn
  · rename_i g v k
    obtain ⟨i, hi, e2⟩ := conc_ptr hx
    cases ha : I.ag with
    | false =>
      simp only [ha] at hn ⊢
      obtain ⟨cv, h1, h2⟩ := ld1_ok R hn hi
      refine ⟨cv, _, h1, e2, ?_⟩
      simp only [loadVar, Sem.run_bind, run_isAgg hI, Result.andThen_ok, ha, Bool.false_eq_true, if_false, run_load, h2]
    | true =>
      simp only [ha] at hn ⊢
      cases hl : ldL (h.get g) v I.size k with
      | none => rw [hl] at hn; exact absurd rfl hn
      | some l =>
        obtain ⟨h3, cs, h4, h5⟩ := ldL_ok R hi _ _ _ hl
        have hlen : cs.length = I.size := by rw [concs_length h4, h3]
        refine ⟨.agg cs.toArray, _, by simp [conc, h4], e2, ?_⟩
        simp only [loadVar, Sem.run_bind, run_isAgg hI, Result.andThen_ok, ha, if_true, run_sizeOf' hI]
        rw [← hlen, run_loadCells_list w _ cs (fun j c hc => by rw [addr_add]; exact h5 j c hc)]
        rfl
  · exact absurd rfl hn

theorem ldA_bot (I : TI) (h : Hp) : ldA I h .bot = .bot := rfl

theorem qLd_ok {P : Program} {S : Nat} {o : Oper} {t : TypeId} {I : TI} (hI : tyI P t = some I) {x : Operand} (ho : o.op = .load t x) : ImplQ P S o (qLd I (cOpd S x)) := by
  intro φ s h a w R hs hn
  unfold qLd at hn ⊢
  have hx := opd_ok R hs (o := x) (fun e => hn (by rw [e]; rfl))
  obtain ⟨cv, ad, h1, h2, h3⟩ := loadVar_ok R hI hx hn
  refine ⟨cv, h1, ?_⟩
  simp only [execOp, ho, h2, Sem.run_bind, Instr.loadAt, Instr.sureAddr, Sem.run_pure, Result.andThen_ok, h3]

/- A text out of bytes. -/
def strOf : List AVal → Option (Nat × Nat)
  | [] => some (0, 0)
  | .int .u8 (.ofNat b) :: l => match Nat.ble b 255, strOf l with
    | true, some (n, m) => some (Nat.succ n, Nat.add b (Nat.mul 256 m))
    | _, _ => none
  | _ => none

theorem strOf_spec : ∀ {l : List AVal} {n m : Nat}, strOf l = some (n, m) → ∃ bs : List UInt8, bs.length = n ∧ natOf bs = m ∧ ∀ φ, concs φ l = some (bs.map fun b => .int .u8 b.toNat) := by
  intro l
  induction l with
  | nil => intro n m h; cases h; exact ⟨[], rfl, rfl, fun φ => by simp [concs]⟩
  | cons a l ih =>
    intro n m h
    unfold strOf at h
    split at h
    · rename_i e; cases e
    · rename_i b l' e
      cases e
      split at h
      · rename_i n' m' hb hs
        have hb := Nat.le_of_ble_eq_true hb
        cases h
        obtain ⟨bs, h1, h2, h3⟩ := ih hs
        have hbt : (UInt8.ofNat b).toNat = b := by simp; omega
        refine ⟨UInt8.ofNat b :: bs, by simp [h1], by show (UInt8.ofNat b).toNat + 256 * natOf bs = _; rw [hbt, h2]; rfl, fun φ => ?_⟩
        refine concs_cons.2 ⟨_, _, conc_int φ _ _, h3 φ, ?_⟩
        simp only [List.map_cons, hbt]
        rfl
      · cases h
    · cases h

noncomputable def b2sA (h : Hp) (x : AVal) : AVal :=
  match x with
  | .nils => .str 0 0
  | .slc0 _ _ _ _ _ => .str 0 0
  | .slice g v k len _ => match ldL (h.get g) v len k with
    | none => .bot
    | some l => match strOf l with
      | some (n, m) => .str n m
      | none => .bot
  | _ => .bot

noncomputable def qB2s (x : Opd) : Q := fun s h => b2sA h (opd x s)

theorem b2s_loop {P : Program} (bs : List UInt8) (w : World) (acc : ByteArray) :
    ((forIn (bs.map fun b => Value.int .u8 b.toNat) acc fun c (s : ByteArray) => (do
      let .int .u8 n := c | stuck "bytesToString: byte expected"
      pure (.yield (s.push (UInt8.ofNat n.toNat))) : Sem (ForInStep ByteArray))).run P w) = .ok ⟨(acc.data.toList ++ bs).toArray⟩ w := by
  induction bs generalizing acc with
  | nil => simp
  | cons b bs ih =>
    simp only [List.map_cons, List.forIn_cons, Sem.run_bind, Sem.run_pure, Result.andThen_ok]
    rw [ih]
    congr 1
    simp

theorem qB2s_ok {P : Program} {S : Nat} {o : Oper} {t t' e : TypeId} {x : Operand} (h1 : P.underlying t = some (.slice e)) (h2 : P.underlying t' = some .string) (h3 : P.underlying e = some (.int .u8))
    (ho : o.op = .convert t t' x) : ImplQ P S o (qB2s (cOpd S x)) := by
  intro φ s h a w R hs hn
  unfold qB2s at hn ⊢
  generalize hxa : opd (cOpd S x) s = xa at hn ⊢
  have hx : xa ≠ .bot → conc φ xa = some (a.eval x) := fun e => hxa ▸ opd_ok R hs (hxa ▸ e)
  have hrun : ∀ cx : Value, (convert t t' cx).run P w = match cx with
      | .slice _ _ _ => (Conv.bytesToString cx).run P w
      | _ => (convert t t' cx).run P w := by
    intro cx
    cases cx <;> first | rfl | simp [convert, run_underlying h1, run_underlying h2, run_underlying h3]
  unfold b2sA at hn ⊢
  split at hn
  · have e := hx (fun e => by cases e)
    simp only [conc, Option.some.injEq] at e
    refine ⟨.string ⟨(sbytes 0 0).toArray⟩, by simp [conc], ?_⟩
    simp only [execOp, ho, ← e, Sem.run_bind]
    rw [hrun]
    simp [Conv.bytesToString, sbytes]
    rfl
  · rename_i g v k y q
    obtain ⟨i, hi, _, e⟩ := conc_slc0 (hx (fun e => by cases e))
    refine ⟨.string ⟨(sbytes 0 0).toArray⟩, by simp [conc], ?_⟩
    simp only [execOp, ho, e, Sem.run_bind]
    rw [hrun]
    simp [Conv.bytesToString, sbytes, loadCells, loadCellsFrom]
    rfl
  · rename_i g v k len c
    obtain ⟨i, hi, _, e⟩ := conc_slice (hx (fun e => by cases e))
    split at hn
    · exact absurd rfl hn
    · rename_i l hl
      split at hn
      · rename_i n m hs2
        obtain ⟨h4, cs, h5, h6⟩ := ldL_ok R hi _ _ _ hl
        obtain ⟨bs, h7, h8, h9⟩ := strOf_spec hs2
        have h10 := h9 φ
        rw [h5] at h10
        cases h10
        have hlen : (bs.map fun b => Value.int .u8 (b.toNat : Int)).length = len := by rw [concs_length h5, h4]
        refine ⟨.string ⟨bs.toArray⟩, ?_, ?_⟩
        · simp only [conc, ← h7, ← h8]
          rw [if_pos (natOf_lt bs), sbytes_natOf]
        · simp only [execOp, ho, e, Sem.run_bind]
          rw [hrun]
          simp only [Conv.bytesToString, Sem.run_bind]
          rw [← hlen, run_loadCells_list w _ _ (fun j c hc => by rw [addr_add]; exact h6 j c hc)]
          simp only [Result.andThen_ok]
          have := b2s_loop (P := P) bs w .empty
          rw [← Array.forIn_toList]
          simp only [] at this ⊢
          erw [this]
          simp
      · exact absurd rfl hn
  · exact absurd rfl hn

/- Built-in functions that change nothing. -/
theorem sbytes_size (n m : Nat) : (⟨(sbytes n m).toArray⟩ : ByteArray).size = n := by
  show (sbytes n m).toArray.size = n
  simp [sbytes_length]

def lenA (d : TypeDesc) (x : AVal) : AVal :=
  match d, x with
  | .string, .str n _ => .int .i64 (.ofNat n)
  | .slice _, .nils => .int .i64 (.ofNat 0)
  | .slice _, .slice _ _ _ n _ => .int .i64 (.ofNat n)
  | .slice _, .slc0 _ _ _ _ _ => .int .i64 (.ofNat 0)
  | .array n _, .bot => .bot
  | .array n _, _ => .int .i64 (.ofNat n)
  | _, _ => .bot

noncomputable def qLen (d : TypeDesc) (x : Opd) : Q := fun s _ => lenA d (opd x s)

theorem run_call_builtin {P : Program} {o : Oper} {c : Call} {b : Builtin} (hc : c.callee = .builtin b) (ho : o.op = .call c) (ρ : Operand → Value) (w : World) :
    (execOp ρ o).run P w = (builtin b c.argTypes o.type (c.args.map fun | .const _ => true | _ => false) (c.args.map ρ)).run P w := by
  simp only [execOp, ho, resolve, hc, Sem.run_bind, Sem.run_pure, Result.andThen_ok, invoke]
  rfl

theorem args1 {c : Call} {x : Operand} (ha : c.args.toList = [x]) (ρ : Operand → Value) : c.args.map ρ = #[ρ x] := by apply Array.ext'; simp [ha]
theorem args2 {c : Call} {x y : Operand} (ha : c.args.toList = [x, y]) (ρ : Operand → Value) : c.args.map ρ = #[ρ x, ρ y] := by apply Array.ext'; simp [ha]

theorem qLen_ok {P : Program} {S : Nat} {o : Oper} {c : Call} {x : Operand} {t : TypeId} {d : TypeDesc} (hc : c.callee = .builtin .len) (ha : c.args.toList = [x]) (ht : c.argTypes[0]? = some t)
    (hd : P.underlying t = some d) (ho : o.op = .call c) : ImplQ P S o (qLen d (cOpd S x)) := by
  intro φ s h a w R hs hn
  unfold qLen at hn ⊢
  generalize hxa : opd (cOpd S x) s = xa at hn ⊢
  have hx : xa ≠ .bot → conc φ xa = some (a.eval x) := fun e => hxa ▸ opd_ok R hs (hxa ▸ e)
  rw [run_call_builtin hc ho, args1 ha]
  simp only [builtin, Sem.run_bind]
  unfold lenA at hn ⊢
  split at hn
  · obtain ⟨_, e⟩ := conc_str (hx (fun e => by cases e))
    refine ⟨_, conc_int φ _ _, ?_⟩
    simp only [Builtin.len_, ht, Sem.run_bind, run_underlying hd, Result.andThen_ok, e, Sem.run_pure, sbytes_size]
    simp [run_underlying hd, goInt, sbytes_size]
  · have e := hx (fun e => by cases e)
    simp only [conc, Option.some.injEq] at e
    refine ⟨_, conc_int φ _ _, ?_⟩
    simp [Builtin.len_, ht, run_underlying hd, goInt, ← e]
  · obtain ⟨i, _, _, e⟩ := conc_slice (hx (fun e => by cases e))
    refine ⟨_, conc_int φ _ _, ?_⟩
    simp [Builtin.len_, ht, run_underlying hd, goInt, e]
  · obtain ⟨i, _, _, e⟩ := conc_slc0 (hx (fun e => by cases e))
    refine ⟨_, conc_int φ _ _, ?_⟩
    simp [Builtin.len_, ht, run_underlying hd, goInt, e]
  · exact absurd rfl hn
  · refine ⟨_, conc_int φ _ _, ?_⟩
    simp [Builtin.len_, ht, run_underlying hd, goInt]
  · exact absurd rfl hn

def capA (x : AVal) : AVal :=
  match x with
  | .nils => .int .i64 (.ofNat 0)
  | .slice _ _ _ _ (.exact n) => .int .i64 (.ofNat n)
  | _ => .bot

noncomputable def qCap (x : Opd) : Q := fun s _ => capA (opd x s)

theorem qCap_ok {P : Program} {S : Nat} {o : Oper} {c : Call} {x : Operand} {t e : TypeId} (hc : c.callee = .builtin .cap) (ha : c.args.toList = [x]) (ht : c.argTypes[0]? = some t)
    (hd : P.underlying t = some (.slice e)) (ho : o.op = .call c) : ImplQ P S o (qCap (cOpd S x)) := by
  intro φ s h a w R hs hn
  unfold qCap at hn ⊢
  generalize hxa : opd (cOpd S x) s = xa at hn ⊢
  have hx : xa ≠ .bot → conc φ xa = some (a.eval x) := fun e => hxa ▸ opd_ok R hs (hxa ▸ e)
  rw [run_call_builtin hc ho, args1 ha]
  simp only [builtin, Sem.run_bind]
  unfold capA at hn ⊢
  split at hn
  · have e := hx (fun e => by cases e)
    simp only [conc, Option.some.injEq] at e
    refine ⟨_, conc_int φ _ _, ?_⟩
    simp [Builtin.cap_, ht, run_underlying hd, goInt, ← e]
  · obtain ⟨i, _, _, e⟩ := conc_slice (hx (fun e => by cases e))
    refine ⟨_, conc_int φ _ _, ?_⟩
    simp [Builtin.cap_, ht, run_underlying hd, goInt, e, capOf]
  · exact absurd rfl hn

def mmA (mx : Bool) (x y : AVal) : AVal :=
  match x, y with
  | .int k a, .int k' b => match mx with
    | true => (match ltI a b with | true => .int k b | false => .int k a)
    | false => (match ltI b a with | true => .int k b | false => .int k a)
  | _, _ => .bot

noncomputable def qMM (mx : Bool) (x y : Opd) : Q := fun s _ => mmA mx (opd x s) (opd y s)

theorem qMM_ok {P : Program} {S : Nat} {o : Oper} {c : Call} {x y : Operand} {mx : Bool} (hc : c.callee = .builtin (if mx then .max else .min)) (ha : c.args.toList = [x, y])
    (ho : o.op = .call c) : ImplQ P S o (qMM mx (cOpd S x) (cOpd S y)) := by
  intro φ s h a w R hs hn
  unfold qMM at hn ⊢
  generalize hxa : opd (cOpd S x) s = xa at hn ⊢
  generalize hya : opd (cOpd S y) s = ya at hn ⊢
  have hx : xa ≠ .bot → conc φ xa = some (a.eval x) := fun e => hxa ▸ opd_ok R hs (hxa ▸ e)
  have hy : ya ≠ .bot → conc φ ya = some (a.eval y) := fun e => hya ▸ opd_ok R hs (hya ▸ e)
  rw [run_call_builtin hc ho, args2 ha]
  unfold mmA at hn ⊢
  split at hn
  · rename_i k p k' q
    have e1 := hx (fun e => by cases e)
    have e2 := hy (fun e => by cases e)
    simp only [conc, Option.some.injEq] at e1 e2
    cases mx with
    | true =>
      simp only [if_true, builtin, Sem.run_bind, Builtin.max_, ← e1, ← e2, List.foldlM_cons, List.foldlM_nil, Builtin.max2, Sem.run_pure, Result.andThen_ok]
      have hl := ltI_eq p q
      cases hb : ltI p q with
      | true => rw [hb] at hl; exact ⟨_, conc_int φ _ _, by rw [if_pos (by simpa using hl.symm)]⟩
      | false => rw [hb] at hl; exact ⟨_, conc_int φ _ _, by rw [if_neg (by simpa using hl.symm)]⟩
    | false =>
      simp only [Bool.false_eq_true, if_false, builtin, Sem.run_bind, Builtin.min_, ← e1, ← e2, List.foldlM_cons, List.foldlM_nil, Builtin.min2, Sem.run_pure, Result.andThen_ok]
      have hl := ltI_eq q p
      cases hb : ltI q p with
      | true => rw [hb] at hl; exact ⟨_, conc_int φ _ _, by rw [if_pos (by simpa using hl.symm)]⟩
      | false => rw [hb] at hl; exact ⟨_, conc_int φ _ _, by rw [if_neg (by simpa using hl.symm)]⟩
  · exact absurd rfl hn

theorem sd_run {P : Program} (ats : Array TypeId) (t : TypeId) (a : Addr) (n c : Nat) (h : c ≠ 0) (w : World) :
    (Builtin.unsafeSliceData_ ats t #[.slice (some a) n c]).run P w = .ok (.pointer (some a)) w := by
  have e : Builtin.unsafeSliceData_ ats t #[.slice (some a) n c] = (if c ≠ 0 then pure (.pointer (some a)) else do
    if (← viewAt a.block).isSome then pure (.pointer (some a))
    else pure (.pointer (some ⟨← newObj (.view a (← elemOf t)), 0, none⟩))) := rfl
  rw [e, if_pos h]
  rfl

def sdA (x : AVal) : AVal :=
  match x with
  | .nils => .nilp
  | .slice g v k len (.exact n) => match Nat.ble 1 n with
    | true => .ptr g v k
    | false => .bot
  | .slice g v k len (.opn _) => match Nat.ble 1 len with
    | true => .ptr g v k
    | false => .bot
  | _ => .bot

noncomputable def qSd (x : Opd) : Q := fun s _ => sdA (opd x s)

theorem qSd_ok {P : Program} {S : Nat} {o : Oper} {c : Call} {x : Operand} (hc : c.callee = .builtin .unsafeSliceData) (ha : c.args.toList = [x])
    (ho : o.op = .call c) : ImplQ P S o (qSd (cOpd S x)) := by
  intro φ s h a w R hs hn
  unfold qSd at hn ⊢
  generalize hxa : opd (cOpd S x) s = xa at hn ⊢
  have hx : xa ≠ .bot → conc φ xa = some (a.eval x) := fun e => hxa ▸ opd_ok R hs (hxa ▸ e)
  rw [run_call_builtin hc ho, args1 ha]
  unfold sdA at hn ⊢
  split at hn
  · have e := hx (fun e => by cases e)
    simp only [conc, Option.some.injEq] at e
    refine ⟨.pointer none, by simp [conc], ?_⟩
    rw [← e]; rfl
  · rename_i g v k len n
    obtain ⟨i, hi, _, e⟩ := conc_slice (hx (fun e => by cases e))
    split at hn
    · rename_i hb
      have hb := Nat.le_of_ble_eq_true hb
      refine ⟨.pointer (some ⟨i.block, i.base + k, none⟩), by simp [conc, hi], ?_⟩
      have : capOf i (.exact n) ≠ 0 := by show n ≠ 0; omega
      rw [e]; simp only [builtin, Sem.run_bind, sd_run _ _ _ _ _ this, Result.andThen_ok, Sem.run_pure]
    · exact absurd rfl hn
  · rename_i g v k len n
    obtain ⟨i, hi, hk, e⟩ := conc_slice (hx (fun e => by cases e))
    split at hn
    · rename_i hb
      have hb := Nat.le_of_ble_eq_true hb
      refine ⟨.pointer (some ⟨i.block, i.base + k, none⟩), by simp [conc, hi], ?_⟩
      have hk' : n + len ≤ i.capE := hk
      have : capOf i (.opn n) ≠ 0 := by show i.capE - n ≠ 0; omega
      rw [e]; simp only [builtin, Sem.run_bind, sd_run _ _ _ _ _ this, Result.andThen_ok, Sem.run_pure]
    · exact absurd rfl hn
  · exact absurd rfl hn

/- Type assertions. -/
inductive TaK where
  | no
  | conc (zero : AVal)
  | iface (ms : Array (String × TypeId))

noncomputable def taO (P : Program) (t : TypeId) : TaK :=
  match P.underlying t, P.info? t with
  | some (.interface ms), _ => .iface ms
  | some _, some i => match i.zero with
    | some z => .conc (toA z)
    | none => .conc .bot
  | _, _ => .no

noncomputable def holdA (ok : Bool) (x : AVal) : AVal :=
  match isBot x with
  | true => .bot
  | false => match ok with
    | true => .tuple [x, .bool true]
    | false => x

noncomputable def failA (ok : Bool) (z : AVal) : AVal :=
  match isBot z, ok with
  | false, true => .tuple [z, .bool false]
  | _, _ => .bot

noncomputable def taA (P : Program) (k : TaK) (t : TypeId) (ok : Bool) (x : AVal) : AVal :=
  match k with
  | .no => .bot
  | .conc z => match x with
    | .nili => failA ok z
    | .iface u v => match Nat.beq u t with
      | true => holdA ok v
      | false => failA ok z
    | _ => .bot
  | .iface ms => match x with
    | .nili => failA ok .nili
    | .iface u v => match P.info? u with
      | none => .bot
      | some i => match Instr.missingMethod ms i.methods with
        | none => holdA ok (.iface u v)
        | some _ => failA ok .nili
    | _ => .bot

noncomputable def qTa (P : Program) (t : TypeId) (ok : Bool) (x : Opd) : Q := fun s _ => taA P (taO P t) t ok (opd x s)

theorem holdA_ok {φ : Env} {ok : Bool} {x : AVal} {cx : Value} (hx : conc φ x = some cx) (hn : holdA ok x ≠ .bot) : conc φ (holdA ok x) = some (if ok then .tuple #[cx, .bool true] else cx) := by
  unfold holdA at hn ⊢
  split at hn
  · exact absurd rfl hn
  · cases ok with
    | true => simp [conc, concs, hx]
    | false => simpa using hx

theorem failA_ok {φ : Env} {ok : Bool} {z : AVal} (hn : failA ok z ≠ .bot) : z ≠ .bot ∧ ok = true ∧ ∀ cz, conc φ z = some cz → conc φ (failA ok z) = some (.tuple #[cz, .bool false]) := by
  unfold failA at hn ⊢
  split at hn
  · rename_i hb
    exact ⟨isBot_false hb, rfl, fun cz hz => by simp [conc, concs, hz]⟩
  · exact absurd rfl hn

theorem run_zeroValue' {P : Program} {t : TypeId} {i : TypeInfo} {z : Value} (hi : P.info? t = some i) (hz : i.zero = some z) (w : World) : (zeroValue t).run P w = .ok z w := by
  unfold zeroValue
  rw [Sem.run_bind, run_typeInfo w hi]
  simp [hz]

theorem qTa_ok {P : Program} {S : Nat} {o : Oper} {x : Operand} {xt t : TypeId} {ok : Bool} {it : TypeInfo} (hit : P.info? t = some it) (hz0 : isIfD ((P.underlying t).getD .invalid) = true → it.zero = some .nilIface)
    (ho : o.op = .typeAssert x xt t ok) : ImplQ P S o (qTa P t ok (cOpd S x)) := by
  intro φ s h a w R hs hn
  unfold qTa at hn ⊢
  generalize hxa : opd (cOpd S x) s = xa at hn ⊢
  have hx : xa ≠ .bot → conc φ xa = some (a.eval x) := fun e => hxa ▸ opd_ok R hs (hxa ▸ e)
  generalize hk : taO P t = k at hn ⊢
  unfold taO at hk
  unfold taA at hn ⊢
  split at hn
  · exact absurd rfl hn
  · rename_i z
    obtain ⟨d, hd, hnd, hz⟩ : ∃ d, P.underlying t = some d ∧ isIfD d = false ∧ (∃ zz, it.zero = some zz ∧ z = toA zz ∨ z = .bot) := by
      split at hk
      · cases hk
      · rename_i d i hni hd hi
        rw [hit] at hi
        cases hi
        refine ⟨d, hd, by cases d <;> first | rfl | (exact (hni _ rfl).elim), ?_⟩
        split at hk
        · rename_i zz hzz; cases hk; exact ⟨zz, .inl ⟨hzz, rfl⟩⟩
        · cases hk; exact ⟨.nilIface, .inr rfl⟩
      · cases hk
    have hfail : failA ok z ≠ .bot → ∃ zz, conc φ (failA ok z) = some (.tuple #[zz, .bool false]) ∧ (zeroValue t).run P w = .ok zz w ∧ ok = true := by
      intro hf
      obtain ⟨h1, h2, h3⟩ := failA_ok (φ := φ) hf
      obtain ⟨zz, ⟨hz1, rfl⟩ | rfl⟩ := hz
      · exact ⟨zz, h3 zz (conc_toA h1), run_zeroValue' hit hz1 w, h2⟩
      · exact absurd rfl h1
    split at hn
    · have e := hx (fun e => by cases e)
      simp only [conc, Option.some.injEq] at e
      obtain ⟨zz, h1, h2, rfl⟩ := hfail hn
      refine ⟨_, h1, ?_⟩
      simp only [execOp, ho, ← e, Sem.run_bind, Instr.typeAssert, run_underlying hd, Result.andThen_ok]
      cases d <;> first | (cases hnd; done) | (simp [h2])
    · rename_i u v
      obtain ⟨l, hl, e⟩ := conc_iface (hx (fun e => by cases e))
      split at hn
      · rename_i hb
        obtain rfl := Nat.eq_of_beq_eq_true hb
        refine ⟨_, holdA_ok hl hn, ?_⟩
        simp only [execOp, ho, e, Sem.run_bind, Instr.typeAssert, run_underlying hd, Result.andThen_ok]
        cases d <;> first | (cases hnd; done) | (simp)
      · rename_i hb
        have hne : u ≠ t := Nat.ne_of_beq_eq_false hb
        obtain ⟨zz, h1, h2, rfl⟩ := hfail hn
        refine ⟨_, h1, ?_⟩
        simp only [execOp, ho, e, Sem.run_bind, Instr.typeAssert, run_underlying hd, Result.andThen_ok]
        cases d <;> first | (cases hnd; done) | (simp [h2, hne])
    · exact absurd rfl hn
  · rename_i ms
    have hd : P.underlying t = some (.interface ms) := by
      split at hk
      · rename_i ms' h1; cases hk; exact h1
      · split at hk <;> cases hk
      · cases hk
    have hz : it.zero = some .nilIface := hz0 (by rw [hd]; rfl)
    have hfail : failA ok .nili ≠ .bot → conc φ (failA ok .nili) = some (.tuple #[.nilIface, .bool false]) ∧ (zeroValue t).run P w = .ok .nilIface w ∧ ok = true := by
      intro hf
      obtain ⟨h1, h2, h3⟩ := failA_ok (φ := φ) hf
      exact ⟨h3 _ (by simp [conc]), run_zeroValue' hit hz w, h2⟩
    split at hn
    · have e := hx (fun e => by cases e)
      simp only [conc, Option.some.injEq] at e
      obtain ⟨h1, h2, rfl⟩ := hfail hn
      refine ⟨_, h1, ?_⟩
      simp [execOp, ho, ← e, Instr.typeAssert, run_underlying hd, h2]
    · rename_i u v
      have hxx := hx (fun e => by cases e)
      obtain ⟨l, hl, e⟩ := conc_iface hxx
      split at hn
      · exact absurd rfl hn
      · rename_i i hi
        split at hn
        · rename_i hm
          rw [e] at hxx
          refine ⟨_, holdA_ok hxx hn, ?_⟩
          simp [execOp, ho, e, Instr.typeAssert, run_underlying hd, run_typeInfo w hi, hm]
        · rename_i m hm
          obtain ⟨h1, h2, rfl⟩ := hfail hn
          refine ⟨_, h1, ?_⟩
          simp [execOp, ho, e, Instr.typeAssert, run_underlying hd, run_typeInfo w hi, hm, h2]
    · exact absurd rfl hn

end Go.Abs

/- New memory. -/
namespace Go.Abs

noncomputable def stL (w : Nat) (l : List AVal) : Nat → Tr Cl → Tr Cl :=
  List.rec (motive := fun _ => Nat → Tr Cl → Tr Cl) (fun _ tr => tr) (fun a _ ih x tr => opnC (setC (pthD x) (.c w a) tr) (ih (Nat.succ x))) l

theorem stL_cons (w : Nat) (a : AVal) (l : List AVal) (x : Nat) (tr : Tr Cl) : stL w (a :: l) x tr = stL w l (x + 1) (Tr.set .no (pthD x) (.c w a) tr) := by
  rw [← setC_eq]
  exact opnC_eq _ _

theorem cellAt_set (w : Nat) (a : AVal) (tr : Tr Cl) {n x y : Nat} (hn : n ≤ lim) (hx : x < lim) :
    cellAt (Tr.set .no (pthD x) (.c w a) tr) n y = if y = x ∧ x < n then some (a, w) else cellAt tr n y := by
  unfold cellAt
  by_cases hy : y < n
  · rw [if_pos hy, if_pos hy]
    by_cases e : y = x
    · subst e
      rw [if_pos ⟨rfl, hy⟩, Tr.get_set_same]
    · rw [if_neg (fun h => e h.1), Tr.get_set_ne _ _ _ _ _ (fun h => e (pthD_inj (by omega) hx h))]
  · rw [if_neg hy, if_neg hy, if_neg (fun h => hy (by omega))]

theorem cellAt_stL (w : Nat) : ∀ (l : List AVal) (x : Nat) (tr : Tr Cl) (n y : Nat), n ≤ lim → x + l.length ≤ lim →
    cellAt (stL w l x tr) n y = if x ≤ y ∧ y < n then (match l[y - x]? with | some a => some (a, w) | none => cellAt tr n y) else cellAt tr n y := by
  intro l
  induction l with
  | nil => intro x tr n y _ _; simp [stL]
  | cons a l ih =>
    intro x tr n y hn hx
    simp only [List.length_cons] at hx
    rw [stL_cons, ih (x + 1) _ n y hn (by omega)]
    by_cases h1 : x + 1 ≤ y ∧ y < n
    · rw [if_pos h1, if_pos (show x ≤ y ∧ y < n from ⟨by omega, h1.2⟩), show y - x = (y - (x + 1)) + 1 from by omega, List.getElem?_cons_succ,
        cellAt_set w a tr hn (by omega), if_neg (show ¬ (y = x ∧ x < n) from by omega)]
    · rw [if_neg h1, cellAt_set w a tr hn (by omega)]
      by_cases h2 : y = x ∧ x < n
      · rw [if_pos h2, if_pos (show x ≤ y ∧ y < n from ⟨by omega, by omega⟩), h2.1, Nat.sub_self]
        rfl
      · rw [if_neg h2, if_neg (show ¬ (x ≤ y ∧ y < n) from by omega)]

noncomputable def mkTr (l : List AVal) : Tr Cl := stL 0 l 0 .nil

theorem cellAt_nil (n y : Nat) : cellAt .nil n y = none := by
  unfold cellAt
  rw [Tr.get_nil]
  split <;> rfl

theorem cellAt_mk {l : List AVal} (hl : l.length ≤ lim) (y : Nat) : cellAt (mkTr l) l.length y = match l[y]? with | some a => some (a, 0) | none => none := by
  unfold mkTr
  rw [cellAt_stL 0 l 0 .nil l.length y hl (by omega), cellAt_nil]
  by_cases h : y < l.length
  · rw [if_pos ⟨Nat.zero_le _, h⟩, Nat.sub_zero]
  · rw [if_neg (by omega), List.getElem?_eq_none (by omega)]

/- What is made. -/
inductive NK where
  | p
  | s (len : Nat) (cap : ACap)
  | m

inductive NR where
  | bad
  | mk (grp : Grp) (k : NK)

def mkA (k : NK) (g : Pth) : AVal :=
  match k with
  | .p => .ptr g 0 0
  | .s len cap => .slice g 0 0 len cap
  | .m => .map g

def nkVal (k : NK) (b capE : Nat) : Value :=
  match k with
  | .p => .pointer (some ⟨b, 0, none⟩)
  | .s len cap => .slice (some ⟨b, 0, none⟩) len (capOf ⟨b, 0, capE⟩ cap)
  | .m => .map (some b)

def nkOk (k : NK) (capE : Nat) : Prop :=
  match k with
  | .s len cap => capOk ⟨0, 0, capE⟩ len cap
  | _ => True

theorem conc_mkA {φ : Env} {k : NK} {g : Pth} {b capE : Nat} (h : φ g 0 = some ⟨b, 0, capE⟩) (hk : nkOk k capE) : conc φ (mkA k g) = some (nkVal k b capE) := by
  cases k with
  | p => simp [mkA, conc, h, nkVal]
  | s len cap =>
    refine (conc_slice_mk (k := cap) h ?_).trans rfl
    cases cap <;> exact hk
  | m => simp [mkA, conc, h, nkVal]

structure GrpOk (φ : Env) (grp : Grp) (o : Obj) (capE : Nat) : Prop where
  row : ∀ tr n lv esz elem flo fhi, grp = .row tr n lv esz elem flo fhi → lv = 0 ∧ n ≤ lim ∧ n ≤ capE * esz ∧ ∃ c lo hi, o = .cells c elem (lo, hi) ∧ capE * esz ≤ c.size ∧
      (∀ x a u, cellAt tr n x = some (a, u) → u = 0 ∧ ∃ cv, conc φ a = some cv ∧ c[x]? = some cv) ∧ lo ≤ hi ∧ (lo = hi ∨ (flo ≤ lo ∧ hi ≤ fhi))
  map : ∀ es clock, grp = .map es clock → ∃ ces, o = .map ces clock ∧ ces.size = es.length ∧ ∀ (j : Nat) e, es[j]? = some e → ∃ m, ces[j]? = some m ∧ concE φ e m

theorem GrpOk.ofRow {φ : Env} {l : List AVal} {cs : List Value} (hl : concs φ l = some cs) (hlim : l.length ≤ lim) {capE esz : Nat} (hc : capE * esz = l.length) (elem : TypeId) :
    GrpOk φ (.row (mkTr l) l.length 0 esz elem 0 0) (.cells cs.toArray elem) capE := by
  refine ⟨?_, fun _ _ e => by cases e⟩
  intro tr n lv esz' elem' flo fhi e
  cases e
  refine ⟨rfl, hlim, by omega, cs.toArray, 0, 0, rfl, by simp [concs_length hl]; omega, ?_, Nat.le_refl _, .inl rfl⟩
  intro x a u hx
  rw [cellAt_mk hlim] at hx
  split at hx
  · rename_i b hb
    cases hx
    obtain ⟨v, h1, h2⟩ := concs_get hl x a hb
    exact ⟨rfl, v, h2, by simpa using h1⟩
  · cases hx

abbrev NQ := Sl → NR

def ImplN (P : Program) (S : Nat) (o : Oper) (f : NQ) : Prop :=
  ∀ (φ : Env) (s : Sl) (h : Hp) (a : Act) (w : World) (M : Mem) (grp : Grp) (k : NK), Rel S φ h M → SR φ s a.tmps → f s = .mk grp k →
    ∃ obj capE dr, GrpOk φ grp obj capE ∧ nkOk k capE ∧
      (execOp a.eval o).run P w = .ok (.value (nkVal k w.heap.size capE)) { w with heap := w.heap.push obj, drawn := w.drawn + dr }

def cellsA (x : AVal) : List AVal :=
  match x with
  | .agg l => l
  | x => [x]

def isAggA : AVal → Bool
  | .agg _ => true
  | .tuple _ => true
  | _ => false

theorem conc_cells {φ : Env} {x : AVal} {cx : Value} (hx : conc φ x = some cx) : ∃ cs, concs φ (cellsA x) = some cs ∧ cx.cells = cs.toArray := by
  cases x <;> first
    | (refine ⟨[cx], concs_cons.2 ⟨cx, [], hx, by simp [concs], rfl⟩, ?_⟩
       first
         | (simp only [conc, Option.some.injEq] at hx; subst hx; rfl)
         | (obtain ⟨_, rfl⟩ := conc_str hx; rfl)
         | (obtain ⟨_, _, rfl⟩ := conc_ptr hx; rfl)
         | (obtain ⟨_, _, _, rfl⟩ := conc_slice hx; rfl)
         | (obtain ⟨_, _, _, rfl⟩ := conc_slc0 hx; rfl)
         | (obtain ⟨_, _, rfl⟩ := conc_map hx; rfl)
         | (obtain ⟨_, _, _, _, rfl⟩ := conc_func hx; rfl)
         | (obtain ⟨_, _, rfl⟩ := conc_iface hx; rfl)
         | (obtain ⟨_, _, rfl⟩ := conc_tuple hx; rfl)
         | (simp only [conc, Option.map_eq_some_iff] at hx; obtain ⟨_, _, rfl⟩ := hx; rfl)
         | (simp [conc] at hx))
    | (obtain ⟨l, hl, rfl⟩ := conc_agg hx; exact ⟨l, hl, rfl⟩)

/- A new variable. -/
noncomputable def varN (elem : TypeId) (l : List AVal) : NR :=
  match Nat.ble l.length lim with
  | true => .mk (.row (mkTr l) l.length 0 l.length elem 0 0) .p
  | false => .bad

theorem run_newVar {P : Program} (elem : TypeId) (v : Value) (w : World) : (newVar elem v).run P w = .ok ⟨w.heap.size, 0, none⟩ { w with heap := w.heap.push (.cells v.cells elem) } := rfl

theorem varN_ok {P : Program} {φ : Env} {elem : TypeId} {x : AVal} {cx : Value} (hx : conc φ x = some cx) {grp : Grp} {k : NK} (h : varN elem (cellsA x) = .mk grp k) (w : World) :
    ∃ obj capE, GrpOk φ grp obj capE ∧ nkOk k capE ∧ (newVar elem cx).run P w = .ok ⟨w.heap.size, 0, none⟩ { w with heap := w.heap.push obj } ∧ nkVal k w.heap.size capE = .pointer (some ⟨w.heap.size, 0, none⟩) := by
  unfold varN at h
  split at h
  · rename_i hb
    cases h
    obtain ⟨cs, h1, h2⟩ := conc_cells hx
    exact ⟨.cells cs.toArray elem, 1, GrpOk.ofRow h1 (Nat.le_of_ble_eq_true hb) (by omega) elem, trivial, by rw [run_newVar, h2], rfl⟩
  · cases h

noncomputable def nAlloc (elem : TypeId) (z : AVal) : NQ := fun _ => match isBot z with | true => .bad | false => varN elem (cellsA z)

theorem nAlloc_ok {P : Program} {S : Nat} {o : Oper} {elem : TypeId} {i : TypeInfo} {z : Value} (hi : P.info? elem = some i) (hz : i.zero = some z) (ho : o.op = .alloc elem) :
    ImplN P S o (nAlloc elem (toA z)) := by
  intro φ s h a w M grp k R hs hf
  unfold nAlloc at hf
  split at hf
  · cases hf
  · rename_i hb
    obtain ⟨obj, capE, h1, h2, h3, h4⟩ := varN_ok (P := P) (conc_toA (φ := φ) (isBot_false hb)) hf w
    refine ⟨obj, capE, 0, h1, h2, ?_⟩
    simp only [execOp, ho, Sem.run_bind, Instr.alloc, run_zeroValue' hi hz, Result.andThen_ok, h3, Sem.run_pure, h4]
    rfl

noncomputable def nBox (elem : TypeId) (x : Opd) : NQ := fun s => match isBot (opd x s) with | true => .bad | false => varN elem (cellsA (opd x s))

theorem nBox_ok {P : Program} {S : Nat} {o : Oper} {elem : TypeId} {x : Operand} (ho : o.op = .box elem x) : ImplN P S o (nBox elem (cOpd S x)) := by
  intro φ s h a w M grp k R hs hf
  unfold nBox at hf
  split at hf
  · cases hf
  · rename_i hb
    obtain ⟨obj, capE, h1, h2, h3, h4⟩ := varN_ok (P := P) (opd_ok R hs (isBot_false hb)) hf w
    refine ⟨obj, capE, 0, h1, h2, ?_⟩
    simp only [execOp, ho, Sem.run_bind, Instr.box, Result.andThen_ok, h3, Sem.run_pure, h4]
    rfl

noncomputable def nMap : NQ := fun _ => .mk (.map [] 0) .m

theorem nMap_ok {P : Program} {S : Nat} {o : Oper} {t : TypeId} (ho : o.op = .makeMap t none) : ImplN P S o nMap := by
  intro φ s h a w M grp k R hs hf
  cases hf
  refine ⟨.map #[] 0, 0, 0, ⟨(fun _ _ _ _ _ _ _ e => by cases e), (fun es c e => by cases e; exact ⟨#[], rfl, rfl, fun j e he => by simp at he⟩)⟩, trivial, ?_⟩
  simp [execOp, ho, Instr.makeMap, nkVal]

end Go.Abs

/- Composite values; new slices; look-ups in maps. -/
namespace Go.Abs

/- Filling cells. -/
def setR (cs : List AVal) (off : Nat) (l : List AVal) : List AVal :=
  match l with
  | [] => cs
  | a :: l => setR (cs.set off a) (Nat.succ off) l

def setRV (cs : List Value) (off : Nat) (l : List Value) : List Value :=
  match l with
  | [] => cs
  | a :: l => setRV (cs.set off a) (off + 1) l

theorem concs_set {φ : Env} {cs : List AVal} {vs : List Value} (h : concs φ cs = some vs) {a : AVal} {v : Value} (ha : conc φ a = some v) (i : Nat) : concs φ (cs.set i a) = some (vs.set i v) := by
  refine concs_of_get (by simp [concs_length h]) fun j x hj => ?_
  rw [List.getElem?_set] at hj ⊢
  by_cases e : i = j
  · subst e
    rw [if_pos rfl] at hj ⊢
    split at hj
    · rename_i hlt
      cases hj
      exact ⟨v, by rw [if_pos (by rw [concs_length h]; exact hlt)], ha⟩
    · cases hj
  · rw [if_neg e] at hj ⊢
    exact concs_get h j x hj

theorem concs_setR {φ : Env} : ∀ {l : List AVal} {lv : List Value} {cs : List AVal} {vs : List Value} (off : Nat), concs φ cs = some vs → concs φ l = some lv → concs φ (setR cs off l) = some (setRV vs off lv) := by
  intro l
  induction l with
  | nil => intro lv cs vs off h h'; simp only [concs, Option.some.injEq] at h'; subst h'; exact h
  | cons a l ih =>
    intro lv cs vs off h h'
    obtain ⟨v, vs', h1, h2, rfl⟩ := concs_cons.1 h'
    exact ih (off + 1) (concs_set h h1 off) h2

theorem foldl_setRV : ∀ (l : List Value) (cs : List Value) (off k : Nat),
    (l.zipIdx k).foldl (fun (a : Array Value) (p : Value × Nat) => a.setIfInBounds (off + p.2) p.1) cs.toArray = (setRV cs (off + k) l).toArray := by
  intro l
  induction l with
  | nil => intro cs off k; rfl
  | cons a l ih =>
    intro cs off k
    simp only [List.zipIdx_cons, List.foldl_cons, setRV]
    rw [List.setIfInBounds_toArray, ih]
    congr 2

theorem setR_length : ∀ (l : List AVal) (cs : List AVal) (off : Nat), (setR cs off l).length = cs.length := by
  intro l
  induction l with
  | nil => intro cs off; rfl
  | cons a l ih => intro cs off; show (setR (cs.set off a) (off + 1) l).length = _; rw [ih]; simp

noncomputable def fillA (place : Nat → Option (Nat × Nat)) (s : Sl) (S : Nat) (cells : List AVal) (parts : List (Nat × Operand)) : Option (List AVal) :=
  match parts with
  | [] => some cells
  | (i, x) :: rest =>
    match place i with
    | none => none
    | some (off, size) =>
      match isBot (opd (cOpd S x) s), Nat.beq (cellsA (opd (cOpd S x) s)).length size, Nat.ble (Nat.add off size) cells.length with
      | false, true, true => fillA place s S (setR cells off (cellsA (opd (cOpd S x) s))) rest
      | _, _, _ => none

theorem fillA_ok {S : Nat} {φ : Env} {h : Hp} {M : Mem} {s : Sl} {a : Act} (R : Rel S φ h M) (hs : SR φ s a.tmps) (place : Nat → Option (Nat × Nat)) :
    ∀ (parts : List (Nat × Operand)) (cells r : List AVal) (vs : List Value), concs φ cells = some vs → fillA place s S cells parts = some r →
      r.length = cells.length ∧ ∃ rs, concs φ r = some rs ∧ Instr.fill place vs.toArray (parts.map fun p => (p.1, a.eval p.2)) = some rs.toArray := by
  intro parts
  induction parts with
  | nil => intro cells r vs h1 h2; cases h2; exact ⟨rfl, vs, h1, rfl⟩
  | cons p rest ih =>
    obtain ⟨i, x⟩ := p
    intro cells r vs h1 h2
    unfold fillA at h2
    split at h2
    · cases h2
    · rename_i off size hpl
      split at h2
      · rename_i hb hsz hle
        have hsz := Nat.eq_of_beq_eq_true hsz
        have hle := Nat.le_of_ble_eq_true hle
        obtain ⟨cs, h3, h4⟩ := conc_cells (opd_ok R hs (isBot_false hb))
        have hlen : cs.length = size := by rw [concs_length h3, hsz]
        obtain ⟨h5, rs, h6, h7⟩ := ih _ r _ (concs_setR off h1 h3) h2
        refine ⟨by rw [h5, setR_length], rs, h6, ?_⟩
        simp only [List.map_cons, Instr.fill, hpl, h4]
        have hcl : vs.length = cells.length := concs_length h1
        have hadd : Nat.add off size = off + size := rfl
        rw [if_neg (by simp [hlen]; omega)]
        have := foldl_setRV cs vs off 0
        rw [Nat.add_zero] at this
        rw [← h7, ← this]
        congr 1
        rw [Array.zipIdx_toArray, List.foldl_toArray']
        simp
      · cases h2

/- A struct, an array. -/
noncomputable def bldO (P : Program) (t : TypeId) : Option ((Nat → Option (Nat × Nat)) × AVal) :=
  match P.info? t, P.underlying t with
  | some it, some (.array _ e) =>
    match it.zero, P.info? e with
    | some z, some ie => some (fun i => some (i * ie.size, ie.size), toA z)
    | _, _ => none
  | some it, some (.struct fields) =>
    match it.zero, fields.toList.mapM (fun f => (P.info? f.type).map fun i => (f.offset, i.size)) with
    | some z, some places => some ((places.toArray[·]?), toA z)
    | _, _ => none
  | _, _ => none

noncomputable def bldA (o : Option ((Nat → Option (Nat × Nat)) × AVal)) (S : Nat) (s : Sl) (parts : List (Nat × Operand)) : AVal :=
  match o with
  | none => .bot
  | some (pl, z) => match isBot z with
    | true => .bot
    | false => match fillA pl s S (cellsA z) parts with
      | none => .bot
      | some l => .agg l

noncomputable def qBld (P : Program) (S : Nat) (t : TypeId) (parts : List (Nat × Operand)) : Q := fun s _ => bldA (bldO P t) S s parts

theorem bldO_spec {P : Program} {t : TypeId} {pl : Nat → Option (Nat × Nat)} {za : AVal} (h : bldO P t = some (pl, za)) : ∃ z, za = toA z ∧ ∀ parts, P.built t parts = Instr.fill pl z.cells parts := by
  unfold bldO at h
  split at h
  · rename_i it n e hi hu
    split at h
    · rename_i z ie hz hie
      cases h
      exact ⟨z, rfl, fun parts => by simp only [Program.built, hi, hu, hz, hie]⟩
    · cases h
  · rename_i it fields hi hu
    split at h
    · rename_i z places hz hp
      cases h
      exact ⟨z, rfl, fun parts => by simp only [Program.built, hi, hu, hz, hp]⟩
    · cases h
  · cases h

theorem qBld_ok {P : Program} {S : Nat} {o : Oper} {t : TypeId} {parts : Array (Nat × Operand)} (ho : o.op = .build t parts) : ImplQ P S o (qBld P S t parts.toList) := by
  intro φ s h a w R hs hn
  unfold qBld bldA at hn ⊢
  split at hn
  · exact absurd rfl hn
  · rename_i pl za hO
    obtain ⟨z, rfl, hbt⟩ := bldO_spec hO
    split at hn
    · exact absurd rfl hn
    · rename_i hb
      split at hn
      · exact absurd rfl hn
      · rename_i l hl
        obtain ⟨cs, h1, h2⟩ := conc_cells (conc_toA (φ := φ) (isBot_false hb))
        obtain ⟨h3, rs, h4, h5⟩ := fillA_ok R hs pl parts.toList _ l _ h1 hl
        refine ⟨.agg rs.toArray, by simp [conc, h4], ?_⟩
        have hbuilt : P.built t (parts.map fun (i, x) => (i, a.eval x)).toList = some rs.toArray := by
          rw [hbt, h2, Array.toList_map]
          exact h5
        simp only [execOp, ho, Sem.run_bind, run_build w t _ _ hbuilt, Result.andThen_ok, Sem.run_pure]

/- A slice that is written out. -/
def repA (n : Nat) (z : List AVal) : List AVal :=
  match n with
  | 0 => []
  | n + 1 => z ++ repA n z

theorem repA_length (n : Nat) (z : List AVal) : (repA n z).length = n * z.length := by
  induction n with
  | zero => simp [repA]
  | succ n ih => simp [repA, ih, Nat.succ_mul, Nat.add_comm]

theorem concs_repA {φ : Env} {z : List AVal} {zs : List Value} (h : concs φ z = some zs) (hz : 0 < z.length) (n : Nat) :
    concs φ (repA n z) = some ((List.range (n * zs.length)).map fun i => zs.getD (i % zs.length) default) := by
  have hl := concs_length h
  induction n with
  | zero => simp [repA, concs]
  | succ n ih =>
    have e : (List.range ((n + 1) * zs.length)).map (fun i => zs.getD (i % zs.length) default) = zs ++ (List.range (n * zs.length)).map fun i => zs.getD (i % zs.length) default := by
      rw [Nat.succ_mul, Nat.add_comm, List.range_add, List.map_append, List.map_map]
      congr 1
      · apply List.ext_getElem?
        intro i
        by_cases hi : i < zs.length
        · rw [List.getElem?_map, List.getElem?_range hi]
          simp [Nat.mod_eq_of_lt hi, hi]
        · rw [List.getElem?_eq_none (by simp; omega), List.getElem?_eq_none (by omega)]
      · apply List.map_congr_left
        intro i _
        simp
    rw [e]
    exact concs_append h ih

noncomputable def bslO (P : Program) (t : TypeId) : Option (TypeId × Nat × AVal) :=
  match P.underlying t with
  | some (.slice e) => match P.info? e with
    | some ie => match ie.zero with
      | some z => some (e, ie.size, toA z)
      | none => none
    | none => none
  | _ => none

noncomputable def bslA (o : Option (TypeId × Nat × AVal)) (S : Nat) (s : Sl) (len : Nat) (parts : List (Nat × Operand)) : NR :=
  match o with
  | none => .bad
  | some (e, size, z) => match isBot z, Nat.beq (cellsA z).length size, Nat.ble 1 size with
    | false, true, true => match len with
      | 0 => match parts with
        | [] => .mk (.row (mkTr []) 0 0 size e 0 0) (.s 0 (.exact 0))
        | _ => .bad
      | len + 1 => match Nat.ble (Nat.mul (Nat.succ len) size) 16777216 with
        | false => .bad
        | true => match fillA (fun i => some (i * size, size)) s S (repA (Nat.succ len) (cellsA z)) parts with
          | none => .bad
          | some l => .mk (.row (mkTr l) l.length 0 size e 0 0) (.s (Nat.succ len) (.exact (Nat.succ len)))
    | _, _, _ => .bad

noncomputable def nBsl (P : Program) (S : Nat) (t : TypeId) (len : Nat) (parts : List (Nat × Operand)) : NQ := fun s => bslA (bslO P t) S s len parts

theorem nBsl_ok {P : Program} {S : Nat} {o : Oper} {t : TypeId} {len : Nat} {parts : Array (Nat × Operand)} (ho : o.op = .buildSlice t len parts) : ImplN P S o (nBsl P S t len parts.toList) := by
  intro φ s h a w M grp k R hs hf
  unfold nBsl bslA at hf
  split at hf
  · cases hf
  · rename_i e size za hO
    obtain ⟨ie, z, hu, hie, hz, rfl, rfl⟩ : ∃ ie z, P.underlying t = some (.slice e) ∧ P.info? e = some ie ∧ ie.zero = some z ∧ za = toA z ∧ ie.size = size := by
      unfold bslO at hO
      split at hO
      · rename_i e' hu
        split at hO
        · rename_i ie hie
          split at hO
          · rename_i z hz; cases hO; exact ⟨ie, z, hu, hie, hz, rfl, rfl⟩
          · cases hO
        · cases hO
      · cases hO
    split at hf
    · rename_i hb hsz h1
      have hsz := Nat.eq_of_beq_eq_true hsz
      have h1 := Nat.le_of_ble_eq_true h1
      obtain ⟨cs, h2, h3⟩ := conc_cells (conc_toA (φ := φ) (isBot_false hb))
      have hcl : cs.length = ie.size := by rw [concs_length h2, hsz]
      split at hf
      · split at hf
        · rename_i hp
          cases hf
          refine ⟨.cells #[] e, 0, 0, GrpOk.ofRow (l := []) (by simp [concs]) (by simp [lim]) (by simp) e, Nat.le_refl 0, ?_⟩
          have hp' : parts = #[] := by simpa using hp
          subst hp'
          simp [execOp, ho, Instr.buildSlice, run_underlying hu, sizeOf, typeInfo, hie, Instr.fill, newRow, nkVal, capOf]
          have e0 : (Array.range 0).map (fun _ => (default : Value)) = #[] := by apply Array.ext'; rw [Array.toList_map, Array.toList_range]; rfl
          rw [e0]
        · cases hf
      · rename_i len
        split at hf
        · cases hf
        · rename_i hsm
          have hsm := Nat.le_of_ble_eq_true hsm
          have hmul : Nat.mul (Nat.succ len) ie.size = (len + 1) * ie.size := rfl
          rw [hmul] at hsm
          split at hf
          · cases hf
          · rename_i l hl
            cases hf
            have hrep := concs_repA h2 (by omega) (len + 1)
            obtain ⟨h4, rs, h5, h6⟩ := fillA_ok R hs _ parts.toList _ l _ hrep hl
            have hll : l.length = (len + 1) * ie.size := by rw [h4, repA_length, hsz]
            refine ⟨.cells rs.toArray e, len + 1, 0, GrpOk.ofRow h5 (by rw [hll]; unfold lim; omega) (by rw [hll]) e, Nat.le_refl (len + 1), ?_⟩
            have hfill : Instr.fill (fun i => some (i * ie.size, ie.size)) ((Array.range ((len + 1) * ie.size)).map (z.cells[· % z.cells.size]!)) (parts.map fun (i, x) => (i, a.eval x)).toList = some rs.toArray := by
              rw [Array.toList_map]
              refine Eq.trans ?_ h6
              congr 1
              apply Array.ext'
              rw [Array.toList_map, h3, Array.toList_range]
              simp [hcl, List.getD]
            have hpos : ¬ (len + 1) * ie.size = 0 := by
              have : 1 ≤ (len + 1) * ie.size := Nat.mul_pos (by omega) (by omega)
              omega
            simp only [execOp, ho, Sem.run_bind, run_buildSlice w t e (len + 1) _ _ ie z hu hie hz (by omega) hpos hfill, Result.andThen_ok, Sem.run_pure]
            rfl
    · cases hf

/- make([]T, n, m). -/
noncomputable def mslA (o : Option (TypeId × Nat × AVal)) (bytes : Nat) (l c : AVal) : NR :=
  match o with
  | none => .bad
  | some (e, size, z) => match isBot z, Nat.beq (cellsA z).length size, Nat.ble 1 size, l, c with
    | false, true, true, .int _ (.ofNat l), .int _ (.ofNat c) =>
      match Nat.ble l c, Nat.ble (Nat.mul c size) lim, Nat.ble (Nat.mul bytes c) 281474976710656, Nat.ble c maxI with
      | true, true, true, true => .mk (.row (mkTr (repA c (cellsA z))) (repA c (cellsA z)).length 0 size e 0 0) (.s l (.exact c))
      | _, _, _, _ => .bad
    | _, _, _, _, _ => .bad

noncomputable def nMsl (P : Program) (t : TypeId) (bytes : Nat) (l c : Opd) : NQ := fun s => mslA (bslO P t) bytes (opd l s) (opd c s)

theorem nMsl_ok {P : Program} {S : Nat} {o : Oper} {t e : TypeId} {l c : Operand} {I : TI} (hu : P.underlying t = some (.slice e)) (hI : tyI P e = some I) (ho : o.op = .makeSlice t l c) :
    ImplN P S o (nMsl P t I.bytes (cOpd S l) (cOpd S c)) := by
  intro φ s h a w M grp k R hs hf
  unfold nMsl mslA at hf
  split at hf
  · cases hf
  · rename_i e' size za hO
    obtain ⟨ie, z, hie, hz, rfl, rfl, rfl⟩ : ∃ ie z, P.info? e = some ie ∧ ie.zero = some z ∧ za = toA z ∧ ie.size = size ∧ e' = e := by
      unfold bslO at hO
      rw [hu] at hO
      dsimp only at hO
      split at hO
      · rename_i ie hie
        split at hO
        · rename_i z hz; cases hO; exact ⟨ie, z, hie, hz, rfl, rfl, rfl⟩
        · cases hO
      · cases hO
    split at hf
    · rename_i k1 ln k2 cn hb hsz h1 e1 e2
      have hsz := Nat.eq_of_beq_eq_true hsz
      have h1 := Nat.le_of_ble_eq_true h1
      split at hf
      · rename_i hlc hlim hby hci
        have hlc := Nat.le_of_ble_eq_true hlc
        have hlim : cn * ie.size ≤ lim := Nat.le_of_ble_eq_true hlim
        have hby : I.bytes * cn ≤ 281474976710656 := Nat.le_of_ble_eq_true hby
        have hci : cn ≤ 9223372036854775807 := Nat.le_of_ble_eq_true hci
        cases hf
        obtain ⟨cs, h2, h3⟩ := conc_cells (conc_toA (φ := φ) (isBot_false hb))
        have hcl : cs.length = ie.size := by rw [concs_length h2, hsz]
        have hrep := concs_repA h2 (by omega) cn
        have hlen := repA_length cn (cellsA (toA z))
        have c1 := opd_ok R hs (o := l) (by rw [e1]; exact fun e => by cases e)
        have c2 := opd_ok R hs (o := c) (by rw [e2]; exact fun e => by cases e)
        rw [e1] at c1
        rw [e2] at c2
        simp only [conc, Option.some.injEq] at c1 c2
        obtain ⟨ib, hib, _, hbs⟩ := tyI_info hI
        rw [hie] at hib
        cases hib
        refine ⟨.cells _ e', cn, 0, GrpOk.ofRow hrep (by rw [hlen, hsz]; exact hlim) (by rw [hlen, hsz]) e', hlc, ?_⟩
        have hb2 : (ie.bytes : Int) * Int.ofNat cn ≤ 281474976710656 := by
          rw [hbs]
          have h7 : ((I.bytes * cn : Nat) : Int) ≤ ((281474976710656 : Nat) : Int) := Int.ofNat_le.2 hby
          rw [Int.natCast_mul] at h7
          exact h7
        have hrun := run_make (P := P) w t e' ie z hu hie hz k1 k2 (Int.ofNat ln) (Int.ofNat cn) (Int.natCast_nonneg ln) (Int.ofNat_le.2 hlc) hb2 (Int.ofNat_le.2 hci)
        simp only [execOp, ho, Sem.run_bind, ← c1, ← c2, hrun, Result.andThen_ok, Sem.run_pure]
        have hcells : madeCells z.cells ((Int.ofNat cn).toNat * ie.size) = ((List.range (cn * cs.length)).map fun i => cs.getD (i % cs.length) default).toArray := by
          apply Array.ext'
          unfold madeCells
          rw [Array.toList_map, Array.toList_range, h3, hcl]
          simp [hcl, List.getD]
        rw [hcells]
        rfl
      · cases hf
    · cases hf

end Go.Abs

/- Maps; bytes out of a text. -/
namespace Go.Abs

def keyD : TypeDesc → Bool
  | .bool => true
  | .int _ => true
  | .string => true
  | _ => false

abbrev Ents := List (AVal × AVal × Nat)

/-- Where a key is, among entries: its place; none: it is not; no answer: it cannot be said. -/
noncomputable def mpAt (P : Program) (D : TypeDesc) (k : AVal) : Ents → Nat → Option (Option (Nat × AVal))
  | [], _ => some none
  | e :: es, i => match eqSc P D k e.1 with
    | none => none
    | some true => some (some (i, e.2.1))
    | some false => mpAt P D k es (Nat.succ i)

theorem sameNow_ok {P : Program} {φ : Env} {D : TypeDesc} (hD : keyD D = true) {x y : AVal} {cx cy : Value} {r : Bool} (h : eqSc P D x y = some r) (hx : conc φ x = some cx) (hy : conc φ y = some cy) :
    Instr.sameNow D cx cy = some r := by
  cases D <;> first | (cases hD; done) | skip
  case bool =>
    unfold eqSc at h
    split at h <;> first | (rename_i e; cases e; done) | skip
    · rename_i a b _
      simp only [conc, Option.some.injEq] at hx hy
      subst hx hy
      cases h
      cases a <;> cases b <;> rfl
    · cases h
  case int k0 =>
    unfold eqSc at h
    split at h <;> first | (rename_i e; cases e; done) | skip
    · rename_i k a k' b _
      simp only [conc, Option.some.injEq] at hx hy
      subst hx hy
      split at h
      · rename_i hk
        obtain rfl := kEq_eq hk
        cases h
        simp [Instr.sameNow, eqI_eq]
      · cases h
    · cases h
  case string =>
    unfold eqSc at h
    split at h <;> first | (rename_i e; cases e; done) | skip
    · rename_i n m n' m' _
      obtain ⟨h1, rfl⟩ := conc_str hx
      obtain ⟨h2, rfl⟩ := conc_str hy
      cases h
      simp only [Instr.sameNow]
      rw [bytes_eq h1 h2]
    · cases h

theorem mpAt_ok {P : Program} {φ : Env} {D : TypeDesc} (hD : keyD D = true) {k : AVal} {ck : Value} (hk : conc φ k = some ck) :
    ∀ (es : Ents) (ces : List MapEntry) (i : Nat) (r : Option (Nat × AVal)), es.length = ces.length → (∀ (j : Nat) e, es[j]? = some e → ∃ m, ces[j]? = some m ∧ concE φ e m) → mpAt P D k es i = some r →
      match r with
      | none => Instr.findNow D ck ces i = some none
      | some (p, v) => ∃ cv, conc φ v = some cv ∧ Instr.findNow D ck ces i = some (some (p, cv)) ∧ i ≤ p ∧ p - i < es.length := by
  intro es
  induction es with
  | nil =>
    intro ces i r hl _ h
    have : ces = [] := List.length_eq_zero_iff.1 hl.symm
    subst this
    cases h
    rfl
  | cons e es ih =>
    intro ces i r hl hes h
    cases ces with
    | nil => simp at hl
    | cons c ces =>
      obtain ⟨m, h1, h2⟩ := hes 0 e (by simp)
      simp at h1
      subst h1
      unfold mpAt at h
      split at h
      · cases h
      · rename_i he
        cases h
        refine ⟨c.val, h2.2.1, ?_, Nat.le_refl _, by simp⟩
        simp only [Instr.findNow, sameNow_ok hD he hk h2.1]
      · rename_i he
        have := ih ces (i + 1) r (by simpa using hl) (fun j e' he' => by simpa using hes (j + 1) e' (by simpa using he')) h
        cases r with
        | none => simp only [Instr.findNow, sameNow_ok hD he hk h2.1]; exact this
        | some pv =>
          obtain ⟨cv, h3, h4, h5, h6⟩ := this
          exact ⟨cv, h3, by simp only [Instr.findNow, sameNow_ok hD he hk h2.1]; exact h4, by omega, by simp only [List.length_cons]; omega⟩

noncomputable def lkO (P : Program) (t : TypeId) : Option (TypeDesc × AVal) :=
  match P.underlying t with
  | some (.map key elem) => match P.underlying key, P.info? elem with
    | some D, some ie => match keyD D, ie.zero with
      | true, some z => some (D, toA z)
      | _, _ => none
    | _, _ => none
  | _ => none

noncomputable def lkR (ok : Bool) (z : AVal) (r : Option (Option (Nat × AVal))) : AVal :=
  match r with
  | none => .bot
  | some none => match isBot z with
    | true => .bot
    | false => match ok with
      | true => .tuple [z, .bool false]
      | false => z
  | some (some (_, v)) => match ok with
    | true => .tuple [v, .bool true]
    | false => v

noncomputable def lkA (P : Program) (o : Option (TypeDesc × AVal)) (ok : Bool) (h : Hp) (m k : AVal) : AVal :=
  match o with
  | none => .bot
  | some (D, z) => match isBot k with
    | true => .bot
    | false => match m with
      | .nilm => lkR ok z (some none)
      | .map g => match h.get g with
        | .map es _ => lkR ok z (mpAt P D k es 0)
        | _ => .bot
      | _ => .bot

noncomputable def qLk (P : Program) (t : TypeId) (ok : Bool) (m k : Opd) : Q := fun s h => lkA P (lkO P t) ok h (opd m s) (opd k s)

theorem lkO_spec {P : Program} {t : TypeId} {D : TypeDesc} {za : AVal} (h : lkO P t = some (D, za)) :
    ∃ key elem ie z, P.underlying t = some (.map key elem) ∧ P.underlying key = some D ∧ P.info? elem = some ie ∧ ie.zero = some z ∧ keyD D = true ∧ za = toA z := by
  unfold lkO at h
  split at h
  · rename_i key elem hu
    split at h
    · rename_i D' ie hk hi
      split at h
      · rename_i z hd hz
        cases h
        exact ⟨key, elem, ie, z, hu, hk, hi, hz, hd, rfl⟩
      · cases h
    · cases h
  · cases h

theorem run_checkKey {P : Program} {key : TypeId} {D : TypeDesc} (hk : P.underlying key = some D) (hD : keyD D = true) (b : Bool) (n : Nat) (v : Value) (w : World) : (Instr.checkKey b (n + 1) key v).run P w = .ok () w := by
  simp only [Instr.checkKey, Sem.run_bind, run_underlying hk, Result.andThen_ok]
  cases D <;> first | (cases hD; done) | rfl

theorem lkR_ok {φ : Env} {ok : Bool} {z : AVal} {cz : Value} (hz : z ≠ .bot → conc φ z = some cz) {r : Option (Option (Nat × AVal))} (hn : lkR ok z r ≠ .bot) :
    (r = some none ∧ conc φ (lkR ok z r) = some (if ok then .tuple #[cz, .bool false] else cz)) ∨
    ∃ p v, r = some (some (p, v)) ∧ ∀ cv, conc φ v = some cv → conc φ (lkR ok z r) = some (if ok then .tuple #[cv, .bool true] else cv) := by
  unfold lkR at hn ⊢
  split at hn
  · exact absurd rfl hn
  · split at hn
    · exact absurd rfl hn
    · rename_i hb
      have := hz (isBot_false hb)
      refine .inl ⟨rfl, ?_⟩
      cases ok <;> simp [conc, concs, this, hb]
  · rename_i p v
    refine .inr ⟨p, v, rfl, fun cv hc => ?_⟩
    cases ok <;> simp [conc, concs, hc]

theorem qLk_ok {P : Program} {S : Nat} {o : Oper} {t : TypeId} {x y : Operand} {ok : Bool} (ho : o.op = .lookup t x y ok) : ImplQ P S o (qLk P t ok (cOpd S x) (cOpd S y)) := by
  intro φ s h a w R hs hn
  unfold qLk at hn ⊢
  generalize hxa : opd (cOpd S x) s = xa at hn ⊢
  generalize hya : opd (cOpd S y) s = ya at hn ⊢
  have hx : xa ≠ .bot → conc φ xa = some (a.eval x) := fun e => hxa ▸ opd_ok R hs (hxa ▸ e)
  have hy : ya ≠ .bot → conc φ ya = some (a.eval y) := fun e => hya ▸ opd_ok R hs (hya ▸ e)
  unfold lkA at hn ⊢
  split at hn
  · exact absurd rfl hn
  · rename_i D za hO
    obtain ⟨key, elem, ie, z, hu, hk, hi, hz, hD, rfl⟩ := lkO_spec hO
    split at hn
    · exact absurd rfl hn
    · rename_i hb
      have hyc := hy (isBot_false hb)
      split at hn
      · have e := hx (fun e => by cases e)
        simp only [conc, Option.some.injEq] at e
        rcases lkR_ok (φ := φ) (cz := z) conc_toA hn with ⟨_, h1⟩ | ⟨p, v, h1, _⟩
        · refine ⟨_, h1, ?_⟩
          simp only [execOp, ho, ← e, Sem.run_bind, Instr.lookup, run_underlying hu, Result.andThen_ok, Sem.run_pure]
          rw [run_checkKey hk hD]
          simp [Instr.findKey, run_underlying hk, Instr.findNow, run_zeroValue' hi hz]
        · cases h1
      · rename_i g
        obtain ⟨i, hi0, e⟩ := conc_map (hx (fun e => by cases e))
        split at hn
        · rename_i es clock hg
          obtain ⟨i', ces, h2, h3, h4, h5⟩ := (R.map _ _ _ hg).at0
          rw [hi0] at h2
          cases h2
          have hobj : (getObj i.block).run P w = .ok (.map ces clock) w := by
            simp only [getObj, Sem.run, h3]
          have hrun : ∀ (r : Option (Nat × Value)), Instr.findNow D (a.eval y) ces.toList 0 = some r → (execOp a.eval o).run P w = .ok (.value (match r with | some (_, v) => (if ok then .tuple #[v, .bool true] else v) | none => (if ok then .tuple #[z, .bool false] else z))) w := by
            intro r hr
            simp only [execOp, ho, e, Sem.run_bind, Instr.lookup, run_underlying hu, Result.andThen_ok, Sem.run_pure, hobj]
            rw [run_checkKey hk hD]
            simp only [Result.andThen_ok, Instr.findKey, Sem.run_bind, run_underlying hk, hr]
            cases r with
            | none => simp [run_zeroValue' hi hz]
            | some pv => obtain ⟨p, v⟩ := pv; simp
          rcases lkR_ok (φ := φ) (cz := z) conc_toA hn with ⟨h1, h6⟩ | ⟨p, v, h1, h6⟩
          · have := mpAt_ok hD hyc es ces.toList 0 none (by rw [← h4]; simp) (fun j e he => by simpa using h5 j e he) h1
            exact ⟨_, h6, hrun _ this⟩
          · obtain ⟨cv, h7, h8, _⟩ := mpAt_ok hD hyc es ces.toList 0 (some (p, v)) (by rw [← h4]; simp) (fun j e he => by simpa using h5 j e he) h1
            exact ⟨_, h6 cv h7, hrun _ h8⟩
        · exact absurd rfl hn
      · exact absurd rfl hn

end Go.Abs

/- Operations that write, call, or stop. -/
namespace Go.Abs

structure Wk (w w' : World) : Prop where
  os : w'.os = w.os
  out : w'.output = w.output
  tape : w'.tape = w.tape

theorem Wk.refl (w : World) : Wk w w := ⟨rfl, rfl, rfl⟩
theorem Wk.trans {a b c : World} (h : Wk a b) (h' : Wk b c) : Wk a c := ⟨h'.os.trans h.os, h'.out.trans h.out, h'.tape.trans h.tape⟩

inductive LR where
  | bad
  | val (x : AVal) (h : Hp)
  | skp (h : Hp)
  | call (f : FuncId) (args : List AVal)
  | pan (x : AVal)
  | dfr (fn : Fn) (captured args : List AVal)
  | rcv

def LOk (P : Program) (S : Nat) (φ : Env) (h : Hp) (w : World) (r : LR) (m : Sem Next) : Prop :=
  match r with
  | .bad => True
  | .val x h' => ∃ φ' w' cv, m.run P w = .ok (.value cv) w' ∧ conc φ' x = some cv ∧ Rel S φ' h' w'.heap ∧ Ext S φ h w.heap φ' h' w'.heap ∧ Wk w w'
  | .skp h' => ∃ φ' w', m.run P w = .ok .skip w' ∧ Rel S φ' h' w'.heap ∧ Ext S φ h w.heap φ' h' w'.heap ∧ Wk w w'
  | .call f args => ∃ cargs, concs φ args = some cargs ∧ m.run P w = .ok (.enter f cargs.toArray) w
  | .pan x => ∃ cx, conc φ x = some cx ∧ m.run P w = .halt (.panic cx) w
  | .dfr fn cap args => ∃ ccap cargs, concs φ cap = some ccap ∧ concs φ args = some cargs ∧ m.run P w = .ok (.defer { target := .fn fn ccap.toArray, args := cargs.toArray }) w
  | .rcv => m.run P w = .ok .recover w

abbrev LQ := Sl → Hp → LR

def ImplL (P : Program) (S : Nat) (o : Oper) (f : LQ) : Prop :=
  ∀ (φ : Env) (s : Sl) (h : Hp) (a : Act) (w : World), Rel S φ h w.heap → SR φ s a.tmps → LOk P S φ h w (f s h) (execOp a.eval o)

/- Single cells. -/
def scal1 : AVal → Bool
  | .agg _ => false
  | .tuple _ => false
  | .bot => false
  | _ => true

def scalL (l : List AVal) : Bool :=
  match l with
  | [] => true
  | a :: l => match scal1 a with
    | true => scalL l
    | false => false

theorem scal1_ok {φ : Env} {a : AVal} {c : Value} (h : scal1 a = true) (hc : conc φ a = some c) : c.oneCell' = true := by
  cases a <;> first
    | (cases h; done)
    | (simp only [conc, Option.some.injEq] at hc; subst hc; rfl)
    | (obtain ⟨_, rfl⟩ := conc_str hc; rfl)
    | (obtain ⟨_, _, rfl⟩ := conc_ptr hc; rfl)
    | (obtain ⟨_, _, _, rfl⟩ := conc_slice hc; rfl)
    | (obtain ⟨_, _, _, rfl⟩ := conc_slc0 hc; rfl)
    | (obtain ⟨_, _, rfl⟩ := conc_map hc; rfl)
    | (obtain ⟨_, _, _, _, rfl⟩ := conc_func hc; rfl)
    | (obtain ⟨_, _, rfl⟩ := conc_iface hc; rfl)
    | (simp only [conc, Option.map_eq_some_iff] at hc; obtain ⟨_, _, rfl⟩ := hc; rfl)

theorem scalL_ok {φ : Env} : ∀ {l : List AVal} {cs : List Value}, scalL l = true → concs φ l = some cs → ∀ c ∈ cs, c.oneCell' = true := by
  intro l
  induction l with
  | nil => intro cs _ h; simp only [concs, Option.some.injEq] at h; subst h; intro c hc; cases hc
  | cons a l ih =>
    intro cs hs h
    obtain ⟨v, vs, h1, h2, rfl⟩ := concs_cons.1 h
    unfold scalL at hs
    split at hs
    · rename_i h3
      intro c hc
      rcases List.mem_cons.1 hc with rfl | hc
      · exact scal1_ok h3 h1
      · exact ih hs h2 c hc
    · cases hs

/- Many stores. -/
theorem run_store1 {P : Program} {w : World} {ad : Addr} {v old : Value} (h1 : w.cell? ad = some old) (h2 : w.frozen? ad = false) (hv : v.oneCell' = true) : (store ad v).run P w = .ok () (w.setCell ad v) := by
  rw [run_store P w ad v .plain hv, h1]
  simp [h2]

theorem setCell_wk (w : World) (a : Addr) (v : Value) : Wk w (w.setCell a v) := ⟨rfl, rfl, rfl⟩

theorem stores_ok {P : Program} {S : Nat} {φ : Env} {g : Pth} {lv esz : Nat} {elem : TypeId} {flo fhi : Nat} {i : VI} (hi : φ g lv = some i) (hS : S ≤ g.nat) (b0 : Nat) :
    ∀ (l : List AVal) (cs : List Value) (x k : Nat) (h : Hp) (tr : Tr Cl) (n : Nat) (w : World), b0 + k = i.base + x → Rel S φ h w.heap → h.get g = .row tr n lv esz elem flo fhi →
      concs φ l = some cs → (∀ c ∈ cs, c.oneCell' = true) → x ≤ n → max n (x + l.length) ≤ lim → max n (x + l.length) ≤ i.capE * esz → (x + l.length ≤ flo ∨ fhi ≤ x) →
      ∃ w', (storeCells ⟨i.block, b0, none⟩ cs k).run P w = .ok () w' ∧ Wk w w' ∧
        Rel S φ (h.put g (.row (stL lv l x tr) (max n (x + l.length)) lv esz elem flo fhi)) w'.heap ∧
        Ext S φ h w.heap φ (h.put g (.row (stL lv l x tr) (max n (x + l.length)) lv esz elem flo fhi)) w'.heap := by
  intro l
  induction l with
  | nil =>
    intro cs x k h tr n w hb R hg hc _ hxn _ _ _
    simp only [concs, Option.some.injEq] at hc
    subst hc
    refine ⟨w, rfl, Wk.refl w, ?_, ?_⟩
    · have e : max n (x + ([] : List AVal).length) = n := Nat.max_eq_left hxn
      rw [e]
      refine R.sub rfl fun g' hg' => ?_
      by_cases eg : g' = g
      · subst eg; rw [Hp.get_put_same, hg]; rfl
      · rw [Hp.get_put_ne _ _ eg]
    · have e : max n (x + ([] : List AVal).length) = n := Nat.max_eq_left hxn
      rw [e]
      refine ⟨Env.le_refl _, Nat.le_refl _, fun _ _ _ => rfl, fun _ _ _ e => .inl e, fun g' hg' => ?_, Nat.le_refl _, fun g' hg' => Hp.get_put_ne _ _ (fun e => by subst e; omega)⟩
      by_cases eg : g' = g
      · subst eg; left; rw [hg]; exact fun e => by cases e
      · rw [Hp.get_put_ne _ _ eg] at hg'; exact .inl hg'
  | cons a l ih =>
    intro cs x k h tr n w hb R hg hc h1 hxn hlim hcap hfz
    obtain ⟨v, vs, hv, hvs, rfl⟩ := concs_cons.1 hc
    simp only [List.length_cons] at hlim hcap hfz
    have hx1 : x < lim := by omega
    obtain ⟨⟨old, ho⟩, hf, R', E'⟩ := Rel.store (n' := max n (x + 1)) (tr' := Tr.set .no (pthD x) (.c lv a) tr) R hg hS hi hv
      (by rw [cellAt_set lv a tr (by omega) hx1, if_pos ⟨rfl, by omega⟩])
      (by
        intro y r hy hyr
        rw [cellAt_set lv a tr (by omega) hx1, if_neg (fun e => hy e.1)] at hyr
        unfold cellAt at hyr ⊢
        split at hyr
        · rw [if_pos (by omega)]; exact hyr
        · cases hyr)
      (by omega) (by omega) (.inr (by omega)) (by omega)
    have hst : (store ((⟨i.block, b0, none⟩ : Addr).add k) v).run P w = .ok () (w.setCell ⟨i.block, i.base + x, none⟩ v) := by
      rw [addr_add, hb]
      exact run_store1 ho hf (h1 v (by simp))
    obtain ⟨w', h5, h6, h7, h8⟩ := ih vs (x + 1) (k + 1) (h.put g (.row (Tr.set .no (pthD x) (.c lv a) tr) (max n (x + 1)) lv esz elem flo fhi)) _ (max n (x + 1)) _ (by omega) R' (Hp.get_put_same _ _ _) hvs (fun c hc => h1 c (by simp [hc])) (by omega) (by omega) (by omega) (by omega)
    refine ⟨w', ?_, (setCell_wk w _ _).trans h6, ?_, ?_⟩
    · simp only [storeCells, Sem.run_bind, hst, Result.andThen_ok, h5]
    · rw [Hp.put_put] at h7
      rw [stL_cons, List.length_cons]
      rw [show max (max n (x + 1)) (x + 1 + l.length) = max n (x + (l.length + 1)) from by omega] at h7
      exact h7
    · rw [Hp.put_put] at h8
      rw [stL_cons, List.length_cons]
      rw [show max (max n (x + 1)) (x + 1 + l.length) = max n (x + (l.length + 1)) from by omega] at h8
      exact E'.trans R h8

/- store. -/
def frzOk (x m flo fhi : Nat) : Bool :=
  match Nat.ble (Nat.add x m) flo with
  | true => true
  | false => Nat.ble fhi x

theorem frzOk_spec {x m flo fhi : Nat} (h : frzOk x m flo fhi = true) : x + m ≤ flo ∨ fhi ≤ x := by
  unfold frzOk at h
  split at h
  · rename_i h1; exact .inl (Nat.le_of_ble_eq_true h1)
  · exact .inr (Nat.le_of_ble_eq_true h)

noncomputable def stG (h : Hp) (g : Pth) (v x : Nat) (l : List AVal) : Option Hp :=
  match h.get g with
  | .row tr n lv esz elem flo fhi =>
    match Nat.beq v lv, Nat.ble (Nat.add x l.length) n, frzOk x l.length flo fhi, scalL l with
    | true, true, true, true => some (h.put g (.row (stL lv l x tr) n lv esz elem flo fhi))
    | _, _, _, _ => none
  | _ => none

theorem stG_ok {P : Program} {S : Nat} {φ : Env} {h h' : Hp} {w : World} {g : Pth} {v x : Nat} {l : List AVal} {cs : List Value} {i : VI} (R : Rel S φ h w.heap) (hi : φ g v = some i)
    (hl : concs φ l = some cs) (hs : stG h g v x l = some h') (hpos : l ≠ []) :
    ∃ w', (storeCells ⟨i.block, i.base + x, none⟩ cs 0).run P w = .ok () w' ∧ Wk w w' ∧ Rel S φ h' w'.heap ∧ Ext S φ h w.heap φ h' w'.heap := by
  unfold stG at hs
  split at hs
  · rename_i tr n lv esz elem flo fhi hg
    split at hs
    · rename_i h1 h2 h3 h4
      cases hs
      have h1 := Nat.eq_of_beq_eq_true h1
      have h2 : x + l.length ≤ n := Nat.le_of_ble_eq_true h2
      have h3 := frzOk_spec h3
      subst h1
      have RR := R.row _ _ _ _ _ _ _ _ hg
      obtain ⟨it, ht1, ht2⟩ := RR.top
      rw [hi] at ht1
      cases ht1
      have hn := RR.lim
      have hlen : 0 < l.length := List.length_pos_iff.2 hpos
      have hS : S ≤ g.nat := R.notStatic hg (x := x) (by omega) (by omega)
      have := stores_ok (P := P) hi hS (i.base + x) l cs x 0 h tr n w (by omega) R hg hl (scalL_ok h4 hl) (by omega) (by omega) (by omega) h3
      rw [show max n (x + l.length) = n from by omega] at this
      exact this
    · cases hs
  · cases hs

noncomputable def stA (size : Nat) (h : Hp) (x v : AVal) : LR :=
  match x with
  | .ptr g ver k => match isBot v, Nat.beq (cellsA v).length size, Nat.ble 1 size with
    | false, true, true => match stG h g ver k (cellsA v) with
      | some h' => .skp h'
      | none => .bad
    | false, true, false => .skp h
    | _, _, _ => .bad
  | _ => .bad

noncomputable def lSt (size : Nat) (x v : Opd) : LQ := fun s h => stA size h (opd x s) (opd v s)

theorem lSt_ok {P : Program} {S : Nat} {o : Oper} {t : TypeId} {I : TI} {x y : Operand} (hI : tyI P t = some I) (ho : o.op = .store t x y) : ImplL P S o (lSt I.size (cOpd S x) (cOpd S y)) := by
  intro φ s h a w R hs
  unfold lSt
  generalize hf : stA I.size h (opd (cOpd S x) s) (opd (cOpd S y) s) = r
  unfold stA at hf
  split at hf
  · rename_i g ver k hxa
    have hx := opd_ok R hs (o := x) (by rw [hxa]; exact fun e => by cases e)
    rw [hxa] at hx
    obtain ⟨i, hi, e⟩ := conc_ptr hx
    obtain ⟨ib, hib, hsz, _⟩ := tyI_info hI
    split at hf
    · rename_i hb hlen h1
      have hlen := Nat.eq_of_beq_eq_true hlen
      have h1 := Nat.le_of_ble_eq_true h1
      obtain ⟨cs, h2, h3⟩ := conc_cells (opd_ok R hs (isBot_false hb))
      split at hf
      · rename_i h' hst
        subst hf
        obtain ⟨w', h5, h6, h7, h8⟩ := stG_ok (P := P) R hi h2 hst (fun e => by rw [e] at hlen; simp at hlen; omega)
        refine ⟨φ, w', ?_, h7, h8, h6⟩
        simp only [execOp, ho, e, Sem.run_bind, Instr.storeAt, Instr.sureAddr, Sem.run_pure, Result.andThen_ok, storeVar, run_sizeOf' hI, h3]
        rw [if_neg (by simp [concs_length h2, hlen])]
        rw [h5]
        rfl
      · subst hf; trivial
    · rename_i hb hlen h1
      have hlen := Nat.eq_of_beq_eq_true hlen
      have h1 : I.size = 0 := by
        cases hz : I.size with
        | zero => rfl
        | succ m =>
          rw [hz] at h1
          have : Nat.ble 1 (m + 1) = true := Nat.ble_eq ▸ (show 1 ≤ m + 1 by omega)
          rw [this] at h1
          cases h1
      obtain ⟨cs, h2, h3⟩ := conc_cells (opd_ok R hs (isBot_false hb))
      subst hf
      refine ⟨φ, w, ?_, R, Ext.refl _ _ _ _, Wk.refl w⟩
      have hcs : cs = [] := List.length_eq_zero_iff.1 (by rw [concs_length h2, hlen, h1])
      subst hcs
      simp only [execOp, ho, e, Sem.run_bind, Instr.storeAt, Instr.sureAddr, Sem.run_pure, Result.andThen_ok, storeVar, run_sizeOf' hI, h3]
      rw [if_neg (by simp [h1])]
      rfl
    · subst hf; trivial
  · subst hf; trivial

end Go.Abs

/- append. -/
namespace Go.Abs

noncomputable def bytesL (n : Nat) : Nat → List AVal :=
  Nat.rec (motive := fun _ => Nat → List AVal) (fun _ => []) (fun _ ih m => .int .u8 (.ofNat (Nat.mod m 256)) :: ih (Nat.div m 256)) n

theorem bytesL_ok (φ : Env) : ∀ (n m : Nat), concs φ (bytesL n m) = some (byteCells ⟨(sbytes n m).toArray⟩) := by
  intro n
  induction n with
  | zero => intro m; rfl
  | succ n ih =>
    intro m
    refine concs_cons.2 ⟨.int .u8 (.ofNat (m % 256)), byteCells ⟨(sbytes n (m / 256)).toArray⟩, by rfl, ih _, ?_⟩
    simp only [byteCells, sbytes, List.map_cons]
    congr 2
    simp

noncomputable def srcA (size : Nat) (isStr : Bool) (h : Hp) (x : AVal) : Option (Nat × List AVal) :=
  match isStr with
  | true => match x with
    | .str n m => match Nat.beq size 1 with
      | true => some (n, bytesL n m)
      | false => none
    | _ => none
  | false => match x with
    | .nils => some (0, [])
    | .slc0 _ _ _ _ _ => some (0, [])
    | .slice g v x len _ => match ldL (h.get g) v (Nat.mul len size) x with
      | some l => match scalL l with
        | true => some (len, l)
        | false => none
      | none => none
    | _ => none

theorem srcA_ok {P : Program} {S : Nat} {φ : Env} {h : Hp} {w : World} (R : Rel S φ h w.heap) {size : Nat} {isStr : Bool} {tx : TypeId} {x : AVal} {cx : Value} {n : Nat} {l : List AVal}
    (ht : if isStr then P.underlying tx = some .string else ∃ e, P.underlying tx = some (.slice e)) (hx : x ≠ .bot → conc φ x = some cx) (hs : srcA size isStr h x = some (n, l)) :
    ∃ cs, concs φ l = some cs ∧ Src P size tx cx n cs w := by
  unfold srcA at hs
  split at hs
  · split at hs
    · rename_i m0 m
      split at hs
      · rename_i h1
        have h1 := Nat.eq_of_beq_eq_true h1
        subst h1
        cases hs
        obtain ⟨h2, rfl⟩ := conc_str (hx (fun e => by cases e))
        refine ⟨_, bytesL_ok φ _ _, ?_⟩
        have := Src.ofString (P := P) w (tx := tx) (by simpa using ht) ⟨(sbytes n m).toArray⟩
        rwa [sbytes_size] at this
      · cases hs
    · cases hs
  · obtain ⟨e, ht⟩ : ∃ e, P.underlying tx = some (.slice e) := by simpa using ht
    split at hs
    · cases hs
      have := hx (fun e => by cases e)
      simp only [conc, Option.some.injEq] at this
      subst this
      exact ⟨[], by simp [concs], Src.ofNil w ht 0⟩
    · cases hs
      obtain ⟨i, _, _, rfl⟩ := conc_slc0 (hx (fun e => by cases e))
      exact ⟨[], by simp [concs], Src.ofSlice w ht _ 0 _ [] (by simp) (fun j u hj => by simp at hj) (fun u hu => by cases hu)⟩
    · rename_i g v x len cap
      split at hs
      · rename_i l' hl
        split at hs
        · rename_i hsc
          cases hs
          obtain ⟨i, hi, _, rfl⟩ := conc_slice (hx (fun e => by cases e))
          obtain ⟨h3, cs, h4, h5⟩ := ldL_ok R hi _ _ _ hl
          exact ⟨cs, h4, Src.ofSlice w ht _ _ _ cs (by rw [concs_length h4, h3]; rfl) (fun j u hj => by rw [addr_add]; exact h5 j u hj) (scalL_ok hsc h4)⟩
        · cases hs
      · cases hs
    · cases hs

/- What is known beforehand. -/
def apO (P : Program) (t : TypeId) : Option (TypeId × Nat × Nat) :=
  match P.underlying t with
  | some (.slice e) => match P.info? e with
    | some ie => match ie.zero with
      | some z => match Nat.beq z.cells.size ie.size, Nat.ble 1 ie.size with
        | true, true => some (e, ie.size, ie.bytes)
        | _, _ => none
      | none => none
    | none => none
  | _ => none

theorem apO_spec {P : Program} {t e : TypeId} {size bytes : Nat} (h : apO P t = some (e, size, bytes)) :
    ∃ ie z, P.underlying t = some (.slice e) ∧ P.info? e = some ie ∧ ie.zero = some z ∧ z.cells.size = size ∧ ie.size = size ∧ ie.bytes = bytes ∧ 1 ≤ size := by
  unfold apO at h
  split at h
  · rename_i e' hu
    split at h
    · rename_i ie hie
      split at h
      · rename_i z hz
        split at h
        · rename_i h1 h2
          cases h
          exact ⟨ie, z, hu, hie, hz, Nat.eq_of_beq_eq_true h1, rfl, rfl, Nat.le_of_ble_eq_true h2⟩
        · cases h
      · cases h
    · cases h
  · cases h

noncomputable def apNew (e : TypeId) (size bytes : Nat) (h : Hp) (need : Nat) (cells : List AVal) : LR :=
  match Nat.ble (Nat.mul need size) lim, Nat.ble (Nat.mul (Nat.add (Nat.mul 2 need) 1000) bytes) 281474976710656 with
  | true, true => .val (.slice h.nx 0 0 need (.opn 0)) (h.add (.row (mkTr cells) cells.length 0 size e 0 0))
  | _, _ => .bad

noncomputable def apOp (e : TypeId) (size bytes : Nat) (h : Hp) (g : Pth) (v x k len m : Nat) (news : List AVal) : LR :=
  match h.get g with
  | .row tr n lv esz elem flo fhi =>
    match Nat.beq v lv, Nat.beq esz size, Nat.beq x (Nat.mul k size), Nat.beq elem e, frzOk (Nat.add x (Nat.mul len size)) (Nat.mul m size) flo fhi with
    | true, true, true, true, true =>
      match Nat.ble (Nat.add x (Nat.mul (Nat.add len m) size)) n with
      | true => .val (.slice g v x (Nat.add len m) (.opn k)) (h.put g (.row (stL lv news (Nat.add x (Nat.mul len size)) tr) n lv esz elem flo fhi))
      | false => match k with
        | 0 => match Nat.ble (Nat.mul len size) n, Nat.ble (Nat.mul (Nat.add len m) size) lim, Nat.ble (Nat.mul (Nat.add (Nat.mul 2 (Nat.add len m)) 1000) bytes) 281474976710656 with
          | true, true, true => .val (.slice g (Nat.succ lv) 0 (Nat.add len m) (.opn 0)) (h.put g (.row (stL (Nat.succ lv) news (Nat.mul len size) tr) (Nat.mul (Nat.add len m) size) (Nat.succ lv) esz elem flo fhi))
          | _, _, _ => .bad
        | _ => .bad
    | _, _, _, _, _ => .bad
  | _ => .bad

noncomputable def apB (e : TypeId) (size bytes : Nat) (h : Hp) (d : AVal) (m : Nat) (news : List AVal) : LR :=
  match d with
  | .nils => apNew e size bytes h m news
  | .slice g v x len cap => match cap with
    | .exact c => match Nat.ble (Nat.add len m) c with
      | true => match stG h g v (Nat.add x (Nat.mul len size)) news with
        | some h' => .val (.slice g v x (Nat.add len m) (.exact c)) h'
        | none => .bad
      | false => match ldL (h.get g) v (Nat.mul len size) x with
        | some olds => apNew e size bytes h (Nat.add len m) (List.append olds news)
        | none => .bad
    | .opn k => apOp e size bytes h g v x k len m news
  | .slc0 g v _ y k => apOp e size bytes h g v y k 0 m news
  | _ => .bad

def apZ (d : AVal) (h : Hp) : LR :=
  match d with
  | .nils => .val d h
  | .slc0 _ _ _ _ _ => .val d h
  | .slice _ _ _ _ _ => .val d h
  | _ => .bad

noncomputable def apA (O : Option (TypeId × Nat × Nat)) (isStr : Bool) (h : Hp) (d x : AVal) : LR :=
  match O with
  | none => .bad
  | some (e, size, bytes) => match srcA size isStr h x with
    | none => .bad
    | some (m, news) => match m with
      | 0 => apZ d h
      | m + 1 => apB e size bytes h d (Nat.succ m) news

/- Growing. -/
theorem growBy_le (nl : Nat) : ∀ (r c : Nat), c < 2 * nl + 1000 → Builtin.growBy nl r c ≤ 2 * nl + 1000 := by
  intro r
  induction r with
  | zero => intro c h; simp [Builtin.growBy]; omega
  | succ r ih =>
    intro c h
    simp only [Builtin.growBy]
    split
    · omega
    · exact ih _ (by omega)

theorem nextcap_le {need old : Nat} (h : old < need) : Builtin.nextslicecap need old ≤ 2 * need + 1000 := by
  unfold Builtin.nextslicecap
  split
  · omega
  · split
    · omega
    · exact growBy_le _ _ _ (by omega)

def ApRes (P : Program) (S : Nat) (φ : Env) (h : Hp) (w : World) (r : LR) (m : Sem Value) : Prop :=
  match r with
  | .bad => True
  | .val x h' => ∃ φ' w' cv, m.run P w = .ok cv w' ∧ conc φ' x = some cv ∧ Rel S φ' h' w'.heap ∧ Ext S φ h w.heap φ' h' w'.heap ∧ Wk w w'
  | _ => False

theorem apNew_ok {P : Program} {S : Nat} {φ : Env} {h : Hp} {w : World} (R : Rel S φ h w.heap) {t tx ty e : TypeId} {size bytes : Nat} (hO : apO P t = some (e, size, bytes)) {base : Option Addr} {len cap : Nat}
    {olds news : List AVal} {co cn : List Value} (ho : concs φ olds = some co) (hol : olds.length = len * size)
    (hold : (Builtin.firstCells size len (.slice base len cap)).run P w.drew = .ok co.toArray w.drew) {x : Value} {m : Nat} (hn : concs φ news = some cn) (hsrc : Src P size tx x m cn w) (hg : cap < len + m) :
    ApRes P S φ h w (apNew e size bytes h (len + m) (olds ++ news)) (Builtin.append_ #[t, tx] ty #[.slice base len cap, x]) := by
  generalize hf : apNew e size bytes h (len + m) (olds ++ news) = r
  unfold apNew at hf
  split at hf
  · rename_i h1 h2
    have h1 : (len + m) * size ≤ lim := Nat.le_of_ble_eq_true h1
    have h2 : (2 * (len + m) + 1000) * bytes ≤ 281474976710656 := Nat.le_of_ble_eq_true h2
    subst hf
    obtain ⟨ie, z, hu, hie, hz, hzs, rfl, rfl, hpos⟩ := apO_spec hO
    have hle : len + m ≤ (len + m) * ie.size := Nat.le_mul_of_pos_right _ hpos
    have hrun := run_append_grow_src w t tx ty e ie z hu hie hz base len cap co hold x m cn hsrc hg (by unfold lim at h1; omega)
      (Nat.le_trans (Nat.mul_le_mul_right _ (nextcap_le hg)) h2)
    have hcc : concs φ (olds ++ news) = some (co ++ cn) := concs_append ho hn
    have hcl : (olds ++ news).length = (len + m) * ie.size := by
      rw [← concs_length hcc, List.length_append, concs_length ho, hol, hsrc.newsLen, Nat.add_mul]
    have hge := grownCap_ge w (len + m) cap e
    have hsz : ((co ++ cn).toArray ++ Builtin.zeroCells z.cells (grownCap w (len + m) cap e - (len + m))).size = grownCap w (len + m) cap e * ie.size := by
      rw [Array.size_append, List.size_toArray, concs_length hcc, hcl]
      simp only [Builtin.zeroCells, Array.size_map, Array.size_range, hzs]
      rw [← Nat.add_mul]
      congr 1
      omega
    have := Rel.alloc R (.cells ((co ++ cn).toArray ++ Builtin.zeroCells z.cells (grownCap w (len + m) cap e - (len + m))) e) (.row (mkTr (olds ++ news)) (olds ++ news).length 0 ie.size e 0 0) (grownCap w (len + m) cap e)
      (by
        intro tr n lv esz elem flo fhi heq
        cases heq
        refine ⟨rfl, by rw [hcl]; exact h1, by rw [hcl]; exact Nat.mul_le_mul_right _ hge, _, 0, 0, rfl, by rw [hsz]; exact Nat.le_refl _, ?_, Nat.le_refl _, .inl rfl⟩
        intro y a u hy
        rw [cellAt_mk (by rw [hcl]; exact h1)] at hy
        split at hy
        · rename_i b hb
          cases hy
          obtain ⟨v, h3, h4⟩ := concs_get hcc y a hb
          refine ⟨rfl, v, h4, ?_⟩
          have : y < (co ++ cn).length := (List.getElem?_eq_some_iff.1 h3).1
          rw [Array.getElem?_append_left (by simpa using this)]
          simpa using h3
        · cases hy)
      (by intro es c heq; cases heq)
    refine ⟨_, _, _, hrun, ?_, this.1, this.2, ⟨rfl, rfl, rfl⟩⟩
    refine (conc_slice_mk (k := .opn 0) (Env.upd_same _ _ _ _) ?_).trans ?_
    · show 0 + (len + m) ≤ grownCap w (len + m) cap e
      omega
    · simp [capOf]
  · subst hf; trivial

theorem ApRes.mk {P : Program} {S : Nat} {φ : Env} {h : Hp} {w : World} {m : Sem Value} {x : AVal} {h' : Hp} {φ' : Env} {w' : World} {cv : Value}
    (h1 : m.run P w = .ok cv w') (h2 : conc φ' x = some cv) (h3 : Rel S φ' h' w'.heap) (h4 : Ext S φ h w.heap φ' h' w'.heap) (h5 : Wk w w') : ApRes P S φ h w (.val x h') m :=
  ⟨φ', w', cv, h1, h2, h3, h4, h5⟩

theorem frozen_of {S : Nat} {φ : Env} {h : Hp} {w : World} (R : Rel S φ h w.heap) {g : Pth} {tr : Tr Cl} {n lv esz : Nat} {elem : TypeId} {flo fhi : Nat}
    (hg : h.get g = .row tr n lv esz elem flo fhi) {i : VI} {v : Nat} (hi : φ g v = some i) {x m : Nat} (hx : x + m ≤ i.capE * esz) (hf : x + m ≤ flo ∨ fhi ≤ x) :
    ∀ j, j < m → (w.cell? ⟨i.block, i.base + x + j, none⟩).isSome = true ∧ w.frozen? ⟨i.block, i.base + x + j, none⟩ = false := by
  intro j hj
  obtain ⟨c, lo, hi', hb, hcap, _, hfr, hfr2⟩ := (R.row _ _ _ _ _ _ _ _ hg).ver v i hi
  constructor
  · have : i.base + x + j < c.size := by omega
    simp [World.cell?, hb, this]
  · simp only [World.frozen?, hb]
    rw [Bool.and_eq_false_iff]
    by_cases h1 : lo ≤ i.base + x + j
    · right
      rw [decide_eq_false_iff_not]
      omega
    · left; simpa using h1

theorem run_append_in {P : Program} {w w' : World} {t tx ty e : TypeId} {size bytes : Nat} (hO : apO P t = some (e, size, bytes)) {b off len cap m : Nat} {x : Value} {cn : List Value}
    (hsrc : Src P size tx x m cn w) (hroom : len + m ≤ cap) (hst : (storeCells ⟨b, off + len * size, none⟩ cn 0).run P w = .ok () w') :
    (Builtin.append_ #[t, tx] ty #[.slice (some ⟨b, off, none⟩) len cap, x]).run P w = .ok (.slice (some ⟨b, off, none⟩) (len + m) cap) w' := by
  obtain ⟨ie, z, hu, hie, hz, hzs, rfl, rfl, hpos⟩ := apO_spec hO
  rcases hsrc.kind with ⟨e', hk⟩ | hk <;> simp [Builtin.append_, run_underlying hu, run_underlying hk, sizeOf, typeInfo, hie, hsrc.len, hroom, hsrc.cells, addr_add, hst]

theorem apOp_ok {P : Program} {S : Nat} {φ : Env} {h : Hp} {w : World} (R : Rel S φ h w.heap) {t tx ty e : TypeId} {size bytes : Nat} (hO : apO P t = some (e, size, bytes))
    {g : Pth} {v x k len : Nat} {i : VI} (hi : φ g v = some i) (hle : k + len ≤ i.capE) {b0 : Nat} (hb0 : b0 = i.base + x ∨ (len = 0 ∧ i.capE = k))
    {news : List AVal} {cn : List Value} {xv : Value} {m : Nat} (hm : 0 < m) (hn : concs φ news = some cn) (hsrc : Src P size tx xv m cn w) :
    ApRes P S φ h w (apOp e size bytes h g v x k len m news) (Builtin.append_ #[t, tx] ty #[.slice (some ⟨i.block, b0, none⟩) len (i.capE - k), xv]) := by
  generalize hf : apOp e size bytes h g v x k len m news = r
  have hnl : news.length = m * size := by rw [← concs_length hn, hsrc.newsLen]
  unfold apOp at hf
  split at hf
  · rename_i tr n lv esz elem flo fhi hg
    split at hf
    · rename_i h1 h2 h3 h4 h5
      have h1 := Nat.eq_of_beq_eq_true h1
      have h2 := Nat.eq_of_beq_eq_true h2
      have h3 : x = k * size := Nat.eq_of_beq_eq_true h3
      have h4 := Nat.eq_of_beq_eq_true h4
      have h5 : (x + len * size) + m * size ≤ flo ∨ fhi ≤ x + len * size := frzOk_spec h5
      subst h1 h2 h4
      have RR := R.row _ _ _ _ _ _ _ _ hg
      obtain ⟨ie, z, hu, hie, hz, hzs, hs1, hs2, hpos⟩ := apO_spec hO
      obtain ⟨it, ht1, ht2⟩ := RR.top
      rw [hi] at ht1
      cases ht1
      have hlim := RR.lim
      have hmp : 0 < m * esz := Nat.mul_pos hm hpos
      split at hf
      · rename_i h6
        have h6 : x + (len + m) * esz ≤ n := Nat.le_of_ble_eq_true h6
        subst hf
        have hcap : k + (len + m) ≤ i.capE := by
          have : (k + (len + m)) * esz ≤ i.capE * esz := by rw [Nat.add_mul]; omega
          exact Nat.le_of_mul_le_mul_right this hpos
        have hb1 : b0 = i.base + x := by rcases hb0 with h | ⟨_, h⟩ <;> omega
        subst hb1
        rw [Nat.add_mul] at h6
        have hS : S ≤ g.nat := R.notStatic hg (x := x + len * esz) (by omega) (by omega)
        obtain ⟨w', h7, h8, h9, h10⟩ := stores_ok (P := P) hi hS (i.base + x + len * esz) news cn (x + len * esz) 0 h tr n w (by omega) R hg hn hsrc.one (by omega)
          (by rw [hnl]; omega) (by rw [hnl]; omega) (by rw [hnl]; exact h5)
        rw [hnl, show max n (x + len * esz + m * esz) = n from by omega] at h9 h10
        refine ApRes.mk (run_append_in hO hsrc (by omega) h7) ?_ h9 h10 h8
        refine (conc_slice_mk (k := .opn k) hi hcap).trans ?_
        rfl
      · rename_i h6
        split at hf
        · split at hf
          · rename_i h7 h8 h9
            have h7 : len * esz ≤ n := Nat.le_of_ble_eq_true h7
            have h8 : (len + m) * esz ≤ lim := Nat.le_of_ble_eq_true h8
            have h9 : (2 * (len + m) + 1000) * bytes ≤ 281474976710656 := Nat.le_of_ble_eq_true h9
            subst hf
            rw [Nat.zero_mul] at h3
            subst h3
            simp only [Nat.zero_add] at h5
            have hS : S ≤ g.nat := R.notStatic hg (x := len * esz) (by omega) (by rw [Nat.add_mul] at h8; omega)
            by_cases hin : len + m ≤ i.capE
            · have hb1 : b0 = i.base := by rcases hb0 with h | ⟨_, h⟩ <;> omega
              subst hb1
              obtain ⟨R1, E1⟩ := Rel.verSame R hg hS hi h7
              have hmul : (len + m) * esz ≤ i.capE * esz := Nat.mul_le_mul_right _ hin
              rw [Nat.add_mul] at hmul h8
              have hn' : concs (φ.upd g (v + 1) i) news = some cn := concs_mono (Env.upd_le (φ := φ) (g := g) (v := v + 1) i (by
                cases hv : φ g (v + 1) with
                | none => rfl
                | some i => exact absurd (RR.vle _ _ hv) (by omega))) _ _ hn
              obtain ⟨w', h10, h11, h12, h13⟩ := stores_ok (P := P) (Env.upd_same φ g (v + 1) i) hS (i.base + len * esz) news cn (len * esz) 0 _ tr (len * esz) w (by omega) R1 (Hp.get_put_same _ _ _) hn' hsrc.one (by omega)
                (by rw [hnl]; omega) (by rw [hnl]; omega) (by rw [hnl]; exact h5)
              rw [Hp.put_put, hnl, show max (len * esz) (len * esz + m * esz) = (len + m) * esz from by rw [Nat.add_mul]; omega] at h12 h13
              have hrun := run_append_in (ty := ty) (cap := i.capE - 0) hO hsrc (by omega) h10
              refine ApRes.mk hrun ?_ h12 (E1.trans R h13) h11
              refine (conc_slice_mk (k := .opn 0) (Env.upd_same _ _ _ _) (show 0 + (len + m) ≤ i.capE by omega)).trans ?_
              rfl
            · obtain ⟨c, lo, hi', hb, hcap, hcc, hfr⟩ := RR.ver v i hi
              have hlb : len * esz ≤ i.capE * esz := Nat.mul_le_mul_right _ (by omega)
              have hle1 : len + m ≤ (len + m) * esz := Nat.le_mul_of_pos_right _ hpos
              have hcv : ∀ j, j < len * esz → i.base + j < c.size := fun j hj => by omega
              generalize hco : (List.range (len * esz)).map (fun j => (c[i.base + j]?).getD default) = co
              have hcol : co.length = len * esz := by rw [← hco]; simp
              have hcog : ∀ j, j < len * esz → co[j]? = c[i.base + j]? := by
                intro j hj
                rw [← hco]
                have := hcv j hj
                simp [hj, this]
              have hold : (Builtin.firstCells esz len (.slice (some ⟨i.block, b0, none⟩) len (i.capE - 0))).run P w.drew = .ok co.toArray w.drew := by
                refine run_firstCells_some _ _ _ _ _ _ co hcol fun j u hj => ?_
                have hj' : j < len * esz := by rw [← hcol]; exact (List.getElem?_eq_some_iff.1 hj).1
                have hb1 : b0 = i.base := by
                  rcases hb0 with h | ⟨h, _⟩
                  · omega
                  · subst h; simp at hj'
                subst hb1
                rw [hcog j hj'] at hj
                rw [addr_add]
                show w.cell? _ = _
                simp [World.cell?, hb, hj]
              have hge := grownCap_ge w (len + m) (i.capE - 0) elem
              have hrun := run_append_grow_src w t tx ty elem ie z hu hie hz (some ⟨i.block, b0, none⟩) len (i.capE - 0) co (by rw [hs1]; exact hold) xv m cn (by rw [hs1]; exact hsrc) (by omega) (by unfold lim at h8; omega)
                (Nat.le_trans (Nat.mul_le_mul_right _ (nextcap_le (by omega))) (by rw [hs2]; exact h9))
              generalize hgc : grownCap w (len + m) (i.capE - 0) elem = gc at hrun hge
              have hsz : ((co ++ cn).toArray ++ Builtin.zeroCells z.cells (gc - (len + m))).size = gc * esz := by
                rw [Array.size_append, List.size_toArray, List.length_append, hcol, hsrc.newsLen]
                simp only [Builtin.zeroCells, Array.size_map, Array.size_range, hzs]
                rw [← Nat.add_mul, ← Nat.add_mul]
                congr 1
                omega
              have hV := Rel.verNew (tr' := stL (v + 1) news (len * esz) tr) (n' := (len + m) * esz) (c := (co ++ cn).toArray ++ Builtin.zeroCells z.cells (gc - (len + m))) (capE := gc) R hg hS h8
                (Nat.mul_le_mul_right _ hge) (by rw [hsz]; exact Nat.le_refl _)
                (by
                  intro y a u hy
                  rw [cellAt_stL (v + 1) news (len * esz) tr _ y h8 (by rw [hnl, ← Nat.add_mul]; exact h8)] at hy
                  have hymax : y < (len + m) * esz := by
                    split at hy
                    · rename_i hh; exact hh.2
                    · unfold cellAt at hy
                      split at hy
                      · assumption
                      · cases hy
                  by_cases hyp : len * esz ≤ y
                  · rw [if_pos ⟨hyp, hymax⟩] at hy
                    have hyl : y - len * esz < news.length := by rw [hnl]; rw [Nat.add_mul] at hymax; omega
                    have hyn := List.getElem?_eq_getElem hyl
                    rw [hyn] at hy
                    cases hy
                    refine ⟨Nat.le_refl _, fun h => by omega, ?_⟩
                    obtain ⟨cv, h10, h11⟩ := concs_get hn _ _ hyn
                    refine ⟨cv, h11, ?_⟩
                    have hlt : y - len * esz < cn.length := (List.getElem?_eq_some_iff.1 h10).1
                    rw [Array.getElem?_append_left (by simp; omega)]
                    simp only [List.getElem?_toArray]
                    rw [List.getElem?_append_right (by omega), hcol, h10]
                  · rw [if_neg (fun hh => hyp hh.1)] at hy
                    have hy' : cellAt tr n y = some (a, u) := by
                      unfold cellAt at hy ⊢
                      rw [if_pos hymax] at hy
                      rw [if_pos (by omega)]
                      exact hy
                    have hu1 := RR.wle _ _ _ hy'
                    refine ⟨by omega, fun _ => hy', ?_⟩
                    obtain ⟨cv, h10, h11⟩ := hcc y a u hy' hu1
                    refine ⟨cv, h10, ?_⟩
                    rw [Array.getElem?_append_left (by simp; omega)]
                    simp only [List.getElem?_toArray]
                    rw [List.getElem?_append_left (by omega), hcog y (by omega), h11])
              refine ApRes.mk hrun ?_ hV.1 hV.2 ⟨rfl, rfl, rfl⟩
              refine (conc_slice_mk (i := ⟨w.heap.size, 0, gc⟩) (k := .opn 0) (Env.upd_same _ _ _ _) (show 0 + (len + m) ≤ gc by omega)).trans ?_
              rfl
          · subst hf; trivial
        · subst hf; trivial
    · subst hf; trivial
  · subst hf; trivial


theorem conc_nils_inv {φ : Env} {cd : Value} (h : conc φ .nils = some cd) : cd = .slice none 0 0 := by
  simp only [conc, Option.some.injEq] at h
  exact h.symm

theorem apB_ok {P : Program} {S : Nat} {φ : Env} {h : Hp} {w : World} (R : Rel S φ h w.heap) {t tx ty e : TypeId} {size bytes : Nat} (hO : apO P t = some (e, size, bytes))
    {d : AVal} {cd : Value} (hd : d ≠ .bot → conc φ d = some cd) {news : List AVal} {cn : List Value} {xv : Value} {m : Nat} (hm : 0 < m) (hn : concs φ news = some cn) (hsrc : Src P size tx xv m cn w) :
    ApRes P S φ h w (apB e size bytes h d m news) (Builtin.append_ #[t, tx] ty #[cd, xv]) := by
  obtain ⟨ie, z, hu, hie, hz, hzs, hs1, hs2, hpos⟩ := apO_spec hO
  generalize hf : apB e size bytes h d m news = r
  unfold apB at hf
  split at hf
  · obtain rfl := conc_nils_inv (hd (fun e => by cases e))
    subst hf
    have := apNew_ok (ty := ty) R hO (base := none) (len := 0) (cap := 0) (olds := []) (co := []) (by simp [concs]) (by simp) (by simp [Builtin.firstCells]) hn hsrc (by omega)
    rwa [Nat.zero_add] at this
  · rename_i g v x len cap
    obtain ⟨i, hi, hco, rfl⟩ := conc_slice (hd (fun e => by cases e))
    split at hf
    · rename_i c
      split at hf
      · rename_i h1
        have h1 : len + m ≤ c := Nat.le_of_ble_eq_true h1
        split at hf
        · rename_i h' hst
          subst hf
          have hnl : news.length = m * size := by rw [← concs_length hn, hsrc.newsLen]
          have hmp : 0 < m * size := Nat.mul_pos hm hpos
          obtain ⟨w', h5, h6, h7, h8⟩ := stG_ok (P := P) R hi hn hst (fun e => by rw [e] at hnl; simp at hnl; omega)
          have h5' : (storeCells ⟨i.block, i.base + x + len * size, none⟩ cn 0).run P w = .ok () w' := by
            rw [Nat.add_assoc]; exact h5
          refine ApRes.mk (run_append_in hO hsrc h1 h5') ?_ h7 h8 h6
          exact (conc_slice_mk (k := .exact c) hi h1).trans rfl
        · subst hf; trivial
      · rename_i h1
        have h1 : ¬ (len + m ≤ c) := fun h => by
          have : Nat.ble (Nat.add len m) c = true := Nat.ble_eq ▸ h
          rw [this] at h1; cases h1
        split at hf
        · rename_i olds hol
          subst hf
          obtain ⟨h3, cs, h4, h5⟩ := ldL_ok R hi _ _ _ hol
          refine apNew_ok R hO h4 h3 ?_ hn hsrc (by show c < len + m; omega)
          exact run_firstCells_some _ _ _ _ _ _ cs (by rw [concs_length h4, h3]; rfl) (fun j u hj => by rw [addr_add]; exact h5 j u hj)
        · subst hf; trivial
    · rename_i k
      rw [← hf]
      exact apOp_ok R hO hi hco (.inl rfl) hm hn hsrc
  · rename_i g v x y k
    obtain ⟨i, hi, hk, rfl⟩ := conc_slc0 (hd (fun e => by cases e))
    rw [← hf]
    refine apOp_ok R hO hi (by omega) ?_ hm hn hsrc
    by_cases h : i.capE = k
    · exact .inr ⟨rfl, h⟩
    · rw [if_neg h]; exact .inl rfl
  · subst hf; trivial

theorem apZ_ok {P : Program} {S : Nat} {φ : Env} {h : Hp} {w : World} (R : Rel S φ h w.heap) {t tx ty e : TypeId} {size bytes : Nat} (hO : apO P t = some (e, size, bytes))
    {d : AVal} {cd : Value} (hd : d ≠ .bot → conc φ d = some cd) {cn : List Value} {xv : Value} (hsrc : Src P size tx xv 0 cn w) :
    ApRes P S φ h w (apZ d h) (Builtin.append_ #[t, tx] ty #[cd, xv]) := by
  obtain ⟨ie, z, hu, hie, hz, hzs, hs1, hs2, hpos⟩ := apO_spec hO
  have hcn : cn = [] := List.length_eq_zero_iff.1 (by rw [hsrc.newsLen]; simp)
  subst hcn
  have hrun : ∀ (base : Option Addr) (len cap : Nat), len ≤ cap → (Builtin.append_ #[t, tx] ty #[.slice base len cap, xv]).run P w = .ok (.slice base len cap) w := by
    intro base len cap hle
    subst hs1
    rcases hsrc.kind with ⟨e', hk⟩ | hk <;> cases base <;> simp [Builtin.append_, run_underlying hu, run_underlying hk, sizeOf, typeInfo, hie, hsrc.len, hsrc.cells, hle, storeCells]
  generalize hf : apZ d h = r
  unfold apZ at hf
  split at hf
  · have hc := hd (fun e => by cases e)
    obtain rfl := conc_nils_inv hc
    subst hf
    exact ApRes.mk (hrun _ _ _ (Nat.le_refl _)) hc R (Ext.refl _ _ _ _) (Wk.refl w)
  · have hc := hd (fun e => by cases e)
    obtain ⟨i, hi, hk, rfl⟩ := conc_slc0 hc
    subst hf
    exact ApRes.mk (hrun _ _ _ (Nat.zero_le _)) hc R (Ext.refl _ _ _ _) (Wk.refl w)
  · rename_i g v x len cap
    have hc := hd (fun e => by cases e)
    obtain ⟨i, hi, hco, rfl⟩ := conc_slice hc
    subst hf
    refine ApRes.mk (hrun _ _ _ ?_) hc R (Ext.refl _ _ _ _) (Wk.refl w)
    cases cap with
    | exact c => exact hco
    | opn k => simp only [capOk] at hco; simp only [capOf]; omega
  · subst hf; trivial

theorem apA_ok {P : Program} {S : Nat} {φ : Env} {h : Hp} {w : World} (R : Rel S φ h w.heap) {t tx ty : TypeId} {isStr : Bool}
    (ht : if isStr then P.underlying tx = some .string else ∃ e, P.underlying tx = some (.slice e))
    {d x : AVal} {cd cx : Value} (hd : d ≠ .bot → conc φ d = some cd) (hx : x ≠ .bot → conc φ x = some cx) :
    ApRes P S φ h w (apA (apO P t) isStr h d x) (Builtin.append_ #[t, tx] ty #[cd, cx]) := by
  generalize hf : apA (apO P t) isStr h d x = r
  unfold apA at hf
  split at hf
  · subst hf; trivial
  · rename_i e size bytes hO
    split at hf
    · subst hf; trivial
    · rename_i m news hs
      obtain ⟨cn, hn, hsrc⟩ := srcA_ok (w := w) R ht hx hs
      split at hf
      · rw [← hf]; exact apZ_ok R hO hd hsrc
      · rw [← hf]; exact apB_ok R hO hd (by omega) hn hsrc

noncomputable def lAp (P : Program) (t : TypeId) (isStr : Bool) (x y : Opd) : LQ := fun s h => apA (apO P t) isStr h (opd x s) (opd y s)

theorem ApRes.lok {P : Program} {S : Nat} {φ : Env} {h : Hp} {w : World} {r : LR} {m : Sem Value} (hr : ApRes P S φ h w r m) {n : Sem Next}
    (hn : ∀ cv w', m.run P w = .ok cv w' → n.run P w = .ok (.value cv) w') : LOk P S φ h w r n := by
  cases r with
  | val x h' =>
    obtain ⟨φ', w', cv, h1, h2, h3, h4, h5⟩ := hr
    exact ⟨φ', w', cv, hn _ _ h1, h2, h3, h4, h5⟩
  | bad => trivial
  | _ => exact hr.elim

theorem args2' {c : Call} {x y : Operand} (ha : c.args.toList = [x, y]) : c.args = #[x, y] := by apply Array.ext'; simp [ha]

theorem lAp_ok {P : Program} {S : Nat} {o : Oper} {c : Call} {x y : Operand} {t tx : TypeId} {isStr : Bool} (hc : c.callee = .builtin .append) (ha : c.args.toList = [x, y]) (hty : c.argTypes.toList = [t, tx])
    (ht : if isStr then P.underlying tx = some .string else ∃ e, P.underlying tx = some (.slice e)) (ho : o.op = .call c) : ImplL P S o (lAp P t isStr (cOpd S x) (cOpd S y)) := by
  intro φ s h a w R hs
  have hty' : c.argTypes = #[t, tx] := by apply Array.ext'; simp [hty]
  refine ApRes.lok (apA_ok (ty := o.type) R ht (fun e => opd_ok R hs e) (fun e => opd_ok R hs e)) fun cv w' hrun => ?_
  rw [run_call_builtin hc ho]
  simp only [builtin, Sem.run_bind, args2 ha, hty', hrun, Result.andThen_ok, Sem.run_pure]

end Go.Abs

/- copy; writing into maps; texts that share bytes; panic. -/
namespace Go.Abs

/- The first n elements of a source. -/
noncomputable def frstA (size : Nat) (n : Nat) (h : Hp) (x : AVal) : Option (List AVal) :=
  match x with
  | .str _ m => match Nat.beq size 1 with
    | true => some (bytesL n m)
    | false => none
  | .slice g v x _ _ => match ldL (h.get g) v (Nat.mul n size) x with
    | some l => match scalL l with
      | true => some l
      | false => none
    | none => none
  | _ => none

def lenS (x : AVal) : Option Nat :=
  match x with
  | .str n _ => some n
  | .nils => some 0
  | .slc0 _ _ _ _ _ => some 0
  | .slice _ _ _ n _ => some n
  | _ => none

theorem lenS_ok {φ : Env} {x : AVal} {cx : Value} {n : Nat} (hx : x ≠ .bot → conc φ x = some cx) (h : lenS x = some n) {P : Program} (w : World) : (Builtin.lenOf cx).run P w = .ok n w := by
  unfold lenS at h
  split at h <;> first | (cases h; done) | skip
  · cases h
    obtain ⟨_, rfl⟩ := conc_str (hx (fun e => by cases e))
    simp only [Builtin.lenOf, sbytes_size, Sem.run_pure]
  · cases h
    have := hx (fun e => by cases e)
    simp only [conc, Option.some.injEq] at this
    subst this
    rfl
  · cases h
    obtain ⟨i, _, _, rfl⟩ := conc_slc0 (hx (fun e => by cases e))
    rfl
  · cases h
    obtain ⟨i, _, _, rfl⟩ := conc_slice (hx (fun e => by cases e))
    rfl

theorem frstA_ok {P : Program} {S : Nat} {φ : Env} {h : Hp} {w : World} (R : Rel S φ h w.heap) {size n k : Nat} {x : AVal} {cx : Value} {l : List AVal} (hx : x ≠ .bot → conc φ x = some cx) (hlen : lenS x = some k) (hk : n ≤ k) (hf : frstA size n h x = some l) :
    l.length = n * size ∧ ∃ cs, concs φ l = some cs ∧ (∀ c ∈ cs, c.oneCell' = true) ∧ (Builtin.firstCells size n cx).run P w = .ok cs.toArray w := by
  unfold frstA at hf
  split at hf
  · rename_i n0 m
    split at hf
    · rename_i h1
      have h1 := Nat.eq_of_beq_eq_true h1
      subst h1
      cases hf
      cases hlen
      obtain ⟨h2, rfl⟩ := conc_str (hx (fun e => by cases e))
      have hb := bytesL_ok φ n m
      refine ⟨by rw [← concs_length hb, byteCells_length, sbytes_size, Nat.mul_one], _, hb, ?_, ?_⟩
      · intro c hc
        obtain ⟨_, _, rfl⟩ := List.mem_map.1 hc
        rfl
      · simp only [Builtin.firstCells, Sem.run_pure]
        congr 1
        apply Array.ext'
        have := sbytes_take k m n hk
        simp [byteCells, ← this]
    · cases hf
  · rename_i g v y len cap
    split at hf
    · rename_i l' hl
      split at hf
      · rename_i hs
        cases hf
        obtain ⟨i, hi, _, rfl⟩ := conc_slice (hx (fun e => by cases e))
        obtain ⟨h3, cs, h4, h5⟩ := ldL_ok R hi _ _ _ hl
        exact ⟨h3, cs, h4, scalL_ok hs h4, run_firstCells_some _ _ _ _ _ _ cs (by rw [concs_length h4, h3]; rfl) (fun j u hj => by rw [addr_add]; exact h5 j u hj)⟩
      · cases hf
    · cases hf
  · cases hf

def minN (a b : Nat) : Nat :=
  match Nat.ble a b with
  | true => a
  | false => b

theorem ble_of {a b : Nat} (h : a ≤ b) : Nat.ble a b = true := Nat.ble_eq ▸ h
theorem not_ble {a b : Nat} (h : Nat.ble a b = false) : ¬ a ≤ b := fun h' => by rw [ble_of h'] at h; cases h

theorem minN_eq (a b : Nat) : minN a b = Nat.min a b := by
  unfold minN
  show _ = min a b
  split
  · rename_i h; have := Nat.le_of_ble_eq_true h; omega
  · rename_i h; have := not_ble h; omega

noncomputable def cpA (O : Option (TypeId × Nat × Nat)) (h : Hp) (d x : AVal) : LR :=
  match O with
  | none => .bad
  | some (_, size, _) => match lenS d, lenS x with
    | some dl, some n => match minN n dl with
      | 0 => match d with
        | .str _ _ => .bad
        | _ => .val (.int .i64 (.ofNat 0)) h
      | k + 1 => match d with
        | .slice g v y _ _ => match frstA size (Nat.succ k) h x with
          | some l => match stG h g v y l with
            | some h' => .val (.int .i64 (.ofNat (Nat.succ k))) h'
            | none => .bad
          | none => .bad
        | _ => .bad
    | _, _ => .bad

noncomputable def lCp (P : Program) (t : TypeId) (x y : Opd) : LQ := fun s h => cpA (apO P t) h (opd x s) (opd y s)

theorem firstCells_zero {P : Program} {φ : Env} {size : Nat} {x : AVal} {cx : Value} {n : Nat} (hx : x ≠ .bot → conc φ x = some cx) (hl : lenS x = some n) (w : World) : (Builtin.firstCells size 0 cx).run P w = .ok #[] w := by
  unfold lenS at hl
  split at hl <;> first | (cases hl; done) | skip
  · obtain ⟨_, rfl⟩ := conc_str (hx (fun e => by cases e))
    simp only [Builtin.firstCells, Sem.run_pure]
    congr 1
    apply Array.ext'
    simp
  · have := hx (fun e => by cases e)
    simp only [conc, Option.some.injEq] at this
    subst this
    rfl
  · obtain ⟨i, _, _, rfl⟩ := conc_slc0 (hx (fun e => by cases e))
    simp [Builtin.firstCells, loadCells, loadCellsFrom]
  · obtain ⟨i, _, _, rfl⟩ := conc_slice (hx (fun e => by cases e))
    simp [Builtin.firstCells, loadCells, loadCellsFrom]

theorem conc_sliceLike {φ : Env} {d : AVal} {cd : Value} {dl : Nat} (hd : d ≠ .bot → conc φ d = some cd) (hl : lenS d = some dl) (hs : ∀ n m, d ≠ .str n m) : ∃ base cap, cd = .slice base dl cap := by
  unfold lenS at hl
  split at hl <;> first | (cases hl; done) | skip
  · exact absurd rfl (hs _ _)
  · cases hl
    exact ⟨none, 0, conc_nils_inv (hd (fun e => by cases e))⟩
  · cases hl
    obtain ⟨i, _, _, rfl⟩ := conc_slc0 (hd (fun e => by cases e))
    exact ⟨_, _, rfl⟩
  · cases hl
    obtain ⟨i, _, _, rfl⟩ := conc_slice (hd (fun e => by cases e))
    exact ⟨_, _, rfl⟩

theorem cpA_ok {P : Program} {S : Nat} {φ : Env} {h : Hp} {w : World} (R : Rel S φ h w.heap) {t tx ty : TypeId} {d x : AVal} {cd cx : Value} (hd : d ≠ .bot → conc φ d = some cd) (hx : x ≠ .bot → conc φ x = some cx) :
    ApRes P S φ h w (cpA (apO P t) h d x) (Builtin.copy_ #[t, tx] ty #[cd, cx]) := by
  generalize hf : cpA (apO P t) h d x = r
  unfold cpA at hf
  split at hf
  · subst hf; trivial
  · rename_i e size bytes hO
    obtain ⟨ie, z, hu, hie, hz, hzs, hs1, hs2, hpos⟩ := apO_spec hO
    split at hf
    · rename_i dl n hdl hn
      split at hf
      · rename_i hmin
        rw [minN_eq] at hmin
        split at hf
        · subst hf; trivial
        · rename_i hstr
          subst hf
          obtain ⟨base, cap, rfl⟩ := conc_sliceLike hd hdl (fun a b e => hstr a b e)
          refine ApRes.mk (φ' := φ) (w' := w) (cv := .int .i64 0) ?_ (by simp [conc]) R (Ext.refl _ _ _ _) (Wk.refl w)
          cases base <;> simp [Builtin.copy_, run_underlying hu, lenS_ok hx hn w, sizeOf, typeInfo, hie, hmin, firstCells_zero hx hn w, storeCells, goInt]
      · rename_i k hmin
        rw [minN_eq] at hmin
        split at hf
        · rename_i g v y len cap
          cases hdl
          obtain ⟨i, hi, _, rfl⟩ := conc_slice (hd (fun e => by cases e))
          split at hf
          · rename_i l hl
            split at hf
            · rename_i h' hst
              subst hf
              have hle : k + 1 ≤ n := by rw [show k + 1 = n.min dl from hmin.symm]; exact Nat.min_le_left _ _
              obtain ⟨h1, cs, h2, h3, h4⟩ := frstA_ok (P := P) R hx hn hle hl
              have hne : l ≠ [] := fun e => by
                have : 0 < (k + 1) * size := Nat.mul_pos (by omega) hpos
                rw [e] at h1; simp at h1; omega
              obtain ⟨w', h5, h6, h7, h8⟩ := stG_ok (P := P) R hi h2 hst hne
              refine ApRes.mk (φ' := φ) (w' := w') (cv := .int .i64 (.ofNat (k + 1))) ?_ (by simp [conc]) h7 h8 h6
              subst hs1
              simp [Builtin.copy_, run_underlying hu, lenS_ok hx hn w, sizeOf, typeInfo, hie, hmin, h4, h5, goInt]
            · subst hf; trivial
          · subst hf; trivial
        · subst hf; trivial
    · subst hf; trivial

theorem lCp_ok {P : Program} {S : Nat} {o : Oper} {c : Call} {x y : Operand} {t tx : TypeId} (hc : c.callee = .builtin .copy) (ha : c.args.toList = [x, y]) (hty : c.argTypes.toList = [t, tx])
    (ho : o.op = .call c) : ImplL P S o (lCp P t (cOpd S x) (cOpd S y)) := by
  intro φ s h a w R hs
  have hty' : c.argTypes = #[t, tx] := by apply Array.ext'; simp [hty]
  refine ApRes.lok (cpA_ok (ty := o.type) (tx := tx) R (fun e => opd_ok R hs e) (fun e => opd_ok R hs e)) fun cv w' hrun => ?_
  rw [run_call_builtin hc ho]
  simp only [builtin, Sem.run_bind, args2 ha, hty', hrun, Result.andThen_ok, Sem.run_pure]


/- Maps are written. -/
theorem sameBits_ok {φ : Env} {P : Program} {D : TypeDesc} (hD : keyD D = true) {x y : AVal} {cx cy : Value} (h : eqSc P D x y = some true) (hx : conc φ x = some cx) (hy : conc φ y = some cy) (n : Nat) :
    Instr.sameBits n cy cx = true := by
  have h2 := sameNow_ok hD h hx hy
  cases D <;> first | (cases hD; done) | skip
  all_goals
    (cases cx <;> cases cy <;> simp [Instr.sameNow] at h2 <;> cases n <;> first | (simp_all [Instr.sameBits]; done) | skip)
  all_goals
    (simp only [Instr.sameBits]
     rw [beq_toListBytes] at h2 ⊢
     rw [beq_iff_eq] at h2 ⊢
     exact h2.symm)

def muO (P : Program) (t : TypeId) : Option TypeDesc :=
  match P.underlying t with
  | some (.map key _) => match P.underlying key with
    | some D => match keyD D with
      | true => some D
      | false => none
    | none => none
  | _ => none

theorem muO_spec {P : Program} {t : TypeId} {D : TypeDesc} (h : muO P t = some D) : ∃ key elem, P.underlying t = some (.map key elem) ∧ P.underlying key = some D ∧ keyD D = true := by
  unfold muO at h
  split at h
  · rename_i key elem hu
    split at h
    · rename_i D' hk
      split at h
      · rename_i hd; cases h; exact ⟨key, elem, hu, hk, hd⟩
      · cases h
    · cases h
  · cases h

def snocE (es : Ents) (e : AVal × AVal × Nat) : Ents :=
  match es with
  | [] => [e]
  | a :: es => a :: snocE es e

theorem snocE_eq (es : Ents) (e : AVal × AVal × Nat) : snocE es e = es ++ [e] := by
  induction es with
  | nil => rfl
  | cons a es ih => simp [snocE, ih]

def setE (k v : AVal) : Ents → Nat → Ents
  | [], _ => []
  | e :: es, 0 => (k, v, e.2.2) :: es
  | e :: es, p + 1 => e :: setE k v es p

theorem setE_get (k v : AVal) : ∀ (es : Ents) (p j : Nat) (e : AVal × AVal × Nat), (setE k v es p)[j]? = some e → (j ≠ p ∧ es[j]? = some e) ∨ (j = p ∧ ∃ e0, es[p]? = some e0 ∧ e = (k, v, e0.2.2)) := by
  intro es
  induction es with
  | nil => intro p j e h; simp [setE] at h
  | cons a es ih =>
    intro p j e h
    cases p with
    | zero =>
      cases j with
      | zero => simp [setE] at h; exact .inr ⟨rfl, a, rfl, h.symm⟩
      | succ j => exact .inl ⟨by omega, by simpa [setE] using h⟩
    | succ p =>
      cases j with
      | zero => exact .inl ⟨by omega, by simpa [setE] using h⟩
      | succ j =>
        simp only [setE, List.getElem?_cons_succ] at h
        rcases ih p j e h with ⟨h1, h2⟩ | ⟨h1, h2⟩
        · exact .inl ⟨by omega, by simpa using h2⟩
        · exact .inr ⟨by omega, by simpa using h2⟩

theorem setE_length (k v : AVal) : ∀ (es : Ents) (p : Nat), (setE k v es p).length = es.length := by
  intro es
  induction es with
  | nil => intro p; rfl
  | cons a es ih => intro p; cases p with
    | zero => rfl
    | succ p => simp [setE, ih]

noncomputable def muA (P : Program) (O : Option TypeDesc) (h : Hp) (m k v : AVal) : LR :=
  match O with
  | none => .bad
  | some D => match m with
    | .map g => match h.get g with
      | .map es clock => match isBot k, isBot v with
        | false, false => match mpAt P D k es 0 with
          | none => .bad
          | some none => .skp (h.put g (.map (snocE es (k, v, clock)) (Nat.succ clock)))
          | some (some (p, _)) => .skp (h.put g (.map (setE k v es p) clock))
        | _, _ => .bad
      | _ => .bad
    | _ => .bad

noncomputable def lMu (P : Program) (t : TypeId) (m k v : Opd) : LQ := fun s h => muA P (muO P t) h (opd m s) (opd k s) (opd v s)

theorem mpAt_key {P : Program} {D : TypeDesc} {k : AVal} : ∀ (es : Ents) (i p : Nat) (v : AVal), mpAt P D k es i = some (some (p, v)) → ∃ e, es[p - i]? = some e ∧ i ≤ p ∧ eqSc P D k e.1 = some true := by
  intro es
  induction es with
  | nil => intro i p v h; cases h
  | cons e es ih =>
    intro i p v h
    unfold mpAt at h
    split at h
    · cases h
    · rename_i he
      cases h
      exact ⟨e, by simp, Nat.le_refl _, he⟩
    · obtain ⟨e', h1, h2, h3⟩ := ih _ _ _ h
      have h2 : i + 1 ≤ p := h2
      refine ⟨e', ?_, by omega, h3⟩
      rw [show p - i = (p - (i + 1)) + 1 from by omega, List.getElem?_cons_succ]
      exact h1

theorem run_setObj {P : Program} {r : Nat} {es : Array MapEntry} {clock : Nat} {w : World} (h : w.heap[r]? = some (.map es clock)) (ob : Obj) : (setObj r ob).run P w = .ok () { w with heap := w.heap.setIfInBounds r ob } := by
  simp only [setObj, Sem.run, h]

theorem muA_ok {P : Program} {S : Nat} {φ : Env} {h : Hp} {w : World} (R : Rel S φ h w.heap) {t : TypeId} {m k v : AVal} {cm ck cv : Value} (hm : m ≠ .bot → conc φ m = some cm) (hk : k ≠ .bot → conc φ k = some ck) (hv : v ≠ .bot → conc φ v = some cv)
    {n : Sem Next} (hn : ∀ w', (Instr.mapUpdate t cm ck cv).run P w = .ok () w' → n.run P w = .ok .skip w') : LOk P S φ h w (muA P (muO P t) h m k v) n := by
  generalize hf : muA P (muO P t) h m k v = r
  unfold muA at hf
  split at hf
  · subst hf; trivial
  · rename_i D hO
    obtain ⟨key, elem, hu, hkk, hD⟩ := muO_spec hO
    split at hf
    · rename_i g
      obtain ⟨i, hi, rfl⟩ := conc_map (hm (fun e => by cases e))
      split at hf
      · rename_i es clock hg
        obtain ⟨i', ces, h2, h3, h4, h5⟩ := (R.map _ _ _ hg).at0
        rw [hi] at h2
        cases h2
        have hS := R.rom _ _ _ hg
        split at hf
        · rename_i hb1 hb2
          have hkc := hk (isBot_false hb1)
          have hvc := hv (isBot_false hb2)
          have hobj : (getObj i.block).run P w = .ok (.map ces clock) w := by simp only [getObj, Sem.run, h3]
          have hat : ∀ r, mpAt P D k es 0 = some r → _ := fun r hr => mpAt_ok hD hkc es ces.toList 0 r (by rw [← h4]; simp) (fun j e he => by simpa using h5 j e he) hr
          split at hf
          · subst hf; trivial
          · rename_i hat0
            subst hf
            have h6 := hat none hat0
            obtain ⟨h7, h8⟩ := Rel.mapSet (es' := snocE es (k, v, clock)) (clock' := clock + 1) (ces' := ces.push { key := ck, val := cv, born := clock }) R hg hS hi (by rw [snocE_eq]; simp [h4])
              (by
                intro j e he
                rw [snocE_eq] at he
                by_cases hj : j < es.length
                · rw [List.getElem?_append_left hj] at he
                  obtain ⟨m, h9, h10⟩ := h5 j e he
                  exact ⟨m, by rw [Array.getElem?_push, if_neg (by omega)]; exact h9, h10⟩
                · rw [List.getElem?_append_right (by omega)] at he
                  have hj0 : j - es.length = 0 := by
                    have := (List.getElem?_eq_some_iff.1 he).1
                    simp at this; omega
                  rw [hj0] at he
                  simp at he
                  subst he
                  exact ⟨_, by rw [Array.getElem?_push, if_pos (by omega)], hkc, hvc, rfl⟩)
            refine ⟨φ, { w with heap := w.heap.setIfInBounds i.block (.map (ces.push { key := ck, val := cv, born := clock }) (clock + 1)) }, hn _ ?_, h7, h8, ⟨rfl, rfl, rfl⟩⟩
            simp only [Instr.mapUpdate, Sem.run_bind, run_underlying hu, Result.andThen_ok, hobj]
            rw [run_checkKey hkk hD]
            simp only [Result.andThen_ok, Instr.findKey, Sem.run_bind, run_underlying hkk, h6, Sem.run_pure, run_setObj h3]
          · rename_i p v0 hat0
            subst hf
            obtain ⟨cv0, _, h6, _, h6l⟩ := hat _ hat0
            obtain ⟨e0, h7, _, h8⟩ := mpAt_key es 0 p v0 hat0
            rw [Nat.sub_zero] at h7
            obtain ⟨m0, h9, h10⟩ := h5 p e0 h7
            have hsb := sameBits_ok hD h8 hkc h10.1 10000
            obtain ⟨h11, h12⟩ := Rel.mapSet (es' := setE k v es p) (clock' := clock) (ces' := ces.modify p fun e => { e with key := ck, val := cv }) R hg hS hi (by rw [setE_length]; simp [h4])
              (by
                intro j e he
                rcases setE_get k v es p j e he with ⟨hj, he'⟩ | ⟨hj, e1, he', rfl⟩
                · obtain ⟨m, h13, h14⟩ := h5 j e he'
                  exact ⟨m, by rw [Array.getElem?_modify, if_neg (fun e => hj e.symm)]; exact h13, h14⟩
                · subst hj
                  obtain ⟨m, h13, h14⟩ := h5 j e1 he'
                  exact ⟨{ m with key := ck, val := cv }, by rw [Array.getElem?_modify, if_pos rfl, h13]; rfl, hkc, hvc, h14.2.2⟩)
            refine ⟨φ, { w with heap := w.heap.setIfInBounds i.block (.map (ces.modify p fun e => { e with key := ck, val := cv }) clock) }, hn _ ?_, h11, h12, ⟨rfl, rfl, rfl⟩⟩
            simp only [Instr.mapUpdate, Sem.run_bind, run_underlying hu, Result.andThen_ok, hobj]
            rw [run_checkKey hkk hD]
            simp only [Result.andThen_ok, Instr.findKey, Sem.run_bind, run_underlying hkk, h6, Sem.run_pure, run_setObj h3, h9, Option.map_some, Option.getD_some, Instr.keyThatStays, hsb, if_true]
        · subst hf; trivial
      · subst hf; trivial
    · subst hf; trivial

theorem lMu_ok {P : Program} {S : Nat} {o : Oper} {t : TypeId} {m k v : Operand} (ho : o.op = .mapUpdate t m k v ∨ o.op = .insert t m k v) : ImplL P S o (lMu P t (cOpd S m) (cOpd S k) (cOpd S v)) := by
  intro φ s h a w R hs
  refine muA_ok R (fun e => opd_ok R hs e) (fun e => opd_ok R hs e) (fun e => opd_ok R hs e) fun w' hrun => ?_
  rcases ho with ho | ho <;> simp only [execOp, ho, Sem.run_bind, hrun, Result.andThen_ok, Sem.run_pure]

/- panic. -/
def pnA (x : AVal) : LR :=
  match x with
  | .iface t v => .pan (.iface t v)
  | _ => .bad

noncomputable def lPn (x : Opd) : LQ := fun s _ => pnA (opd x s)

theorem pnA_ok {P : Program} {S : Nat} {φ : Env} {h : Hp} {w : World} {x : AVal} {cx : Value} (hx : x ≠ .bot → conc φ x = some cx) {n : Sem Next} (hn : ∀ hl, (Instr.panic cx).run P w = .halt hl w → n.run P w = .halt hl w) : LOk P S φ h w (pnA x) n := by
  unfold pnA
  split
  · have hc := hx (fun e => by cases e)
    obtain ⟨l, _, rfl⟩ := conc_iface hc
    exact ⟨_, hc, hn _ rfl⟩
  · trivial

theorem lPn_ok {P : Program} {S : Nat} {o : Oper} {x : Operand} (ho : o.op = .panic x) : ImplL P S o (lPn (cOpd S x)) := by
  intro φ s h a w R hs
  refine pnA_ok (fun e => opd_ok R hs e) fun hl hrun => ?_
  simp only [execOp, ho, Sem.run_bind, hrun, Result.andThen]

theorem lPnB_ok {P : Program} {S : Nat} {o : Oper} {c : Call} {x : Operand} (hc : c.callee = .builtin .panic) (ha : c.args.toList = [x]) (ho : o.op = .call c) : ImplL P S o (lPn (cOpd S x)) := by
  intro φ s h a w R hs
  refine pnA_ok (fun e => opd_ok R hs e) fun hl hrun => ?_
  rw [run_call_builtin hc ho]
  simp only [builtin, Sem.run_bind, args1 ha]
  show Result.andThen ((Instr.panic (a.eval x)).run P w) _ = _
  rw [hrun]
  rfl

end Go.Abs
