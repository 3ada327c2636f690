/- PrintKnown: the call in two pieces: up to the number of the text, and from there on: if the second piece comes to true at each of the sixteen texts, the call returns true at every argument. -/
import Derived.Test.YtdoafpliifhbaaaGreatDoorE5
import Derived.KernelRfl
import Derived.Test.YtdoafpliifhbaaaGreatDoorChecked
open Go Go.Abs
namespace Go.Proofs.YtdoafpliifhbaaaGreatDoor.PK
set_option maxRecDepth 100000
noncomputable def body : Code := Option.rec (motive := fun _ => Code) .skip (fun c => c) Tryz.f3.body
theorem hb : Tryz.f3.body = some body := by kernel_rfl
noncomputable def E : EvC := evcF Tryz.prog 0 1000
noncomputable def pre (n : Nat) : ER := evL E.ev Tryz.f3.ntmps ((flatC body []).take 4) (argS 0 [.int .u8 (.ofNat n)] (sNil (expM Tryz.f3))) [] h00
noncomputable def s1 (n : Nat) : Sl := ER.rec (motive := fun _ => Sl) (sNil 0) (fun s _ _ => s) (fun _ s _ _ => s) (fun s _ _ => s) (fun _ s _ _ => s) (pre n)
noncomputable def h1 : Hp := ER.rec (motive := fun _ => Hp) h00 (fun _ _ h => h) (fun _ _ _ h => h) (fun _ _ h => h) (fun _ _ _ h => h) (pre 0)
theorem pre_eq (n : Nat) : pre n = .nrm (s1 n) [] h1 := by kernel_rfl
noncomputable def s2 (k : Nat) : Sl := sset 2 (.bool false) (sset 3 (sget 3 (s1 0)) (sset 4 (sget 4 (s1 0)) (sset 5 (.int .i64 (.ofNat k)) (sNil (expM Tryz.f3)))))
theorem e2 (n : Nat) : sget 2 (s1 n) = .bool false := by kernel_rfl
theorem e3 (n : Nat) : sget 3 (s1 n) = sget 3 (s1 0) := by kernel_rfl
theorem e4 (n : Nat) : sget 4 (s1 n) = sget 4 (s1 0) := by kernel_rfl
noncomputable def all5 (n : Nat) : Bool := Nat.rec (motive := fun _ => Bool) true (fun m ih => Bool.rec (motive := fun _ => Bool) false ih (sameB (.int .i64 (.ofNat (Nat.mod m 16))) (sget 5 (s1 m)))) n
theorem all5_ok : all5 256 = true := by kernel_rfl
theorem all5_spec : ∀ {n m : Nat}, all5 n = true → m < n → AVal.int .i64 (.ofNat (Nat.mod m 16)) = sget 5 (s1 m) := by
  intro n
  induction n with
  | zero => intro m _ h; exact absurd h (Nat.not_lt_zero _)
  | succ n ih =>
    intro m ha hm
    have ha : Bool.rec (motive := fun _ => Bool) false (all5 n) (sameB (.int .i64 (.ofNat (Nat.mod n 16))) (sget 5 (s1 n))) = true := ha
    cases hs : sameB (.int .i64 (.ofNat (Nat.mod n 16))) (sget 5 (s1 n)) with
    | false => rw [hs] at ha; cases ha
    | true =>
      rw [hs] at ha
      rcases Nat.lt_or_eq_of_le (Nat.le_of_lt_succ hm) with h | h
      · exact ih ha h
      · subst h; exact sameB_eq hs
theorem hle {n : Nat} (hn : n < 256) : ∀ m, sget m (s2 (Nat.mod n 16)) ≠ .bot → sget m (s2 (Nat.mod n 16)) = sget m (s1 n) := by
  intro m hm
  unfold s2 at hm ⊢
  by_cases h2 : m = 2
  · subst h2; rw [sget_same, e2]
  rw [sget_ne h2] at hm ⊢
  by_cases h3 : m = 3
  · subst h3; rw [sget_same]; exact (e3 n).symm
  rw [sget_ne h3] at hm ⊢
  by_cases h4 : m = 4
  · subst h4; rw [sget_same]; exact (e4 n).symm
  rw [sget_ne h4] at hm ⊢
  by_cases h5 : m = 5
  · subst h5; rw [sget_same]; exact all5_spec all5_ok hn
  rw [sget_ne h5, sget_nil] at hm
  exact absurd rfl hm
noncomputable def res (k : Nat) : CR := finR Tryz.prog 0 E.cal E.ev Tryz.f3 (evL E.ev Tryz.f3.ntmps ((flatC body []).drop 4) (s2 k) [] h1)
theorem room : Nat.ble 1 Tryz.f3.ntmps = true := by kernel_rfl
theorem follows : Tryz.prog.follows .mixedOrders = true := by kernel_rfl
theorem calls (hr : ∀ k, k < 16 → isTrue (res k) = true) {n : Nat} (hn : n < 256) (w : World) : Calls Tryz.prog 3 #[.int .u8 (Int.ofNat n)] w fun e w' => e = .returned (.bool true) ∧ RowKit.Below w.heap.size w w' := by
  have h := hr (Nat.mod n 16) (Nat.mod_lt _ (by decide))
  have hs := evcF_sound2 follows 0 1000
  refine (call_split (w := w) (h := h00) (φ := φ00) hs.2 hs.1 Tryz.func3 hb 4 (args := [.int .u8 (.ofNat n)]) (cargs := [.int .u8 (Int.ofNat n)]) (x := expM Tryz.f3) (Nat.le_of_ble_eq_true room) (pre_eq n) (hle hn) (r := res (Nat.mod n 16)) rfl ?_ (rel00 _) (by simp [concs, conc])).mono fun e w' he => post00 h he
  obtain ⟨hp, h1⟩ := isTrue_ok h
  rw [h1]
  exact fun e => by cases e
end Go.Proofs.YtdoafpliifhbaaaGreatDoor.PK
