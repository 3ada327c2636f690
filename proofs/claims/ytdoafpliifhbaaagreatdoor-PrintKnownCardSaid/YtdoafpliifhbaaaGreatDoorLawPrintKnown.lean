/- PrintKnown: whatever the number, the call returns true, and the argument reads as it did. The row lists three tables of the library; nothing is asked of them. -/
import Derived.Test.YtdoafpliifhbaaaGreatDoorPK0
import Derived.Test.YtdoafpliifhbaaaGreatDoorPK1
import Derived.Test.YtdoafpliifhbaaaGreatDoorPK2
import Derived.Test.YtdoafpliifhbaaaGreatDoorPK3
import Derived.Test.YtdoafpliifhbaaaGreatDoorCards
import Derived.Test.YtdoafpliifhbaaaGreatDoorTie
import Derived.ProofKit
import Derived.LaidMore
import Derived.OpenShut
import Derived.ShutString
import Derived.Stop.Joined
import Derived.SevenTiedAt
open Go Go.Abs
namespace Go.Proofs.YtdoafpliifhbaaaGreatDoor
open Go.ChangeShapes Go.WideShapes Go.ChangeAt Go.RowKit
set_option maxRecDepth 100000
theorem allK : ∀ k, k < 16 → isTrue (PK.res k) = true
  | 0, _ => PK.r0
  | 1, _ => PK.r1
  | 2, _ => PK.r2
  | 3, _ => PK.r3
  | 4, _ => PK.r4
  | 5, _ => PK.r5
  | 6, _ => PK.r6
  | 7, _ => PK.r7
  | 8, _ => PK.r8
  | 9, _ => PK.r9
  | 10, _ => PK.r10
  | 11, _ => PK.r11
  | 12, _ => PK.r12
  | 13, _ => PK.r13
  | 14, _ => PK.r14
  | 15, _ => PK.r15
  | k + 16, h => absurd h (by omega)
theorem own : ownKnob Tryz.prog.godebug = none := by kernel_rfl
theorem door_met (os : Os) (args : Array Value) : laidMetH Tryz.prog Rows.printKnownRow.laid ((World.doorLaid Tryz.prog 400 os).forCall (fun _ _ => 0) ⟨#[], args, []⟩).memory :=
  laidMetH_of_parts3 (fuel := 8) (laidMet_of_run' 8 (by kernel_rfl) (by kernel_rfl)) (by kernel_rfl) (by kernel_rfl)
theorem lifted (os : Os) (started : os.Started) (H : Type) (enc : TypeId × Value → H) :
    ReturnsInHanded {} Tryz.checked os 3 .any (fun w args => (Rows.printKnownSpec.pre enc Tryz.prog Tryz.f3 [] false w args ∧ laidMetH Tryz.prog Rows.printKnownRow.laid w) ∧ sizedMet enc Tryz.prog Tryz.f3 (OpenSpec.ofChange Rows.printKnownSpec) false w args)
      (Rows.printKnownSpec.post enc Tryz.prog Tryz.f3 false true false false) := by
  refine returnsInHanded_of_change_and (C := Tryz.checked) (X := fun w _ => laidMetH Tryz.prog Rows.printKnownRow.laid w) (fun _ _ _ hh h => h.of_heap hh) own started (by kernel_rfl) Tryz.func3
    (ChangeSpec.witness_shaped (enc := enc) (C := Tryz.checked) (os := os) (X := fun w _ => laidMetH Tryz.prog Rows.printKnownRow.laid w) false (World.doorLaid Tryz.prog 400 os) #[.int .u8 0] 8 rfl (World.shaped_of_RefB (by kernel_rfl) (by kernel_rfl)) (by kernel_rfl) (by kernel_rfl) (by kernel_rfl) (door_met os _)) ?_
  intro W base args ds gs before hval0 hW _ _ hL _
  have hval : ∀ (j : Nat) t v, Tryz.f3.params[j]? = some t → args[j]? = some v → Value.okWide Tryz.prog W .any base t v := hval0
  have hW' := hW
  obtain ⟨p, q, hA0, hV, rfl, hfz, hnd⟩ := hW
  have hA : DataW.TrodAll enc Tryz.prog W 0 (fun _ => true) true Tryz.f3.params.toList args.toList ds p := hA0
  rw [Tryz.params3] at hA hval
  obtain ⟨v0, d0, rfl, rfl, h0⟩ := trodAll_one hA
  obtain ⟨rfl, rfl⟩ := trodVars_none hV
  obtain ⟨n, rfl, rfl, rfl, hw⟩ := open_int Tryz.underlying5 (hval 0 5 v0 rfl rfl) h0
  have hn : ∃ m : Nat, m < 256 ∧ n = Int.ofNat m := by
    have e1 : IntKind.u8.min = 0 := by decide
    have e2 : IntKind.u8.max = 255 := by decide
    simp [Lit.wf, e1, e2] at hw
    exact ⟨n.toNat, by omega, by simp only [Int.ofNat_eq_natCast]; omega⟩
  obtain ⟨m, hm, rfl⟩ := hn
  clear hA0 hval0
  refine (PK.calls allK hm W).mono fun e W' ⟨he, bel⟩ => ?_
  subst he
  exact ⟨_, rfl, _, _, _, [], _, [], hW', trodAll_mk1 (shut_bool Tryz.underlying4 _), trodAll_mk1 (shut_int Tryz.underlying5 hw), rfl, bel.frame _, fun h => by cases h⟩

theorem printKnown_holds : Rows.PrintKnownSaid :=
  OpenClaim.holds_of_wide 3 Tryz.f3 rfl rfl rfl rfl rfl rfl rfl ⟨rfl, rfl, rfl, rfl, rfl⟩ rfl rfl rfl rfl rfl (by kernel_rfl) Tryz.func3 (by kernel_rfl)
    (of_decide_eq_true (by kernel_rfl)) (by unfold Func.isWrapper; first | (rw [if_pos (by decide +kernel)]; kernel_rfl) | (rw [if_neg (by decide +kernel)]; exact ⟨rfl, rfl⟩))
    (fun os started H enc _ => lifted os started H enc)

theorem printKnown_card : Rows.PrintKnownCardSaid :=
  Claim7.holds_tied_plain_at .later [] [.data, .data, .data] true (true, "6c1c4ed2e63d374dcb3a2a32792e4210f47cc9fe6ef93ed95d91eb0b521a316f") true
    printKnown_holds (fun _ h => by cases h) (by kernel_rfl) (fun _ h => by cases h) printKnown_row_tie rfl ⟨rfl, rfl⟩ (by kernel_rfl) rfl
    (fun f fn hf hfn => by
      obtain rfl : f = 3 := Option.some.inj ((show Tryz.prog.funcNamed "boomerang/boomeranglaw9.PrintKnown" = some 3 by kernel_rfl).symm.trans hf) |>.symm
      obtain rfl : fn = Tryz.f3 := (Option.some.inj (Tryz.func3.symm.trans hfn)).symm
      exact ⟨by kernel_rfl, fun j t ht => by
        rw [Tryz.params3] at ht
        have hm : t ∈ [5] := by simpa using Array.mem_of_getElem? ht
        have hall : ([5].all fun u => !Tryz.prog.wantsStandIn u) = true := by kernel_rfl
        exact (show Tryz.prog.wantsStandIn t = false by simpa using List.all_eq_true.1 hall t hm)⟩)
    (by kernel_rfl)
#print axioms printKnown_card
end Go.Proofs.YtdoafpliifhbaaaGreatDoor
