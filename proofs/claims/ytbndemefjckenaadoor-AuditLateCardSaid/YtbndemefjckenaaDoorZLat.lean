/- PROVED: the tied card of 'baileelaw24.AuditLate': for every row of bytes, and any two bytes, the law returns true. Each argument reads as it did. The listed variable reads as the program's text lays it (the given tie). -/
import Derived.Test.YtbndemefjckenaaDoorM5
import Derived.Test.YtbndemefjckenaaDoorRows
import Derived.Test.YtbndemefjckenaaDoorTie
import Derived.Test.YtbndemefjckenaaDoorCards
import Derived.ProofKit
import Derived.LaidMore
import Derived.OpenShut
import Derived.ShutString
import Derived.ChangeOld
import Derived.Below
import Derived.Stop.Joined
import Derived.SevenTiedAt
set_option linter.unusedVariables false
namespace Go.Proofs.YtbndemefjckenaaDoor
open Go Go.ChangeShapes Go.WideShapes Go.ChangeAt Go.RowKit
open Go.ChangeMaps (open_string shut_string)
theorem auditLate_walk {W : World} {v0 : Value} {bs0 : List Nat} {n1 : Nat} {n2 : Nat} (x0 : (Px.rows Px.EY v0 bs0).holds W) (b8_0 : Px.B8 bs0) (len0 : bs0.length ≤ 9223372036854775807) (lt1 : n1 < 256) (lt2 : n2 < 256) (hL : laidMetH Tryd.prog [("bailee/digest.rounds", Rows.laid_bailee_digest_rounds)] W) :
    Calls Tryd.prog 6 #[v0, Px.Y n1, Px.Y n2] W fun e w' => e = .returned (.bool true) ∧ Below W.heap.size W w' := by
  obtain ⟨e0, h0⟩ := Px.of_laid hL
  have hs := Px.st_first h0
  have hs := hs.came (by simp) x0
  refine (Px.auditLate_ok (K := fun r w => r = .bool true ∧ Below W.heap.size W w) (e0 := e0) hs (by simp) (by simp) b8_0 len0 lt1 lt2 fun w hs => ⟨rfl, Px.below_of hs (by simp)⟩).mono fun e w' h => ?_
  obtain ⟨r, rfl, rfl, h2⟩ := h
  exact ⟨rfl, h2⟩
set_option maxRecDepth 100000 in
theorem auditLate_lifted (os : Os) (started : os.Started) (H : Type) (enc : TypeId × Value → H) :
    ReturnsInHanded {} Tryd.checked os 6 .any (fun w args => (Rows.auditLateSpec.pre enc Tryd.prog Tryd.f6 [] false w args ∧ laidMetH Tryd.prog [("bailee/digest.rounds", Rows.laid_bailee_digest_rounds)] w) ∧ sizedMet enc Tryd.prog Tryd.f6 (OpenSpec.ofChange Rows.auditLateSpec) false w args)
      (Rows.auditLateSpec.post enc Tryd.prog Tryd.f6 false true false false) := by
  refine returnsInHanded_of_change_and (C := Tryd.checked) (X := fun w _ => laidMetH Tryd.prog [("bailee/digest.rounds", Rows.laid_bailee_digest_rounds)] w) (fun _ _ _ hh h => h.of_heap hh) Px.own_knob started (by kernel_rfl) Tryd.func6
    (ChangeSpec.witness_shaped (enc := enc) (C := Tryd.checked) (os := os) (X := fun w _ => laidMetH Tryd.prog [("bailee/digest.rounds", Rows.laid_bailee_digest_rounds)] w) false (World.doorLaid Tryd.prog 400 os) #[.slice none 0 0, .int .u8 0, .int .u8 0] 8 rfl (World.shaped_of_RefB (by kernel_rfl) (by kernel_rfl)) (by kernel_rfl) (by kernel_rfl) (by kernel_rfl) (Px.door_met os _)) ?_
  intro W base args ds gs before hval0 hW _ _ hL _
  have hval : ∀ (j : Nat) t v, Tryd.f6.params[j]? = some t → args[j]? = some v → Value.okWide Tryd.prog W .any base t v := hval0
  have hW' := hW
  obtain ⟨p, q, hA0, hV, rfl, hfz, hnd⟩ := hW
  have hA : DataW.TrodAll enc Tryd.prog W 0 (fun _ => true) true Tryd.f6.params.toList args.toList ds p := hA0
  rw [Tryd.params6] at hA hval
  obtain ⟨v0, vs0, d0, ds0, p0, q0, hargs, rfl, rfl, h0, r0⟩ := trodAll_cons hA
  obtain ⟨v1, vs1, d1, ds1, p1, q1, rfl, rfl, rfl, h1, r1⟩ := trodAll_cons r0
  obtain ⟨v2, vs2, d2, ds2, p2, q2, rfl, rfl, rfl, h2, r2⟩ := trodAll_cons r1
  obtain ⟨rfl, rfl, rfl⟩ := trodAll_nil r2
  obtain rfl : args = #[v0, v1, v2] := by cases args; simp_all
  obtain ⟨rfl, rfl⟩ := trodVars_none hV
  obtain ⟨a0, l0, c0, rfl⟩ := okWide_slice Tryd.underlying22 (hval 0 22 v0 rfl rfl)
  have k0 := h0
  have lt0 : ∀ x ∈ p0, x.block < W.heap.size := by obtain ⟨m, hm⟩ := k0; exact DataW.trod_lt m _ _ _ hm
  obtain ⟨bs0, x0, e0, bl0, bm0⟩ : ∃ bs : List Nat, (Px.rows Px.EY (.slice a0 l0 c0) bs).holds W ∧ Px.B8 bs ∧ bs.length = l0 ∧ l0 ≤ maxLen := by
    have hsp : ∀ x, a0 = some x → x.spot = none := fun x hx => Px.slice_spot Tryd.underlying22 (by rw [← hx]; exact hval 0 22 _ rfl rfl)
    obtain ⟨fuel, hf⟩ := h0
    rcases open_ints Tryd.underlying22 Tryd.underlying5 (by kernel_rfl) hf with ⟨hcs, _⟩ | ⟨x, l, c, zs, hcs, _, hl, hm, hz, _, hcell, hwz⟩
    · simp [Value.cells] at hcs
      obtain ⟨rfl, rfl, rfl⟩ := hcs
      exact Px.row_in (zs := []) (.inl ⟨rfl, rfl, rfl, rfl⟩) hsp
    · simp [Value.cells] at hcs
      obtain ⟨rfl, rfl, rfl⟩ := hcs
      exact Px.row_in (zs := zs) (.inr ⟨_, rfl, hl, hm, by simpa using hz, hcell, hwz⟩) hsp
  obtain ⟨a1, rfl, rfl, rfl, w1⟩ := open_int Tryd.underlying5 (hval 1 5 v1 rfl rfl) h1
  obtain ⟨a2, rfl, rfl, rfl, w2⟩ := open_int Tryd.underlying5 (hval 2 5 v2 rfl rfl) h2
  clear hA0 hval0
  obtain ⟨n1, rfl⟩ : ∃ k : Nat, a1 = k := ⟨a1.toNat, by have := bounds_u8 w1; omega⟩
  have y1 := bounds_u8 w1
  obtain ⟨n2, rfl⟩ : ∃ k : Nat, a2 = k := ⟨a2.toNat, by have := bounds_u8 w2; omega⟩
  have y2 := bounds_u8 w2
  refine (auditLate_walk x0 e0 (by unfold maxLen at bm0; omega) (by omega) (by omega) hL).mono fun e W' ⟨he, bel⟩ => ?_
  subst he
  exact ⟨_, rfl, _, _, _, [], _, [], hW', trodAll_mk1 (shut_bool Tryd.underlying4 _), (trodAll_cons_mk (Below.trod Px.laid_out (by kernel_rfl) (of_decide_eq_true (by kernel_rfl)) k0 bel lt0) (trodAll_cons_mk (shut_int Tryd.underlying5 w1) (trodAll_cons_mk (shut_int Tryd.underlying5 w2) trodAll_mk0))), rfl, bel.frame _, fun h => by cases h⟩
theorem auditLate_said : Rows.AuditLateSaid :=
  OpenClaim.holds_of_wide 6 Tryd.f6 rfl rfl rfl rfl rfl rfl rfl ⟨rfl, rfl, rfl, rfl, rfl⟩ rfl rfl rfl rfl rfl (by kernel_rfl) Tryd.func6 (by kernel_rfl)
    (of_decide_eq_true (by kernel_rfl)) (by unfold Func.isWrapper; rw [if_neg (of_decide_eq_false (by kernel_rfl))]; exact ⟨rfl, rfl⟩)
    (fun os started H enc _ => auditLate_lifted os started H enc)
theorem auditLate_card : Rows.AuditLateCardSaid :=
  Claim7.holds_tied_plain_at .later [] [.data] true (true, "c576fde983c7ce05e6cd382b91897468294c3cd738747027aadf3427abc2070e") false
    auditLate_said (fun _ h => by cases h) (by kernel_rfl) (fun _ h => by cases h) auditLate_row_tie rfl ⟨rfl, rfl⟩ (by kernel_rfl) rfl
    (fun f fn hf hfn => by
      obtain rfl : f = 6 := Option.some.inj ((show Tryd.prog.funcNamed "bailee/baileelaw24.AuditLate" = some 6 by kernel_rfl).symm.trans hf) |>.symm
      obtain rfl : fn = Tryd.f6 := (Option.some.inj (Tryd.func6.symm.trans hfn)).symm
      exact ⟨by kernel_rfl, fun j t ht => by
        rw [Tryd.params6] at ht
        have hm : t ∈ [22, 5, 5] := by simpa using Array.mem_of_getElem? ht
        have hall : ([22, 5, 5].all fun u => !Tryd.prog.wantsStandIn u) = true := by kernel_rfl
        exact (show Tryd.prog.wantsStandIn t = false by simpa using List.all_eq_true.1 hall t hm)⟩)
    (by kernel_rfl)
#print axioms auditLate_card
end Go.Proofs.YtbndemefjckenaaDoor
