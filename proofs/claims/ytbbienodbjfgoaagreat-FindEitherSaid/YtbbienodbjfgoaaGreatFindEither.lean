/- The law FindEither answers true for all reports, all hours of knowledge, weights and conflicts. Conditions: none. -/
import Derived.Test.YtbbienodbjfgoaaGreatRows
import Derived.WalkKit
import Derived.ProofKit
import Derived.OpenShut
import Derived.ShutString
import Derived.ChangeOld
import Derived.Below
import Derived.SizedLaws
import Derived.Test.YtbbienodbjfgoaaGreatB7
set_option linter.unusedVariables false
set_option linter.unusedSimpArgs false

namespace Go.Proofs.YtbbienodbjfgoaaGreat.findEither
open Go.ChangeShapes Go.WideShapes Go.ChangeAt Go.RowKit Go.Lag
theorem own : ownKnob Tryz.prog.godebug = none := by kernel_rfl
theorem laidOut : laidOutB Tryz.prog = true := by kernel_rfl
set_option maxRecDepth 100000 in
theorem lifted (os : Os) (started : os.Started) (H : Type) (enc : TypeId × Value → H) :
    ReturnsInHanded {} Tryz.checked os 17 .any (Rows.findEitherSpec.pre6 enc Tryz.prog Tryz.f17 Rows.findEitherRow.domain false) (Rows.findEitherSpec.post enc Tryz.prog Tryz.f17 false true false false) := by
  refine returnsInHanded_of_change_sized (C := Tryz.checked) own started (by kernel_rfl) Tryz.func17
    (ChangeSpec.witness6 (enc := enc) (C := Tryz.checked) false ⟨#[], #[.slice none 0 0, .int .i64 0, .slice none 0 0, .agg #[.int .i64 0, .slice none 0 0]], []⟩ 8 (by kernel_rfl) (by kernel_rfl) (by kernel_rfl) (by kernel_rfl)) ?_
  intro W base args ds gs before hval0 hW hcnd hsz0 _
  have hval : ∀ (j : Nat) t v, Tryz.f17.params[j]? = some t → args[j]? = some v → Value.okWide Tryz.prog W .any base t v := hval0
  have hW0 := hW
  obtain ⟨p, q, hA0, hV, rfl, hfz, hnd⟩ := hW
  have hA : DataW.TrodAll enc Tryz.prog W 0 (fun _ => true) true Tryz.f17.params.toList args.toList ds p := hA0
  rw [Tryz.params17] at hA hval
  obtain ⟨v0, vs0, d0, ds0, p0, q0, hargs, rfl, rfl, h0, r0⟩ := trodAll_cons hA
  obtain ⟨v1, vs1, d1, ds1, p1, q1, rfl, rfl, rfl, h1, r1⟩ := trodAll_cons r0
  obtain ⟨v2, vs2, d2, ds2, p2, q2, rfl, rfl, rfl, h2, r2⟩ := trodAll_cons r1
  obtain ⟨v3, vs3, d3, ds3, p3, q3, rfl, rfl, rfl, h3, r3⟩ := trodAll_cons r2
  obtain ⟨rfl, rfl, rfl⟩ := trodAll_nil r3
  obtain rfl : args = #[v0, v1, v2, v3] := by cases args; simp_all
  obtain ⟨rfl, rfl⟩ := trodVars_none hV
  obtain ⟨a0, len0, cap0, rfl⟩ := okWide_slice Tryz.underlying22 (hval 0 22 v0 rfl rfl)
  have k0 := h0
  have lt0 : ∀ x ∈ p0, x.block < W.heap.size := by obtain ⟨m, hm⟩ := k0; exact DataW.trod_lt m _ _ _ hm
  obtain ⟨m0, g0⟩ := h0
  obtain ⟨l0, z0⟩ := reports_zm (enc := enc) g0
  obtain ⟨a1, rfl, rfl, rfl, w1⟩ := open_int Tryz.underlying3 (hval 1 3 v1 rfl rfl) h1
  obtain ⟨a2, len2, cap2, rfl⟩ := okWide_slice Tryz.underlying25 (hval 2 25 v2 rfl rfl)
  have k2 := h2
  have lt2 : ∀ x ∈ p2, x.block < W.heap.size := by obtain ⟨m, hm⟩ := k2; exact DataW.trod_lt m _ _ _ hm
  obtain ⟨m2, g2⟩ := h2
  obtain ⟨l2, z2⟩ := ints_zm (enc := enc) g2
  obtain ⟨cp3, sv3, l3, rfl, z3⟩ := conf_zm (enc := enc) (hval 3 35 v3 rfl rfl) h3
  have lt3 : ∀ x ∈ p3, x.block < W.heap.size := by obtain ⟨m, hm⟩ := h3; exact DataW.trod_lt m _ _ _ hm
  clear hA0 hval0 hsz0
  refine (SpV.below (W := W) (findEither_sp z0 z2 z3)).mono fun e W1 ⟨he, bel⟩ => ?_
  subst he
  exact ⟨_, rfl, _, _, _, [], _, [], hW0, trodAll_mk1 (shut_bool Tryz.underlying4 _), (trodAll_cons_mk (Below.trod laidOut (by kernel_rfl) (of_decide_eq_true (by kernel_rfl)) k0 bel lt0) (trodAll_cons_mk (shut_int Tryz.underlying3 w1) (trodAll_cons_mk (Below.trod laidOut (by kernel_rfl) (of_decide_eq_true (by kernel_rfl)) k2 bel lt2) (trodAll_cons_mk (Below.trod laidOut (by kernel_rfl) (of_decide_eq_true (by kernel_rfl)) h3 bel lt3) trodAll_mk0)))), rfl, bel.frame _, fun h => by cases h⟩
theorem j0 : (Rows.findEitherRow.wf (OpenSpec.ofChange Rows.findEitherSpec)) = true := by kernel_rfl
theorem j1 : (laidOutB Tryz.prog) = true := by kernel_rfl
theorem j2 : (mapsRowed Tryz.prog) = true := by kernel_rfl
theorem j3 : (Tryz.f17.params.all (Tryz.prog.readableRec ·)) = true := by kernel_rfl
theorem j4 : (namedTie Tryz.prog Rows.findEitherRow.named Rows.findEitherSpec.vars) = true := by kernel_rfl
theorem j5 : ((Rows.findEitherRow.stops == [])) = true := by kernel_rfl
theorem j6 : ((Tryz.prog.stops == [])) = true := by kernel_rfl
theorem j7 : ((Rows.findEitherRow.knobs == [])) = true := by kernel_rfl
theorem j8 : ((Tryz.prog.stopKnobs == [])) = true := by kernel_rfl
theorem j9 : ((Rows.findEitherRow.inPlace == Tryz.prog.inPlace 17)) = true := by kernel_rfl
theorem j10 : ((Rows.findEitherRow.unfollowed == Tryz.prog.unfollowed 17)) = true := by kernel_rfl
theorem j11 : ((Rows.findEitherRow.recurses == Tryz.prog.recurses 17)) = true := by kernel_rfl
theorem j12 : ((Rows.findEitherRow.named == Tryz.prog.varsNamed 17)) = true := by kernel_rfl
theorem j13 : ((Rows.findEitherRow.maps == (Tryz.f17.params.toList ++ Rows.findEitherSpec.plain.varTypes Tryz.prog).any (Tryz.prog.mapsRec ·))) = true := by kernel_rfl
theorem j14 : ((Rows.findEitherRow.ifaces == (Tryz.f17.params.toList ++ Rows.findEitherSpec.plain.varTypes Tryz.prog).any (Tryz.prog.ifacesRec ·))) = true := by kernel_rfl
theorem j15 : ((Rows.findEitherRow.mapsOut == Tryz.prog.mapsAmong Tryz.f17.resultTypes.toList)) = true := by kernel_rfl
theorem j16 : ((Rows.findEitherRow.loops == (Tryz.f17.params.toList ++ Rows.findEitherSpec.plain.varTypes Tryz.prog).any (Tryz.prog.loopsFrom ·))) = true := by kernel_rfl
theorem j17 : ((Rows.findEitherRow.wideKeys == (Tryz.f17.params.toList ++ Rows.findEitherSpec.plain.varTypes Tryz.prog ++ Tryz.f17.resultTypes.toList).any (Tryz.prog.wideKeysFrom ·))) = true := by kernel_rfl
theorem j18 : (Rows.findEitherSpec.vars.all (Tryz.prog.varReadable ·)) = true := by kernel_rfl
theorem j19 : (Tryz.f17.resultTypes.all (fun t => Tryz.prog.readableRec t && decide (t < Tryz.prog.types.size))) = true := by kernel_rfl
theorem j20 : ((Rows.findEitherRow.ifacesOut == Tryz.f17.resultTypes.toList.any (Tryz.prog.ifacesRec ·))) = true := by kernel_rfl
theorem j21 : ((Rows.findEitherRow.loopsOut == Tryz.f17.resultTypes.toList.any (Tryz.prog.loopsFrom ·))) = true := by kernel_rfl
theorem j22 : ((Rows.findEitherRow.plainKeys == Tryz.prog.plainKeys)) = true := by kernel_rfl
theorem j23 : (Rows.findEitherRow.shortTexts.isNone) = true := by kernel_rfl
theorem j24 : (Tryz.prog.stopsHeard) = true := by kernel_rfl
theorem j25 : (Tryz.prog.mayEnter) = true := by kernel_rfl
theorem j26 : ((Rows.findEitherRow.lifted == Tryz.prog.liftsFinal)) = true := by kernel_rfl
theorem j27 : ((Tryz.prog.make == some Rows.findEitherRow.make)) = true := by kernel_rfl
theorem j28 : ((Rows.findEitherRow.kinds == (if Rows.findEitherRow.domain.isEmpty then [] else Tryz.f17.params.toList.map fun t => match Tryz.prog.underlying t with | some (.int k) => some k | _ => none))) = true := by kernel_rfl
theorem j29 : ((Rows.findEitherRow.pinned == Rows.findEitherRow.pinnedBy)) = true := by kernel_rfl
theorem j30 : ((Rows.findEitherRow.veiled == (Tryz.f17.params.toList ++ Rows.findEitherSpec.plain.varTypes Tryz.prog ++ Tryz.f17.resultTypes.toList).any (Tryz.prog.veiledRec ·))) = true := by kernel_rfl
theorem j31 : (Rows.findEitherRow.veiledFits Tryz.prog Tryz.f17.params.toList (Tryz.f17.params.toList ++ Rows.findEitherSpec.plain.varTypes Tryz.prog ++ Tryz.f17.resultTypes.toList)) = true := by kernel_rfl
set_option maxRecDepth 100000 in
theorem joined : joinedFacts Tryz.pinned.checked.prog 17 Tryz.f17 Rows.findEitherSpec Rows.findEitherRow = true := by
  simp only [joinedFacts, Bool.and_eq_true]
  exact ⟨⟨⟨⟨⟨⟨⟨⟨⟨⟨⟨⟨⟨⟨⟨⟨⟨⟨⟨⟨⟨⟨⟨⟨⟨⟨⟨⟨⟨⟨⟨j0, j1⟩, j2⟩, j3⟩, j4⟩, j5⟩, j6⟩, j7⟩, j8⟩, j9⟩, j10⟩, j11⟩, j12⟩, j13⟩, j14⟩, j15⟩, j16⟩, j17⟩, j18⟩, j19⟩, j20⟩, j21⟩, j22⟩, j23⟩, j24⟩, j25⟩, j26⟩, j27⟩, j28⟩, j29⟩, j30⟩, j31⟩
theorem c1 : Tryz.pinned.checked.prog.funcNamed Rows.findEitherRow.func = some 17 := by kernel_rfl
theorem c3 : Tryz.f17.isInstance Tryz.pinned.checked.prog Rows.findEitherRow.origin Rows.findEitherRow.targs := of_decide_eq_true (by kernel_rfl)
theorem c4 : Tryz.f17.isWrapper Tryz.pinned.checked.prog Rows.findEitherRow.wrapper Rows.findEitherRow.mainSum := by unfold Func.isWrapper; first | (rw [if_pos (by decide +kernel)]; kernel_rfl) | (rw [if_neg (by decide +kernel)]; exact ⟨rfl, rfl⟩)
theorem over : Rows.findEitherRow.holds Tryz.pinned (OpenSpec.ofChange Rows.findEitherSpec) :=
  OpenClaim.holds_of_wide 17 Tryz.f17 rfl rfl rfl rfl rfl rfl rfl ⟨rfl, rfl, rfl, rfl, rfl⟩ rfl rfl rfl rfl rfl c1 Tryz.func17 joined c3 c4
    (fun os started H enc _ => lifted os started H enc)
end Go.Proofs.YtbbienodbjfgoaaGreat.findEither
namespace Go.Proofs.YtbbienodbjfgoaaGreat
/-- The statement. -/
theorem findEither_holds : Rows.FindEitherSaid := findEither.over
end Go.Proofs.YtbbienodbjfgoaaGreat
