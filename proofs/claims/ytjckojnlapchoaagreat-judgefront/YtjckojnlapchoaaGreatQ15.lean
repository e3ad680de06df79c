/- Proved: the law answers true for every input, and its arguments read afterwards as they read before. Conditions: none beyond the row's own. -/
import Derived.Test.YtjckojnlapchoaaGreatQ14
import Derived.Test.YtjckojnlapchoaaGreatProg
import Derived.Test.YtjckojnlapchoaaGreatRows
import Derived.Test.YtjckojnlapchoaaGreatChecked
set_option linter.unusedVariables false
set_option linter.unusedSimpArgs false
open Go Go.RowKit
namespace Go.Proofs.YtjckojnlapchoaaGreat
open Go.Proofs Go.ChangeShapes Go.WideShapes Go.ChangeAt Go.Proofs.YtjckojnlapchoaaGreat
theorem lawOwn : ownKnob Tryz.prog.godebug = none := by kernel_rfl
theorem lawLaid : laidOutB Tryz.prog = true := by kernel_rfl
set_option maxRecDepth 100000 in
theorem front_contract (H : Type) (enc : TypeId × Value → H) (W : World) (base : Nat) (args : Array Value) (ds gs : List (DataW H)) (before : List MemPlace)
    (hval : ∀ (j : Nat) t v, Tryz.f5.params[j]? = some t → args[j]? = some v → Value.okWide Tryz.prog W .any base t v)
    (hW : DataW.Whole enc Tryz.prog Tryz.f5.params.toList Rows.judgeFrontSpec.vars false W args.toList ds gs before) :
    Calls Tryz.prog 5 args W fun e W' => ∃ v, e = .returned v ∧ Rows.judgeFrontSpec.post enc Tryz.prog Tryz.f5 false true false false W args v W' := by
  have hW' := hW
  obtain ⟨p, q, hA0, hV, rfl, hfz, hnd⟩ := hW
  have hA : DataW.TrodAll enc Tryz.prog W 0 (fun _ => true) true Tryz.f5.params.toList args.toList ds p := hA0
  rw [Tryz.params5] at hA hval
  obtain ⟨rfl, rfl⟩ := trodVars_none hV
  obtain ⟨v0, vs0, d0, ds0, p0, q0, hargs, rfl, rfl, h0, r0⟩ := trodAll_cons hA
  obtain ⟨v1, vs1, d1, ds1, p1, q1, rfl, rfl, rfl, h1, r1⟩ := trodAll_cons r0
  obtain ⟨v2, vs2, d2, ds2, p2, q2, rfl, rfl, rfl, h2, r2⟩ := trodAll_cons r1
  obtain ⟨v3, vs3, d3, ds3, p3, q3, rfl, rfl, rfl, h3, r3⟩ := trodAll_cons r2
  obtain ⟨v4, vs4, d4, ds4, p4, q4, rfl, rfl, rfl, h4, r4⟩ := trodAll_cons r3
  obtain ⟨rfl, rfl, rfl⟩ := trodAll_nil r4
  obtain rfl : args = #[v0, v1, v2, v3, v4] := by cases args; simp_all
  obtain ⟨⟨l0⟩, rfl, _⟩ := okWide_struct Tryz.underlying27 (hval 0 27 v0 rfl rfl)
  obtain ⟨K1, kn, kc, rfl⟩ := okWide_slice Tryz.underlying46 (hval 1 46 v1 rfl rfl)
  obtain ⟨T1, tn, tc, rfl⟩ := okWide_slice Tryz.underlying47 (hval 2 47 v2 rfl rfl)
  obtain ⟨L1, ln, lc, rfl⟩ := okWide_slice Tryz.underlying48 (hval 3 48 v3 rfl rfl)
  obtain ⟨M1, mn, mc, rfl⟩ := okWide_slice Tryz.underlying48 (hval 4 48 v4 rfl rfl)
  obtain ⟨_, h0⟩ := h0
  obtain ⟨_, h1⟩ := h1
  obtain ⟨_, h2⟩ := h2
  obtain ⟨_, h3⟩ := h3
  obtain ⟨_, h4⟩ := h4
  obtain ⟨pl, A1, n1, c1, A2, n2, c2, A3, n3, c3, A4, n4, c4, e0, pat⟩ := opens_Plan _ _ _ h0
  have e0 : l0 = [.slice A1 n1 c1, .slice A2 n2 c2, .slice A3 n3 c3, .slice A4 n4 c4, .int .i64 pl.top, .int .i64 pl.brake, .int .i64 pl.margin, .int .i64 pl.throw_, .bool pl.hard] := e0
  subst e0
  obtain ⟨kinds, _, _, _, e1, hk⟩ := opens_LStock _ _ _ h1
  obtain ⟨trains, _, _, _, e2, ht⟩ := opens_LTrain _ _ _ h2
  obtain ⟨l, _, _, _, e3, hs⟩ := opens_LNote _ _ _ h3
  obtain ⟨more, _, _, _, e4, hm⟩ := opens_LNote _ _ _ h4
  have e1 : [Value.slice K1 kn kc] = _ := e1
  have e2 : [Value.slice T1 tn tc] = _ := e2
  have e3 : [Value.slice L1 ln lc] = _ := e3
  have e4 : [Value.slice M1 mn mc] = _ := e4
  cases e1
  cases e2
  cases e3
  cases e4
  refine kept_post lawLaid ?_ Tryz.underlying4 (by kernel_rfl) rfl rfl rfl rfl hW' (front_ok (Hp.start W) pat hk ht hs hm)
  intro t ht
  rw [Tryz.params5] at ht
  simp only [List.mem_cons, List.not_mem_nil, or_false] at ht
  rcases ht with rfl | rfl | rfl | rfl | rfl <;> exact ⟨by kernel_rfl, of_decide_eq_true (by kernel_rfl)⟩
set_option maxRecDepth 100000 in
theorem front_lifted (os : Os) (started : os.Started) (H : Type) (enc : TypeId × Value → H) :
    ReturnsInHanded {} Tryz.checked os 5 .any (Rows.judgeFrontSpec.pre6 enc Tryz.prog Tryz.f5 Rows.judgeFrontRow.domain false) (Rows.judgeFrontSpec.post enc Tryz.prog Tryz.f5 false true false false) := by
  refine returnsInHanded_of_change (C := Tryz.checked) lawOwn started (by kernel_rfl) Tryz.func5
    (ChangeSpec.witness6 (enc := enc) (C := Tryz.checked) false ⟨#[], #[.agg ⟨[.slice none 0 0, .slice none 0 0, .slice none 0 0, .slice none 0 0, .int .i64 0, .int .i64 0, .int .i64 0, .int .i64 0, .bool false]⟩, .slice none 0 0, .slice none 0 0, .slice none 0 0, .slice none 0 0], []⟩ 8 (by kernel_rfl) (by kernel_rfl) (by kernel_rfl) (by kernel_rfl)) ?_
  intro W base args ds gs before hval hW _ _
  exact front_contract H enc W base args ds gs before hval hW
theorem front_said : Rows.JudgeFrontSaid :=
  OpenClaim.holds_of_wide 5 Tryz.f5 rfl rfl rfl rfl rfl rfl rfl ⟨rfl, rfl, rfl, rfl, rfl⟩ rfl rfl rfl rfl rfl (by kernel_rfl) Tryz.func5 (by kernel_rfl)
    (of_decide_eq_true (by kernel_rfl)) (by unfold Func.isWrapper; (rw [if_neg (by decide +kernel)]; exact ⟨rfl, rfl⟩))
    (fun os started H enc _ => front_lifted os started H enc)
#print axioms front_said
end Go.Proofs.YtjckojnlapchoaaGreat
