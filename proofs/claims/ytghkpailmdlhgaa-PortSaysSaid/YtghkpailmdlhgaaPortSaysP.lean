/- The law PortSays of the package glasshouselaw: whatever the input, it answers true, and the input reads as it did. -/
import Derived.Test.YtghkpailmdlhgaaRows
import Derived.Test.YtghkpailmdlhgaaW26
set_option linter.unusedVariables false
set_option linter.unusedSimpArgs false
namespace Go.Proofs.Ytghkpailmdlhgaa.portSaysLaw
open Go.ChangeShapes Go.WideShapes Go.ChangeAt Go.RowKit Go.Eng
set_option maxRecDepth 100000 in
theorem lifted (os : Os) (started : os.Started) (H : Type) (enc : TypeId × Value → H) :
    ReturnsInHanded {} Try.checked os 16 .any (Rows.portSaysSpec.pre6 enc Try.prog Try.f16 Rows.portSaysRow.domain false) (Rows.portSaysSpec.post enc Try.prog Try.f16 false true false false) := by
  refine returnsInHanded_of_change (C := Try.checked) ownk started (by kernel_rfl) Try.func16
    (ChangeSpec.witness6 (enc := enc) (C := Try.checked) false ⟨#[], #[.slice none 0 0, .int .i64 0, .int .i64 0, .int .i64 0, .int .i64 0, .int .i64 0, .agg #[.slice none 0 0]], []⟩ 8 (by kernel_rfl) (by kernel_rfl) (by kernel_rfl) (by kernel_rfl)) ?_
  intro W base args ds gs before hval0 hW _ _
  have hval : ∀ (j : Nat) t v, Try.f16.params[j]? = some t → args[j]? = some v → Value.okWide Try.prog W .any base t v := hval0
  have hW' := hW
  obtain ⟨p, q, hA0, hV, rfl, _, _⟩ := hW
  obtain ⟨rfl, rfl⟩ := trodVars_none hV
  have hA : DataW.TrodAll enc Try.prog W 0 (fun _ => true) true Try.f16.params.toList args.toList ds p := hA0
  rw [Try.params16] at hA hval
  have hlt : ∀ x ∈ p, x.block < W.heap.size := fun x hx => hW'.lt x (List.mem_append_left _ hx)
  obtain ⟨v0, vs0, d0, ds0, p0, q0, hargs0, rfl, rfl, h0, r0⟩ := trodAll_cons hA
  obtain ⟨v1, vs1, d1, ds1, p1, q1, hargs1, rfl, rfl, h1, r1⟩ := trodAll_cons r0
  obtain ⟨v2, vs2, d2, ds2, p2, q2, hargs2, rfl, rfl, h2, r2⟩ := trodAll_cons r1
  obtain ⟨v3, vs3, d3, ds3, p3, q3, hargs3, rfl, rfl, h3, r3⟩ := trodAll_cons r2
  obtain ⟨v4, vs4, d4, ds4, p4, q4, hargs4, rfl, rfl, h4, r4⟩ := trodAll_cons r3
  obtain ⟨v5, vs5, d5, ds5, p5, q5, hargs5, rfl, rfl, h5, r5⟩ := trodAll_cons r4
  obtain ⟨v6, vs6, d6, ds6, p6, q6, hargs6, rfl, rfl, h6, r6⟩ := trodAll_cons r5
  obtain ⟨hvl, rfl, rfl⟩ := trodAll_nil r6
  obtain rfl : args = #[v0, v1, v2, v3, v4, v5, v6] := by cases args; simp_all
  obtain ⟨a0, o0, e0⟩ := Opens.param opens60 h0 (fun x hx => hlt x (by simp [hx])) (slice_not_agg Try.underlying60 (hval 0 60 v0 rfl rfl))
  obtain ⟨a1, o1, e1⟩ := Opens.param (opens_int Try.underlying3) h1 (fun x hx => hlt x (by simp [hx])) (int_not_agg Try.underlying3 (hval 1 3 v1 rfl rfl))
  obtain ⟨a2, o2, e2⟩ := Opens.param (opens_int Try.underlying3) h2 (fun x hx => hlt x (by simp [hx])) (int_not_agg Try.underlying3 (hval 2 3 v2 rfl rfl))
  obtain ⟨a3, o3, e3⟩ := Opens.param (opens_int Try.underlying3) h3 (fun x hx => hlt x (by simp [hx])) (int_not_agg Try.underlying3 (hval 3 3 v3 rfl rfl))
  obtain ⟨a4, o4, e4⟩ := Opens.param (opens_int Try.underlying3) h4 (fun x hx => hlt x (by simp [hx])) (int_not_agg Try.underlying3 (hval 4 3 v4 rfl rfl))
  obtain ⟨a5, o5, e5⟩ := Opens.param (opens_int Try.underlying3) h5 (fun x hx => hlt x (by simp [hx])) (int_not_agg Try.underlying3 (hval 5 3 v5 rfl rfl))
  obtain ⟨cs6, rfl, _⟩ := okWide_struct Try.underlying35 (hval 6 35 v6 rfl rfl)
  obtain ⟨a6, o6, e6⟩ := Opens.param_agg opens35 h6 (fun x hx => hlt x (by simp [hx]))
  refine (Ct.law (portSays_ct a0 a1 a2 a3 a4 a5 a6) (vals := [v0, v1, v2, v3, v4, v5, (.agg cs6)]) ⟨e0, e1, e2, e3, e4, e5, e6, trivial⟩).mono fun e W' ⟨he, hb⟩ => ⟨_, he, ?_⟩
  exact law_post (t := 4) laid (by
    rw [Try.params16]
    intro t ht
    simp only [List.mem_cons, List.not_mem_nil, or_false, false_or] at ht
    rcases ht with rfl | rfl | rfl | rfl | rfl | rfl | rfl
    all_goals first | exact rd3 | exact rd35 | exact rd60) (by kernel_rfl) Try.underlying4 rfl rfl hW' hb
theorem proved : Rows.PortSaysSaid :=
  OpenClaim.holds_of_wide 16 Try.f16 rfl rfl rfl rfl rfl rfl rfl ⟨rfl, rfl, rfl, rfl, rfl⟩ rfl rfl rfl rfl rfl (by kernel_rfl) Try.func16 (by kernel_rfl)
    (of_decide_eq_true (by kernel_rfl)) (by unfold Func.isWrapper; first | (rw [if_pos (by decide +kernel)]; kernel_rfl) | (rw [if_neg (by decide +kernel)]; exact ⟨rfl, rfl⟩))
    (fun os started H enc _ => lifted os started H enc)
#print axioms proved
end Go.Proofs.Ytghkpailmdlhgaa.portSaysLaw
