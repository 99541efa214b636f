import Derived.Test.YtghkpailmdlhgaaW18
import Derived.Test.YtghkpailmdlhgaaEngc
set_option linter.unusedVariables false
set_option linter.unusedSimpArgs false
namespace Go.Proofs.Ytghkpailmdlhgaa
open Go.RowKit Go.Eng
/-- slices.Clone[[]int,int] -/
theorem cloneIn_ct (l : List Int) (hl : l.length ≤ 100) : CtM Try.prog 94 [inRow l] [] (SV.own 0) [(0, ownOf inCell 1 0 l 3)] := by
 refine CmO 8 Try.func94 rfl rfl rfl fun E => Rl (V (s := 0) rfl) fun hl0 => Sq <| Rt <| t_nilO 1 1 (rowG inCell 0 []) 3 (.inl rfl) rfl <| Nt <| Sq <| Sq <| Rq <| O (Mv (V rfl)) <| tq_isnil (V rfl) (eqnil Un24) fun isn hisn => Nq <| Cd (V rfl) (fun hc1 => ?_) (fun hc1 => ?_)
 ·have hc1s := hc1; try simp only [BL] at hc1s
  exact Sq <| Rt <| t_nilO 2 1 (rowG inCell 0 []) 3 (.inl rfl) rfl <| Nt <| c_mv 2 0 rfl rfl <| c_ownE 0 l rfl (by exact (List.eq_nil_of_length_eq_zero (hisn hc1)).symm) <| Rx <| M1 rfl (V rfl) (by exact ⟨⟨_, rfl, rfl⟩, Z⟩) (by show SV.own 0 = SV.own 0; rfl)
 ·have hc1s := hc1; try simp only [BL] at hc1s
  exact Sk <| Sq <| Rt <| t_bs0 3 (rowG inCell 0 []) Un24 Sz3 rfl <| U (Mv (V rfl)) <| Ap 4 (rowG inCell 0 (([]) ++ l)) eo24 (V rfl) rfl (V rfl) rfl (len_app ([]) l) (by first | (simp only [maxLen, List.length_append, List.length_set, List.length_nil, List.length_cons]; omega) | (simp only [maxLen]; omega)) (by first | (simp only [List.length_append, List.length_set, List.length_nil, List.length_cons]; omega) | (omega)) (app_typed (l := ([])) (m := l)) <| U (As (V rfl)) <| Nt <| c_mv 4 0 rfl rfl <| c_ownE 0 l rfl (by rfl) <| Rx <| M1 rfl (V rfl) (by exact ⟨⟨_, rfl, rfl⟩, Z⟩) (by show SV.own 0 = SV.own 0; rfl)

/-- slices.Clone[[]glasshouse/api.Cell,glasshouse/api.Cell] -/
theorem cloneCl_ct (l : List Cl) (hl : l.length ≤ 24) : CtM Try.prog 38 [clRow l] [] (SV.own 0) [(0, ownOf clCell 2 default l 43)] := by
 refine CmO 8 Try.func38 rfl rfl rfl fun E => Rl (V (s := 0) rfl) fun hl0 => Sq <| Rt <| t_nilO 1 2 (rowG clCell default []) 43 (.inl rfl) rfl <| Nt <| Sq <| Sq <| Rq <| O (Mv (V rfl)) <| tq_isnil (V rfl) (eqnil Un33) fun isn hisn => Nq <| Cd (V rfl) (fun hc1 => ?_) (fun hc1 => ?_)
 ·have hc1s := hc1; try simp only [BL] at hc1s
  exact Sq <| Rt <| t_nilO 2 2 (rowG clCell default []) 43 (.inl rfl) rfl <| Nt <| c_mv 2 0 rfl rfl <| c_ownE 0 l rfl (by exact (List.eq_nil_of_length_eq_zero (hisn hc1)).symm) <| Rx <| M1 rfl (V rfl) (by exact ⟨⟨_, rfl, rfl⟩, Z⟩) (by show SV.own 0 = SV.own 0; rfl)
 ·have hc1s := hc1; try simp only [BL] at hc1s
  exact Sk <| Sq <| Rt <| t_bs0 3 (rowG clCell default []) Un33 Sz43 rfl <| U (Mv (V rfl)) <| Ap 4 (rowG clCell default (([]) ++ l)) eo33 (V rfl) rfl (V rfl) rfl (len_app ([]) l) (by first | (simp only [maxLen, List.length_append, List.length_set, List.length_nil, List.length_cons]; omega) | (simp only [maxLen]; omega)) (by first | (simp only [List.length_append, List.length_set, List.length_nil, List.length_cons]; omega) | (omega)) (app_typed (l := ([])) (m := l)) <| U (As (V rfl)) <| Nt <| c_mv 4 0 rfl rfl <| c_ownE 0 l rfl (by rfl) <| Rx <| M1 rfl (V rfl) (by exact ⟨⟨_, rfl, rfl⟩, Z⟩) (by show SV.own 0 = SV.own 0; rfl)

/-- slices.Clone[[]glasshouse/api.Port,glasshouse/api.Port] -/
theorem clonePt_ct (l : List Pt) (hl : l.length ≤ 100) : CtM Try.prog 87 [ptRow l] [] (SV.own 0) [(0, ownOf ptCell 5 default l 71)] := by
 refine CmO 8 Try.func87 rfl rfl rfl fun E => Rl (V (s := 0) rfl) fun hl0 => Sq <| Rt <| t_nilO 1 5 (rowG ptCell default []) 71 (.inl rfl) rfl <| Nt <| Sq <| Sq <| Rq <| O (Mv (V rfl)) <| tq_isnil (V rfl) (eqnil Un60) fun isn hisn => Nq <| Cd (V rfl) (fun hc1 => ?_) (fun hc1 => ?_)
 ·have hc1s := hc1; try simp only [BL] at hc1s
  exact Sq <| Rt <| t_nilO 2 5 (rowG ptCell default []) 71 (.inl rfl) rfl <| Nt <| c_mv 2 0 rfl rfl <| c_ownE 0 l rfl (by exact (List.eq_nil_of_length_eq_zero (hisn hc1)).symm) <| Rx <| M1 rfl (V rfl) (by exact ⟨⟨_, rfl, rfl⟩, Z⟩) (by show SV.own 0 = SV.own 0; rfl)
 ·have hc1s := hc1; try simp only [BL] at hc1s
  exact Sk <| Sq <| Rt <| t_bs0 3 (rowG ptCell default []) Un60 Sz71 rfl <| U (Mv (V rfl)) <| Ap 4 (rowG ptCell default (([]) ++ l)) eo60 (V rfl) rfl (V rfl) rfl (len_app ([]) l) (by first | (simp only [maxLen, List.length_append, List.length_set, List.length_nil, List.length_cons]; omega) | (simp only [maxLen]; omega)) (by first | (simp only [List.length_append, List.length_set, List.length_nil, List.length_cons]; omega) | (omega)) (app_typed (l := ([])) (m := l)) <| U (As (V rfl)) <| Nt <| c_mv 4 0 rfl rfl <| c_ownE 0 l rfl (by rfl) <| Rx <| M1 rfl (V rfl) (by exact ⟨⟨_, rfl, rfl⟩, Z⟩) (by show SV.own 0 = SV.own 0; rfl)

/-- slices.Clone[[]glasshouse/api.Graph,glasshouse/api.Graph] -/
theorem cloneGs_ct (l : List ((List Cl))) (hl : l.length ≤ 100) : CtM Try.prog 88 [gsRow l] [] (SV.own 0) [(0, ownOf grG 1 ([]) l 35)] := by
 refine CmO 8 Try.func88 rfl rfl rfl fun E => Rl (V (s := 0) rfl) fun hl0 => Sq <| Rt <| t_nilO 1 1 (rowG grG ([]) []) 35 (.inl rfl) rfl <| Nt <| Sq <| Sq <| Rq <| O (Mv (V rfl)) <| tq_isnil (V rfl) (eqnil Un59) fun isn hisn => Nq <| Cd (V rfl) (fun hc1 => ?_) (fun hc1 => ?_)
 ·have hc1s := hc1; try simp only [BL] at hc1s
  exact Sq <| Rt <| t_nilO 2 1 (rowG grG ([]) []) 35 (.inl rfl) rfl <| Nt <| c_mv 2 0 rfl rfl <| c_ownE 0 l rfl (by exact (List.eq_nil_of_length_eq_zero (hisn hc1)).symm) <| Rx <| M1 rfl (V rfl) (by exact ⟨⟨_, rfl, rfl⟩, Z⟩) (by show SV.own 0 = SV.own 0; rfl)
 ·have hc1s := hc1; try simp only [BL] at hc1s
  exact Sk <| Sq <| Rt <| t_bs0 3 (rowG grG ([]) []) Un59 Sz35 rfl <| U (Mv (V rfl)) <| Ap 4 (rowG grG ([]) (([]) ++ l)) eo59 (V rfl) rfl (V rfl) rfl (len_app ([]) l) (by first | (simp only [maxLen, List.length_append, List.length_set, List.length_nil, List.length_cons]; omega) | (simp only [maxLen]; omega)) (by first | (simp only [List.length_append, List.length_set, List.length_nil, List.length_cons]; omega) | (omega)) (app_typed (l := ([])) (m := l)) <| U (As (V rfl)) <| Nt <| c_mv 4 0 rfl rfl <| c_ownE 0 l rfl (by rfl) <| Rx <| M1 rfl (V rfl) (by exact ⟨⟨_, rfl, rfl⟩, Z⟩) (by show SV.own 0 = SV.own 0; rfl)

/-- glasshouse/port.own -/
theorem own_ct (g : List Cl) (hc0 : checkGr g = 0) : Ct Try.prog 89 [SV.agg 1 (grG g)] (SV.agg 1 (grG g)) := by
 have h24 := checkGr_len hc0
 refine CtO 27 Try.func89 rfl rfl rfl fun E => Sq <| Rt <| BxA 1 (V rfl) rfl rfl <| Al 2 zero35 rfl rfl <| Nt <| Sq <| Rt <| U (FlB _ _ (V rfl) Un35 rfl 0 Sz33) <| U (LdB (V rfl) rfl Ga33 (by decide)) <| CM (cargs := [clRow g]) [] [(0, 3)] en38 (by exact ⟨(V rfl), Z⟩) (cloneCl_ct g (by omega)) (by exact Z) rfl rfl rfl rfl <| U (FlB _ _ (V rfl) Un35 rfl 0 Sz33) <| t_st1V (V rfl) rfl (V rfl) (one_own rfl) Sz33 (by decide) <| Nt <| Sq <| Sq <| Rq <| O (FlB _ _ (V rfl) Un35 rfl 0 Sz33) <| O (LdB (V rfl) rfl Ga33 (by decide)) <| O (LnO (V rfl) rfl ts33) <| O (Mv K) <| Nq <| Bo <| c_mv 3 60 rfl rfl <| Lo (fun (i : Nat) => ⟨[(1, SV.bp 1 0), (2, SV.bp 2 0), (10, SV.own 60), (11, iv ((g.length : Int))), (12, iv ((i : Int)))], [(1, Own.box 1 (fun _ => SV.own 60) 35), (2, Own.box 1 (fun zt => SV.renm (mvN 3 60) ((cmpG [SV.v (Value.slice none 0 0)]) zt)) 35), (60, ownOf clCell 2 default g 43)]⟩) (fun (i : Nat) => i ≤ g.length) (fun (i : Nat) => g.length - i) 0 (by show 0 ≤ g.length; exact Nat.zero_le _) (We (ow := [(1, Own.box 1 (fun _ => SV.own 60) 35), (2, Own.box 1 (fun zt => SV.renm (mvN 3 60) ((cmpG [SV.v (Value.slice none 0 0)]) zt)) 35), (60, ownOf clCell 2 default g 43)]) (Vs rfl) (by exact ⟨⟨_, rfl, rfl, rfl, (An rfl)⟩, ⟨_, rfl, rfl, rfl, (An rfl)⟩, ⟨_, rfl, rfl⟩, Z⟩)) <| ?_
 ·rintro i hI1
  have hJ1 : i ≤ g.length := hI1
  refine Sq <| Rq <| O (Lt (V rfl) (V rfl)) <| Nq <| Sq <| Cd (V rfl) (fun hc1 => ?_) (fun hc1 => ?_)
  ·have hc1s := hc1; try simp only [BL] at hc1s
   have h8 := (cl_parts hc0 (i := i) (by omega)).2.1
   refine Sk <| Sq <| Bo <| Sq <| Rt <| U (Mv (V rfl)) <| U (IOn (i := i) (V rfl) rfl (V rfl) ts33 te33 (by omega)) <| U (LOA (V rfl) rfl Ga43 Sz43 (by decide)) <| Al 4 zero43 rfl rfl <| U (As (V rfl)) <| StA (V rfl) rfl (V rfl) Sz43 <| Nt <| c_rd (fun e => ⟨[(17, cj (e 0) (SV.bp 1 0)), (18, cj (e 1) (SV.own 60)), (19, cj (e 2) (iv ((i : Int)))), (20, cj (e 3) (SV.bp 4 1)), (21, cj (e 4) (inRow ((g.getD i default).kids))), (22, cj (e 5) (cjn (e 8) (SV.own 5))), (23, cj (e 6) (SV.oe 60 2 i 0)), (24, cj (e 7) (SV.oe 60 2 i 1)), (1, SV.bp 1 0), (2, SV.bp 2 0), (3, iv ((i : Int))), (4, SV.bp 4 0), (10, SV.own 60), (11, iv ((g.length : Int))), (12, iv ((i : Int)))], (cb (e 5) (cb (e 8) [(1, Own.box 1 (fun _ => SV.own 60) 35), (2, Own.box 1 (fun zt => SV.renm (mvN 3 60) ((cmpG [SV.v (Value.slice none 0 0)]) zt)) 35), (4, Own.box 2 (fun zi => (rowG clCell default g) i (0 + zi)) 43), (60, ownOf clCell 2 default (g.set i ({ (g.getD i default) with kids := (g.getD i default).kids })) 43)] [(1, Own.box 1 (fun _ => SV.own 60) 35), (2, Own.box 1 (fun zt => SV.renm (mvN 3 60) ((cmpG [SV.v (Value.slice none 0 0)]) zt)) 35), (4, Own.box 2 (fun zi => (rowG clCell default g) i (0 + zi)) 43), (60, ownOf clCell 2 default g 43), (5, ownOf inCell 1 0 ((g.getD i default).kids) 3)]) (cb (e 8) [] [(1, Own.box 1 (fun _ => SV.own 60) 35), (2, Own.box 1 (fun zt => SV.renm (mvN 3 60) ((cmpG [SV.v (Value.slice none 0 0)]) zt)) 35), (4, Own.box 2 (fun zi => (rowG clCell default g) i (0 + zi)) 43), (60, ownOf clCell 2 default g 43)]))⟩) ⟨[(17, SV.bp 1 0), (18, SV.own 60), (19, iv ((i : Int))), (20, SV.bp 4 1), (21, inRow ((g.getD i default).kids)), (23, SV.oe 60 2 i 0), (24, SV.oe 60 2 i 1), (1, SV.bp 1 0), (2, SV.bp 2 0), (3, iv ((i : Int))), (4, SV.bp 4 0), (10, SV.own 60), (11, iv ((g.length : Int))), (12, iv ((i : Int)))], [(1, Own.box 1 (fun _ => SV.own 60) 35), (2, Own.box 1 (fun zt => SV.renm (mvN 3 60) ((cmpG [SV.v (Value.slice none 0 0)]) zt)) 35), (4, Own.box 2 (fun zi => (rowG clCell default g) i (0 + zi)) 43), (60, ownOf clCell 2 default (g.set i ({ (g.getD i default) with kids := (g.getD i default).kids })) 43)]⟩ (by kernel_rfl) (by kernel_rfl) ?_ ⟨?_, ?_, ?_, ?_, ?_, ?_, ?_, ?_, ?_, Z⟩ ?_ ?_
   ·show Weak _ _ ⟨[(17, SV.junk), (18, SV.junk), (19, SV.junk), (20, SV.junk), (21, SV.junk), (22, SV.junk), (23, SV.junk), (24, SV.junk), (1, SV.bp 1 0), (2, SV.bp 2 0), (3, iv ((i : Int))), (4, SV.bp 4 0), (10, SV.own 60), (11, iv ((g.length : Int))), (12, iv ((i : Int)))], [(1, Own.box 1 (fun _ => SV.own 60) 35), (2, Own.box 1 (fun zt => SV.renm (mvN 3 60) ((cmpG [SV.v (Value.slice none 0 0)]) zt)) 35), (4, Own.box 2 (fun zi => (rowG clCell default g) i (0 + zi)) 43), (60, ownOf clCell 2 default g 43)]⟩
    refine We ?_ ?_
    ·exact ⟨Vj, Vj, Vj, Vj, Vj, Vj, Vj, Vj, V rfl, V rfl, V rfl, V rfl, V rfl, V rfl, V rfl, Z⟩
    ·exact ⟨⟨_, rfl, ⟨rfl, rfl, (An rfl)⟩⟩, ⟨_, rfl, ⟨rfl, rfl, (An rfl)⟩⟩, ⟨_, rfl, ⟨rfl, rfl, (An rfl)⟩⟩, ⟨_, rfl, rfl⟩, Z⟩
   ·intro e hdn he hdp
    have h8 : e 8 = false := fls he fun q => by obtain ⟨r7, -, -, -, -, -, -, -, -, -⟩ := (show e 7 = true ∧ e 5 = true ∧ e 5 = true ∧ e 0 = true ∧ e 1 = true ∧ e 2 = true ∧ e 3 = true ∧ e 4 = true ∧ e 5 = true ∧ True from hdn 8 q); obtain ⟨r6, -, -, -, -, -, -, -⟩ := (show e 6 = true ∧ e 0 = true ∧ e 1 = true ∧ e 2 = true ∧ e 3 = true ∧ e 4 = true ∧ e 5 = true ∧ True from hdn 7 r7); obtain ⟨r1, -, -, -, -, -, -, -, -⟩ := (show e 1 = true ∧ e 2 = true ∧ e 0 = true ∧ e 1 = true ∧ e 2 = true ∧ e 3 = true ∧ e 4 = true ∧ e 5 = true ∧ True from hdn 6 r6); obtain ⟨r0, -⟩ := (show e 0 = true ∧ True from hdn 1 r1); exact r0
    simp only [setE, he, h8, cj_t, cj_f, cjn_t, cjn_f, cb_t, cb_f]
    exact U (FlB _ _ (V rfl) Un35 rfl 0 Sz33) <| Nt <| weakS ⟨V rfl, V rfl, V rfl, V rfl, V rfl, V rfl, V rfl, V rfl, V rfl, V rfl, V rfl, V rfl, V rfl, V rfl, V rfl, Z⟩
   ·intro e hdn he hdp
    obtain ⟨h0, -⟩ := (show e 0 = true ∧ True from hdp)
    have h8 : e 8 = false := fls he fun q => by obtain ⟨r7, -, -, -, -, -, -, -, -, -⟩ := (show e 7 = true ∧ e 5 = true ∧ e 5 = true ∧ e 0 = true ∧ e 1 = true ∧ e 2 = true ∧ e 3 = true ∧ e 4 = true ∧ e 5 = true ∧ True from hdn 8 q); obtain ⟨r6, -, -, -, -, -, -, -⟩ := (show e 6 = true ∧ e 0 = true ∧ e 1 = true ∧ e 2 = true ∧ e 3 = true ∧ e 4 = true ∧ e 5 = true ∧ True from hdn 7 r7); obtain ⟨r1, -, -, -, -, -, -, -, -⟩ := (show e 1 = true ∧ e 2 = true ∧ e 0 = true ∧ e 1 = true ∧ e 2 = true ∧ e 3 = true ∧ e 4 = true ∧ e 5 = true ∧ True from hdn 6 r6); exact r1
    cases hu5 : e 5
    ·simp only [setE, h0, he, h8, hu5, cj_t, cj_f, cjn_t, cjn_f, cb_t, cb_f]
     refine U (LdB (V rfl) rfl Ga33 (by decide)) <| Nt <| We ?_ ?_
     ·exact ⟨V rfl, V rfl, V rfl, V rfl, V rfl, Vj, V rfl, V rfl, V rfl, V rfl, V rfl, V rfl, V rfl, V rfl, V rfl, Z⟩
     ·exact ⟨⟨_, rfl, ⟨rfl, rfl, (An rfl)⟩⟩, ⟨_, rfl, ⟨rfl, rfl, (An rfl)⟩⟩, ⟨_, rfl, ⟨rfl, rfl, (An rfl)⟩⟩, ⟨_, rfl, rfl⟩, Z⟩
    ·simp only [setE, h0, he, h8, hu5, cj_t, cj_f, cjn_t, cjn_f, cb_t, cb_f]
     refine U (LdB (V rfl) rfl Ga33 (by decide)) <| Nt <| We ?_ ?_
     ·exact ⟨V rfl, V rfl, V rfl, V rfl, V rfl, V rfl, V rfl, V rfl, V rfl, V rfl, V rfl, V rfl, V rfl, V rfl, V rfl, Z⟩
     ·exact ⟨⟨_, rfl, ⟨rfl, rfl, (An rfl)⟩⟩, ⟨_, rfl, ⟨rfl, rfl, (An rfl)⟩⟩, ⟨_, rfl, ⟨rfl, rfl, (An rfl)⟩⟩, ⟨_, rfl, rfl⟩, ⟨_, rfl, rfl⟩, Z⟩
   ·intro e hdn he hdp
    have h8 : e 8 = false := fls he fun q => by obtain ⟨r7, -, -, -, -, -, -, -, -, -⟩ := (show e 7 = true ∧ e 5 = true ∧ e 5 = true ∧ e 0 = true ∧ e 1 = true ∧ e 2 = true ∧ e 3 = true ∧ e 4 = true ∧ e 5 = true ∧ True from hdn 8 q); obtain ⟨r6, -, -, -, -, -, -, -⟩ := (show e 6 = true ∧ e 0 = true ∧ e 1 = true ∧ e 2 = true ∧ e 3 = true ∧ e 4 = true ∧ e 5 = true ∧ True from hdn 7 r7); obtain ⟨-, r2, -, -, -, -, -, -, -⟩ := (show e 1 = true ∧ e 2 = true ∧ e 0 = true ∧ e 1 = true ∧ e 2 = true ∧ e 3 = true ∧ e 4 = true ∧ e 5 = true ∧ True from hdn 6 r6); exact r2
    simp only [setE, he, h8, cj_t, cj_f, cjn_t, cjn_f, cb_t, cb_f]
    exact U (Mv (V rfl)) <| Nt <| weakS ⟨V rfl, V rfl, V rfl, V rfl, V rfl, V rfl, V rfl, V rfl, V rfl, V rfl, V rfl, V rfl, V rfl, V rfl, V rfl, Z⟩
   ·intro e hdn he hdp
    have h5 : e 5 = false := fls he fun q => by obtain ⟨r4, -⟩ := (show e 4 = true ∧ True from hdn 5 q); obtain ⟨r3, -⟩ := (show e 3 = true ∧ True from hdn 4 r4); exact r3
    have h8 : e 8 = false := fls he fun q => by obtain ⟨r7, -, -, -, -, -, -, -, -, -⟩ := (show e 7 = true ∧ e 5 = true ∧ e 5 = true ∧ e 0 = true ∧ e 1 = true ∧ e 2 = true ∧ e 3 = true ∧ e 4 = true ∧ e 5 = true ∧ True from hdn 8 q); obtain ⟨r6, -, -, -, -, -, -, -⟩ := (show e 6 = true ∧ e 0 = true ∧ e 1 = true ∧ e 2 = true ∧ e 3 = true ∧ e 4 = true ∧ e 5 = true ∧ True from hdn 7 r7); obtain ⟨-, -, -, -, -, -, -, r5, -⟩ := (show e 1 = true ∧ e 2 = true ∧ e 0 = true ∧ e 1 = true ∧ e 2 = true ∧ e 3 = true ∧ e 4 = true ∧ e 5 = true ∧ True from hdn 6 r6); obtain ⟨r4, -⟩ := (show e 4 = true ∧ True from hdn 5 r5); obtain ⟨r3, -⟩ := (show e 3 = true ∧ True from hdn 4 r4); exact r3
    simp only [setE, he, h5, h8, cj_t, cj_f, cjn_t, cjn_f, cb_t, cb_f]
    refine U (FlB _ _ (V rfl) Un43 rfl 0 Sz24) <| Nt <| We ?_ ?_
    ·exact ⟨V rfl, V rfl, V rfl, V rfl, V rfl, Vj, V rfl, V rfl, V rfl, V rfl, V rfl, V rfl, V rfl, V rfl, V rfl, Z⟩
    ·exact ⟨⟨_, rfl, ⟨rfl, rfl, (An rfl)⟩⟩, ⟨_, rfl, ⟨rfl, rfl, (An rfl)⟩⟩, ⟨_, rfl, ⟨rfl, rfl, (An rfl)⟩⟩, ⟨_, rfl, rfl⟩, Z⟩
   ·intro e hdn he hdp
    obtain ⟨h3, -⟩ := (show e 3 = true ∧ True from hdp)
    have h5 : e 5 = false := fls he fun q => by obtain ⟨r4, -⟩ := (show e 4 = true ∧ True from hdn 5 q); exact r4
    have h8 : e 8 = false := fls he fun q => by obtain ⟨r7, -, -, -, -, -, -, -, -, -⟩ := (show e 7 = true ∧ e 5 = true ∧ e 5 = true ∧ e 0 = true ∧ e 1 = true ∧ e 2 = true ∧ e 3 = true ∧ e 4 = true ∧ e 5 = true ∧ True from hdn 8 q); obtain ⟨r6, -, -, -, -, -, -, -⟩ := (show e 6 = true ∧ e 0 = true ∧ e 1 = true ∧ e 2 = true ∧ e 3 = true ∧ e 4 = true ∧ e 5 = true ∧ True from hdn 7 r7); obtain ⟨-, -, -, -, -, -, -, r5, -⟩ := (show e 1 = true ∧ e 2 = true ∧ e 0 = true ∧ e 1 = true ∧ e 2 = true ∧ e 3 = true ∧ e 4 = true ∧ e 5 = true ∧ True from hdn 6 r6); obtain ⟨r4, -⟩ := (show e 4 = true ∧ True from hdn 5 r5); exact r4
    simp only [setE, h3, he, h5, h8, cj_t, cj_f, cjn_t, cjn_f, cb_t, cb_f]
    refine U (LdB (V rfl) rfl Ga24 (by decide)) <| Nt <| We ?_ ?_
    ·exact ⟨V rfl, V rfl, V rfl, V rfl, V rfl, Vj, V rfl, V rfl, V rfl, V rfl, V rfl, V rfl, V rfl, V rfl, V rfl, Z⟩
    ·exact ⟨⟨_, rfl, ⟨rfl, rfl, (An rfl)⟩⟩, ⟨_, rfl, ⟨rfl, rfl, (An rfl)⟩⟩, ⟨_, rfl, ⟨rfl, rfl, (An rfl)⟩⟩, ⟨_, rfl, rfl⟩, Z⟩
   ·intro e hdn he hdp
    obtain ⟨h4, -⟩ := (show e 4 = true ∧ True from hdp)
    obtain ⟨h3, -⟩ := (show e 3 = true ∧ True from hdn 4 h4)
    have h6 : e 6 = false := fls he fun q => by obtain ⟨-, -, -, -, -, -, -, r5, -⟩ := (show e 1 = true ∧ e 2 = true ∧ e 0 = true ∧ e 1 = true ∧ e 2 = true ∧ e 3 = true ∧ e 4 = true ∧ e 5 = true ∧ True from hdn 6 q); exact r5
    have h7 : e 7 = false := fls he fun q => by obtain ⟨r6, -, -, -, -, -, -, -⟩ := (show e 6 = true ∧ e 0 = true ∧ e 1 = true ∧ e 2 = true ∧ e 3 = true ∧ e 4 = true ∧ e 5 = true ∧ True from hdn 7 q); obtain ⟨-, -, -, -, -, -, -, r5, -⟩ := (show e 1 = true ∧ e 2 = true ∧ e 0 = true ∧ e 1 = true ∧ e 2 = true ∧ e 3 = true ∧ e 4 = true ∧ e 5 = true ∧ True from hdn 6 r6); exact r5
    have h8 : e 8 = false := fls he fun q => by obtain ⟨r7, -, -, -, -, -, -, -, -, -⟩ := (show e 7 = true ∧ e 5 = true ∧ e 5 = true ∧ e 0 = true ∧ e 1 = true ∧ e 2 = true ∧ e 3 = true ∧ e 4 = true ∧ e 5 = true ∧ True from hdn 8 q); obtain ⟨r6, -, -, -, -, -, -, -⟩ := (show e 6 = true ∧ e 0 = true ∧ e 1 = true ∧ e 2 = true ∧ e 3 = true ∧ e 4 = true ∧ e 5 = true ∧ True from hdn 7 r7); obtain ⟨-, -, -, -, -, -, -, r5, -⟩ := (show e 1 = true ∧ e 2 = true ∧ e 0 = true ∧ e 1 = true ∧ e 2 = true ∧ e 3 = true ∧ e 4 = true ∧ e 5 = true ∧ True from hdn 6 r6); exact r5
    simp only [setE, h3, h4, he, h6, h7, h8, cj_t, cj_f, cjn_t, cjn_f, cb_t, cb_f]
    refine CM (cargs := [inRow ((g.getD i default).kids)]) [] [(0, 5)] en94 (by exact ⟨(V rfl), Z⟩) (cloneIn_ct ((g.getD i default).kids) (by omega)) (by exact Z) rfl (freshN_cons (fresh_mk ⟨(noId_cj rfl), (noId_cj rfl), (noId_cj rfl), rfl, rfl, rfl, rfl, rfl, rfl, rfl, rfl, rfl, rfl, rfl, rfl, Z⟩ rfl rfl) rfl rfl) rfl rfl <| Nt <| We ?_ ?_
    ·exact ⟨V rfl, V rfl, V rfl, V rfl, V rfl, V rfl, Vj, Vj, V rfl, V rfl, V rfl, V rfl, V rfl, V rfl, V rfl, Z⟩
    ·exact ⟨⟨_, rfl, ⟨rfl, rfl, (An rfl)⟩⟩, ⟨_, rfl, ⟨rfl, rfl, (An rfl)⟩⟩, ⟨_, rfl, ⟨rfl, rfl, (An rfl)⟩⟩, ⟨_, rfl, rfl⟩, ⟨_, rfl, rfl⟩, Z⟩
   ·intro e hdn he hdp
    obtain ⟨h1, h2, h0, -, -, h3, h4, h5, -⟩ := (show e 1 = true ∧ e 2 = true ∧ e 0 = true ∧ e 1 = true ∧ e 2 = true ∧ e 3 = true ∧ e 4 = true ∧ e 5 = true ∧ True from hdp)
    have h8 : e 8 = false := fls he fun q => by obtain ⟨r7, -, -, -, -, -, -, -, -, -⟩ := (show e 7 = true ∧ e 5 = true ∧ e 5 = true ∧ e 0 = true ∧ e 1 = true ∧ e 2 = true ∧ e 3 = true ∧ e 4 = true ∧ e 5 = true ∧ True from hdn 8 q); obtain ⟨r6, -, -, -, -, -, -, -⟩ := (show e 6 = true ∧ e 0 = true ∧ e 1 = true ∧ e 2 = true ∧ e 3 = true ∧ e 4 = true ∧ e 5 = true ∧ True from hdn 7 r7); exact r6
    simp only [setE, h0, h1, h2, h3, h4, h5, he, h8, cj_t, cj_f, cjn_t, cjn_f, cb_t, cb_f]
    refine U (IOn (i := i) (V rfl) rfl (V rfl) ts33 te33 (by omega)) <| Nt <| We ?_ ?_
    ·exact ⟨V rfl, V rfl, V rfl, V rfl, V rfl, V rfl, V rfl, V rfl, V rfl, V rfl, V rfl, V rfl, V rfl, V rfl, V rfl, Z⟩
    ·exact ⟨⟨_, rfl, ⟨rfl, rfl, (An rfl)⟩⟩, ⟨_, rfl, ⟨rfl, rfl, (An rfl)⟩⟩, ⟨_, rfl, ⟨rfl, rfl, (An rfl)⟩⟩, ⟨_, rfl, rfl⟩, ⟨_, rfl, rfl⟩, Z⟩
   ·intro e hdn he hdp
    obtain ⟨h6, h0, h1, h2, h3, h4, h5, -⟩ := (show e 6 = true ∧ e 0 = true ∧ e 1 = true ∧ e 2 = true ∧ e 3 = true ∧ e 4 = true ∧ e 5 = true ∧ True from hdp)
    have h8 : e 8 = false := fls he fun q => by obtain ⟨r7, -, -, -, -, -, -, -, -, -⟩ := (show e 7 = true ∧ e 5 = true ∧ e 5 = true ∧ e 0 = true ∧ e 1 = true ∧ e 2 = true ∧ e 3 = true ∧ e 4 = true ∧ e 5 = true ∧ True from hdn 8 q); exact r7
    simp only [setE, h0, h1, h2, h3, h4, h5, h6, he, h8, cj_t, cj_f, cjn_t, cjn_f, cb_t, cb_f]
    refine U (FlO _ _ (V rfl) Un43 rfl 0 Sz24) <| Nt <| We ?_ ?_
    ·exact ⟨V rfl, V rfl, V rfl, V rfl, V rfl, V rfl, V rfl, V rfl, V rfl, V rfl, V rfl, V rfl, V rfl, V rfl, V rfl, Z⟩
    ·exact ⟨⟨_, rfl, ⟨rfl, rfl, (An rfl)⟩⟩, ⟨_, rfl, ⟨rfl, rfl, (An rfl)⟩⟩, ⟨_, rfl, ⟨rfl, rfl, (An rfl)⟩⟩, ⟨_, rfl, rfl⟩, ⟨_, rfl, rfl⟩, Z⟩
   ·intro e hdn he hdp
    obtain ⟨h7, h5, -, h0, h1, h2, h3, h4, -, -⟩ := (show e 7 = true ∧ e 5 = true ∧ e 5 = true ∧ e 0 = true ∧ e 1 = true ∧ e 2 = true ∧ e 3 = true ∧ e 4 = true ∧ e 5 = true ∧ True from hdp)
    obtain ⟨h6, -, -, -, -, -, -, -⟩ := (show e 6 = true ∧ e 0 = true ∧ e 1 = true ∧ e 2 = true ∧ e 3 = true ∧ e 4 = true ∧ e 5 = true ∧ True from hdn 7 h7)
    simp only [setE, h0, h1, h2, h3, h4, h5, h6, h7, he, cj_t, cj_f, cjn_t, cjn_f, cb_t, cb_f]
    refine FzT 5 rfl <| ?_
    have hidx0 : i < g.length := by first | omega | (simp; omega)
    refine StO (rowG clCell default (g.set i ({ (g.getD i default) with kids := (g.getD i default).kids }))) (V rfl) rfl (V rfl) rfl rfl Sz24 (by decide) (show g.length = (g.set i ({ (g.getD i default) with kids := (g.getD i default).kids })).length from List.length_set.symm) (set_at hidx0 rfl) (set_typed hidx0 fun t ht hne => match t, ht, hne with | 0, _, _ => rfl | 1, _, hne => absurd rfl hne) <| Nt <| We ?_ ?_
    ·exact ⟨V rfl, V rfl, V rfl, V rfl, V rfl, Vj, V rfl, V rfl, V rfl, V rfl, V rfl, V rfl, V rfl, V rfl, V rfl, Z⟩
    ·exact ⟨⟨_, rfl, ⟨rfl, rfl, (An rfl)⟩⟩, ⟨_, rfl, ⟨rfl, rfl, (An rfl)⟩⟩, ⟨_, rfl, ⟨rfl, rfl, (An rfl)⟩⟩, ⟨_, rfl, rfl⟩, Z⟩
   ·intro e he
    have h0 := he 0 (by decide)
    have h1 := he 1 (by decide)
    have h2 := he 2 (by decide)
    have h3 := he 3 (by decide)
    have h4 := he 4 (by decide)
    have h5 := he 5 (by decide)
    have h6 := he 6 (by decide)
    have h7 := he 7 (by decide)
    have h8 := he 8 (by decide)
    show Weak _ ⟨[(17, cj (e 0) (SV.bp 1 0)), (18, cj (e 1) (SV.own 60)), (19, cj (e 2) (iv ((i : Int)))), (20, cj (e 3) (SV.bp 4 1)), (21, cj (e 4) (inRow ((g.getD i default).kids))), (22, cj (e 5) (cjn (e 8) (SV.own 5))), (23, cj (e 6) (SV.oe 60 2 i 0)), (24, cj (e 7) (SV.oe 60 2 i 1)), (1, SV.bp 1 0), (2, SV.bp 2 0), (3, iv ((i : Int))), (4, SV.bp 4 0), (10, SV.own 60), (11, iv ((g.length : Int))), (12, iv ((i : Int)))], (cb (e 5) (cb (e 8) [(1, Own.box 1 (fun _ => SV.own 60) 35), (2, Own.box 1 (fun zt => SV.renm (mvN 3 60) ((cmpG [SV.v (Value.slice none 0 0)]) zt)) 35), (4, Own.box 2 (fun zi => (rowG clCell default g) i (0 + zi)) 43), (60, ownOf clCell 2 default (g.set i ({ (g.getD i default) with kids := (g.getD i default).kids })) 43)] [(1, Own.box 1 (fun _ => SV.own 60) 35), (2, Own.box 1 (fun zt => SV.renm (mvN 3 60) ((cmpG [SV.v (Value.slice none 0 0)]) zt)) 35), (4, Own.box 2 (fun zi => (rowG clCell default g) i (0 + zi)) 43), (60, ownOf clCell 2 default g 43), (5, ownOf inCell 1 0 ((g.getD i default).kids) 3)]) (cb (e 8) [] [(1, Own.box 1 (fun _ => SV.own 60) 35), (2, Own.box 1 (fun zt => SV.renm (mvN 3 60) ((cmpG [SV.v (Value.slice none 0 0)]) zt)) 35), (4, Own.box 2 (fun zi => (rowG clCell default g) i (0 + zi)) 43), (60, ownOf clCell 2 default g 43)]))⟩ _
    simp only [h0, h1, h2, h3, h4, h5, h6, h7, h8]
    show Weak _ ⟨[(17, SV.bp 1 0), (18, SV.own 60), (19, iv ((i : Int))), (20, SV.bp 4 1), (21, inRow ((g.getD i default).kids)), (22, SV.junk), (23, SV.oe 60 2 i 0), (24, SV.oe 60 2 i 1), (1, SV.bp 1 0), (2, SV.bp 2 0), (3, iv ((i : Int))), (4, SV.bp 4 0), (10, SV.own 60), (11, iv ((g.length : Int))), (12, iv ((i : Int)))], [(1, Own.box 1 (fun _ => SV.own 60) 35), (2, Own.box 1 (fun zt => SV.renm (mvN 3 60) ((cmpG [SV.v (Value.slice none 0 0)]) zt)) 35), (4, Own.box 2 (fun zi => (rowG clCell default g) i (0 + zi)) 43), (60, ownOf clCell 2 default (g.set i ({ (g.getD i default) with kids := (g.getD i default).kids })) 43)]⟩ _
    refine We ?_ ?_
    ·exact ⟨V rfl, V rfl, V rfl, V rfl, V rfl, V rfl, V rfl, V rfl, V rfl, V rfl, V rfl, V rfl, V rfl, V rfl, Z⟩
    ·exact ⟨⟨_, rfl, ⟨rfl, rfl, (An rfl)⟩⟩, ⟨_, rfl, ⟨rfl, rfl, (An rfl)⟩⟩, ⟨_, rfl, ⟨rfl, rfl, (An rfl)⟩⟩, ⟨_, rfl, rfl⟩, Z⟩
   refine Rq <| O (Ad (V rfl) K (by omega)) <| O (Mv (V rfl)) <| Nq <| k_ownE 60 g rfl (by exact set_kids (by omega)) <| Nx (i + 1) (by show (i + 1) ≤ g.length; first | omega | (simp; done) | (refine ⟨?_, ?_⟩ <;> first | omega | (simp; done))) (by show g.length - (i + 1) < g.length - i; omega) (We (ow := [(1, Own.box 1 (fun _ => SV.own 60) 35), (2, Own.box 1 (fun zt => SV.renm (mvN 3 60) ((cmpG [SV.v (Value.slice none 0 0)]) zt)) 35), (60, ownOf clCell 2 default g 43)]) (Vs rfl) (by exact ⟨⟨_, rfl, rfl, rfl, (An rfl)⟩, ⟨_, rfl, rfl, rfl, (An rfl)⟩, ⟨_, rfl, rfl⟩, Z⟩))
  ·have hc1s := hc1; try simp only [BL] at hc1s
   exact Ex <| Sq <| Rt <| U (LBA (V rfl) rfl Ga35 Sz35 (by decide)) <| StA (V rfl) rfl (V rfl) Sz35 <| Nt <| FzC 60 rfl <| Rx <| RR1 rfl (rv_aggI (g' := grG g) (rv_cell (V rfl) rfl Ga35 Sz35) ⟨Z, Ir⟩) rfl (by show SV.agg 1 (grG g) = SV.agg 1 (grG g); rfl)

end Go.Proofs.Ytghkpailmdlhgaa
