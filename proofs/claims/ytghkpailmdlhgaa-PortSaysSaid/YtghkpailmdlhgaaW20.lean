import Derived.Test.YtghkpailmdlhgaaW19
set_option linter.unusedVariables false
set_option linter.unusedSimpArgs false
namespace Go.Proofs.Ytghkpailmdlhgaa
open Go.RowKit Go.Eng
/-- glasshouse/port.Copy -/
theorem pcopy_ct (l : List Pt) (fr : Int) (hc : checkPo l fr = 0) : CtM Try.prog 74 [ptRow l] [] (SV.own 0) [(0, urowOf ptCell 5 default l 71 3 Pt.came grG 1 ([]) 35 l.length none)] := by
 have h12 := checkPo_len hc
 refine CmO 43 Try.func74 rfl rfl rfl fun E => Rl (V (s := 0) rfl) fun hl0 => Sq <| Rq <| O (As (Vn (k := 5) (get := rowG ptCell default []))) <| Nq <| Sq <| Rt <| U (Mv (V rfl)) <| CM (cargs := [ptRow l]) [] [(0, 1)] en87 (by exact ⟨(V rfl), Z⟩) (clonePt_ct l (by omega)) (by exact Z) rfl rfl rfl rfl <| U (As (V rfl)) <| Nt <| Sq <| Sq <| Rq <| O (Mv (V rfl)) <| O (LnO (V rfl) rfl ts60) <| O (Mv K) <| Nq <| Bo <| Tc (turn_u0T 1 3 Pt.came grG 1 ([]) 35 rfl rfl) <| Lo (fun (i : Nat) => ⟨[(0, SV.own 1), (9, SV.own 1), (10, iv ((l.length : Int))), (11, iv ((i : Int)))], [(1, urowOf ptCell 5 default l 71 3 Pt.came grG 1 ([]) 35 i none)]⟩) (fun (i : Nat) => i ≤ l.length) (fun (i : Nat) => l.length - i) 0 (by show 0 ≤ l.length; exact Nat.zero_le _) (We (Vs rfl) (AOs rfl)) <| ?_
 ·rintro i hI1
  have hJ1 : i ≤ l.length := hI1
  refine Sq <| Rq <| O (Lt (V rfl) (V rfl)) <| Nq <| Sq <| Cd (V rfl) (fun hc1 => ?_) (fun hc1 => ?_)
  ·have hc1s := hc1; try simp only [BL] at hc1s
   have hpp := po_parts hc (i := i) (by omega)
   refine Sk <| Sq <| Bo <| Sq <| Rt <| U (Mv (V rfl)) <| U (IUn (i := i) (V rfl) rfl (V rfl) ts60 te60 (by omega)) <| U (LUA (gt := fun zi => ([iv ((l.getD i default).owner), iv ((l.getD i default).turn), iv ((l.getD i default).mate), gsRow ((l.getD i default).came), bv ((l.getD i default).shut)] : List SV).getD zi .junk) (V rfl) rfl Ga71 Sz71 (by decide) ⟨⟨⟨⟨⟨Z, rfl⟩, rfl⟩, rfl⟩, (uat_late (by omega))⟩, rfl⟩) <| Al 2 zero71 rfl rfl <| U (As (V rfl)) <| StA (V rfl) rfl (V rfl) Sz71 <| Nt <| Sq <| Rt <| U (Mv (V rfl)) <| U (Mv (V rfl)) <| U (FlB _ _ (V rfl) Un71 rfl 0 Sz59) <| U (LdB (V rfl) rfl Ga59 (by decide)) <| CM (cargs := [gsRow ((l.getD i default).came)]) [] [(0, 3)] en88 (by exact ⟨(V rfl), Z⟩) (cloneGs_ct ((l.getD i default).came) (by omega)) (by exact Z) rfl rfl rfl rfl <| U (IUn (i := i) (V rfl) rfl (V rfl) ts60 te60 (by omega)) <| U (FlO _ _ (V rfl) Un71 rfl 0 Sz59) <| t_stH (V rfl) rfl (V rfl) (one_own rfl) Sz59 (by decide) (.inr ⟨rfl, by omega⟩) <| Nt <| Sq <| Rq <| O (FlB _ _ (V rfl) Un71 rfl 0 Sz59) <| O (LdB (V rfl) rfl Ga59 (by decide)) <| O (Ln (V rfl) ts59) <| O (Mv K) <| Nq <| Bo <| c_mv 3 61 rfl rfl <| Lo (fun (j : Nat) => ⟨[(0, SV.own 1), (3, iv ((i : Int))), (9, SV.own 1), (10, iv ((l.length : Int))), (11, iv ((i : Int))), (24, gsRow ((l.getD i default).came)), (25, iv ((((l.getD i default).came).length : Int))), (26, iv ((j : Int)))], [(1, urowOf ptCell 5 default l 71 3 Pt.came grG 1 ([]) 35 i (some (i, SV.own 61))), (61, ownOf grG 1 ([]) ((l.getD i default).came) 35)]⟩) (fun (j : Nat) => j ≤ (l.getD i default).came.length) (fun (j : Nat) => (l.getD i default).came.length - j) 0 (by show 0 ≤ (l.getD i default).came.length; exact Nat.zero_le _) (We (Vs rfl) (AOs rfl)) <| ?_
   ·rintro j hI2
    have hJ2 : j ≤ (l.getD i default).came.length := hI2
    refine Sq <| Rq <| O (Lt (V rfl) (V rfl)) <| Nq <| Sq <| Cd (V rfl) (fun hc2 => ?_) (fun hc2 => ?_)
    ·have hc2s := hc2; try simp only [BL] at hc2s
     have hgj : checkGr ((l.getD i default).came.getD j []) = 0 := hpp.2.2.2.2.2.2.2 _ (mem_getG (by omega))
     refine Sk <| Sq <| Bo <| Sq <| Rt <| U (Mv (V rfl)) <| U (IxN (i := j) (V rfl) (V rfl) ts59 te59 (by omega)) <| U (LdA (V rfl) Ga35 Sz35 (by decide)) <| Al 4 zero35 rfl rfl <| U (As (V rfl)) <| StA (V rfl) rfl (V rfl) Sz35 <| Nt <| c_rd (fun e => ⟨[(31, cj (e 0) (SV.own 1)), (32, cj (e 1) (iv ((i : Int)))), (33, cj (e 2) (SV.oe 1 5 i 0)), (34, cj (e 3) (SV.oe 1 5 i 3)), (35, cj (e 4) (SV.own 61)), (36, cj (e 5) (iv ((j : Int)))), (37, cj (e 6) (SV.agg 1 (fun zi => (fun zi => (rowG grG ([]) ((l.getD i default).came)) j (0 + zi)) (0 + zi)))), (38, cj (e 7) (SV.agg 1 (grG ((((l.getD i default).came).getD j []))))), (39, cj (e 8) (SV.oe 61 1 j 0)), (0, SV.own 1), (3, iv ((i : Int))), (5, iv ((j : Int))), (6, SV.bp 4 0), (9, SV.own 1), (10, iv ((l.length : Int))), (11, iv ((i : Int))), (24, gsRow ((l.getD i default).came)), (25, iv ((((l.getD i default).came).length : Int))), (26, iv ((j : Int)))], (cb (e 9) [(1, urowOf ptCell 5 default l 71 3 Pt.came grG 1 ([]) 35 i (some (i, SV.own 61))), (4, Own.box 1 (fun zi => (rowG grG ([]) ((l.getD i default).came)) j (0 + zi)) 35), (61, ownOf grG 1 ([]) (((l.getD i default).came).set j ((((l.getD i default).came).getD j []))) 35)] [(1, urowOf ptCell 5 default l 71 3 Pt.came grG 1 ([]) 35 i (some (i, SV.own 61))), (4, Own.box 1 (fun zi => (rowG grG ([]) ((l.getD i default).came)) j (0 + zi)) 35), (61, ownOf grG 1 ([]) ((l.getD i default).came) 35)])⟩) ⟨[(31, SV.own 1), (32, iv ((i : Int))), (33, SV.oe 1 5 i 0), (34, SV.oe 1 5 i 3), (35, SV.own 61), (36, iv ((j : Int))), (37, SV.agg 1 (fun zi => (fun zi => (rowG grG ([]) ((l.getD i default).came)) j (0 + zi)) (0 + zi))), (38, SV.agg 1 (grG ((((l.getD i default).came).getD j [])))), (39, SV.oe 61 1 j 0), (0, SV.own 1), (3, iv ((i : Int))), (5, iv ((j : Int))), (6, SV.bp 4 0), (9, SV.own 1), (10, iv ((l.length : Int))), (11, iv ((i : Int))), (24, gsRow ((l.getD i default).came)), (25, iv ((((l.getD i default).came).length : Int))), (26, iv ((j : Int)))], [(1, urowOf ptCell 5 default l 71 3 Pt.came grG 1 ([]) 35 i (some (i, SV.own 61))), (4, Own.box 1 (fun zi => (rowG grG ([]) ((l.getD i default).came)) j (0 + zi)) 35), (61, ownOf grG 1 ([]) (((l.getD i default).came).set j ((((l.getD i default).came).getD j []))) 35)]⟩ (by kernel_rfl) (by kernel_rfl) ?_ ⟨?_, ?_, ?_, ?_, ?_, ?_, ?_, ?_, ?_, ?_, Z⟩ ?_ ?_
     ·show Weak _ _ ⟨[(31, SV.junk), (32, SV.junk), (33, SV.junk), (34, SV.junk), (35, SV.junk), (36, SV.junk), (37, SV.junk), (38, SV.junk), (39, SV.junk), (0, SV.own 1), (3, iv ((i : Int))), (5, iv ((j : Int))), (6, SV.bp 4 0), (9, SV.own 1), (10, iv ((l.length : Int))), (11, iv ((i : Int))), (24, gsRow ((l.getD i default).came)), (25, iv ((((l.getD i default).came).length : Int))), (26, iv ((j : Int)))], [(1, urowOf ptCell 5 default l 71 3 Pt.came grG 1 ([]) 35 i (some (i, SV.own 61))), (4, Own.box 1 (fun zi => (rowG grG ([]) ((l.getD i default).came)) j (0 + zi)) 35), (61, ownOf grG 1 ([]) ((l.getD i default).came) 35)]⟩
      refine We ?_ ?_
      ·exact ⟨Vj, Vj, Vj, Vj, Vj, Vj, Vj, Vj, Vj, V rfl, V rfl, V rfl, V rfl, V rfl, V rfl, V rfl, V rfl, V rfl, V rfl, Z⟩
      ·exact ⟨⟨_, rfl, rfl⟩, ⟨_, rfl, ⟨rfl, rfl, (An rfl)⟩⟩, ⟨_, rfl, rfl⟩, Z⟩
     ·intro e hdn he hdp
      have h9 : e 9 = false := fls he fun q => by obtain ⟨r8, -, -, -, -, -, -, -, -, -, -, -⟩ := (show e 8 = true ∧ e 7 = true ∧ e 7 = true ∧ e 0 = true ∧ e 1 = true ∧ e 2 = true ∧ e 3 = true ∧ e 4 = true ∧ e 5 = true ∧ e 6 = true ∧ e 7 = true ∧ True from hdn 9 q); obtain ⟨r4, -, -, -, -, -, -, -, -, -, -⟩ := (show e 4 = true ∧ e 5 = true ∧ e 0 = true ∧ e 1 = true ∧ e 2 = true ∧ e 3 = true ∧ e 4 = true ∧ e 5 = true ∧ e 6 = true ∧ e 7 = true ∧ True from hdn 8 r8); obtain ⟨r3, -⟩ := (show e 3 = true ∧ True from hdn 4 r4); obtain ⟨r2, -⟩ := (show e 2 = true ∧ True from hdn 3 r3); obtain ⟨r0, -, -⟩ := (show e 0 = true ∧ e 1 = true ∧ True from hdn 2 r2); exact r0
      simp only [setE, he, h9, cj_t, cj_f, cjn_t, cjn_f, cb_t, cb_f]
      refine U (Mv (V rfl)) <| Nt <| We ?_ ?_
      ·exact ⟨V rfl, V rfl, V rfl, V rfl, V rfl, V rfl, V rfl, V rfl, V rfl, V rfl, V rfl, V rfl, V rfl, V rfl, V rfl, V rfl, V rfl, V rfl, V rfl, Z⟩
      ·exact ⟨⟨_, rfl, rfl⟩, ⟨_, rfl, ⟨rfl, rfl, (An rfl)⟩⟩, ⟨_, rfl, rfl⟩, Z⟩
     ·intro e hdn he hdp
      have h9 : e 9 = false := fls he fun q => by obtain ⟨r8, -, -, -, -, -, -, -, -, -, -, -⟩ := (show e 8 = true ∧ e 7 = true ∧ e 7 = true ∧ e 0 = true ∧ e 1 = true ∧ e 2 = true ∧ e 3 = true ∧ e 4 = true ∧ e 5 = true ∧ e 6 = true ∧ e 7 = true ∧ True from hdn 9 q); obtain ⟨r4, -, -, -, -, -, -, -, -, -, -⟩ := (show e 4 = true ∧ e 5 = true ∧ e 0 = true ∧ e 1 = true ∧ e 2 = true ∧ e 3 = true ∧ e 4 = true ∧ e 5 = true ∧ e 6 = true ∧ e 7 = true ∧ True from hdn 8 r8); obtain ⟨r3, -⟩ := (show e 3 = true ∧ True from hdn 4 r4); obtain ⟨r2, -⟩ := (show e 2 = true ∧ True from hdn 3 r3); obtain ⟨-, r1, -⟩ := (show e 0 = true ∧ e 1 = true ∧ True from hdn 2 r2); exact r1
      simp only [setE, he, h9, cj_t, cj_f, cjn_t, cjn_f, cb_t, cb_f]
      refine U (Mv (V rfl)) <| Nt <| We ?_ ?_
      ·exact ⟨V rfl, V rfl, V rfl, V rfl, V rfl, V rfl, V rfl, V rfl, V rfl, V rfl, V rfl, V rfl, V rfl, V rfl, V rfl, V rfl, V rfl, V rfl, V rfl, Z⟩
      ·exact ⟨⟨_, rfl, rfl⟩, ⟨_, rfl, ⟨rfl, rfl, (An rfl)⟩⟩, ⟨_, rfl, rfl⟩, Z⟩
     ·intro e hdn he hdp
      obtain ⟨h0, h1, -⟩ := (show e 0 = true ∧ e 1 = true ∧ True from hdp)
      have h9 : e 9 = false := fls he fun q => by obtain ⟨r8, -, -, -, -, -, -, -, -, -, -, -⟩ := (show e 8 = true ∧ e 7 = true ∧ e 7 = true ∧ e 0 = true ∧ e 1 = true ∧ e 2 = true ∧ e 3 = true ∧ e 4 = true ∧ e 5 = true ∧ e 6 = true ∧ e 7 = true ∧ True from hdn 9 q); obtain ⟨r4, -, -, -, -, -, -, -, -, -, -⟩ := (show e 4 = true ∧ e 5 = true ∧ e 0 = true ∧ e 1 = true ∧ e 2 = true ∧ e 3 = true ∧ e 4 = true ∧ e 5 = true ∧ e 6 = true ∧ e 7 = true ∧ True from hdn 8 r8); obtain ⟨r3, -⟩ := (show e 3 = true ∧ True from hdn 4 r4); obtain ⟨r2, -⟩ := (show e 2 = true ∧ True from hdn 3 r3); exact r2
      simp only [setE, h0, h1, he, h9, cj_t, cj_f, cjn_t, cjn_f, cb_t, cb_f]
      refine U (IUn (i := i) (V rfl) rfl (V rfl) ts60 te60 (by omega)) <| Nt <| We ?_ ?_
      ·exact ⟨V rfl, V rfl, V rfl, V rfl, V rfl, V rfl, V rfl, V rfl, V rfl, V rfl, V rfl, V rfl, V rfl, V rfl, V rfl, V rfl, V rfl, V rfl, V rfl, Z⟩
      ·exact ⟨⟨_, rfl, rfl⟩, ⟨_, rfl, ⟨rfl, rfl, (An rfl)⟩⟩, ⟨_, rfl, rfl⟩, Z⟩
     ·intro e hdn he hdp
      obtain ⟨h2, -⟩ := (show e 2 = true ∧ True from hdp)
      obtain ⟨h0, h1, -⟩ := (show e 0 = true ∧ e 1 = true ∧ True from hdn 2 h2)
      have h9 : e 9 = false := fls he fun q => by obtain ⟨r8, -, -, -, -, -, -, -, -, -, -, -⟩ := (show e 8 = true ∧ e 7 = true ∧ e 7 = true ∧ e 0 = true ∧ e 1 = true ∧ e 2 = true ∧ e 3 = true ∧ e 4 = true ∧ e 5 = true ∧ e 6 = true ∧ e 7 = true ∧ True from hdn 9 q); obtain ⟨r4, -, -, -, -, -, -, -, -, -, -⟩ := (show e 4 = true ∧ e 5 = true ∧ e 0 = true ∧ e 1 = true ∧ e 2 = true ∧ e 3 = true ∧ e 4 = true ∧ e 5 = true ∧ e 6 = true ∧ e 7 = true ∧ True from hdn 8 r8); obtain ⟨r3, -⟩ := (show e 3 = true ∧ True from hdn 4 r4); exact r3
      simp only [setE, h0, h1, h2, he, h9, cj_t, cj_f, cjn_t, cjn_f, cb_t, cb_f]
      refine U (FlO _ _ (V rfl) Un71 rfl 0 Sz59) <| Nt <| We ?_ ?_
      ·exact ⟨V rfl, V rfl, V rfl, V rfl, V rfl, V rfl, V rfl, V rfl, V rfl, V rfl, V rfl, V rfl, V rfl, V rfl, V rfl, V rfl, V rfl, V rfl, V rfl, Z⟩
      ·exact ⟨⟨_, rfl, rfl⟩, ⟨_, rfl, ⟨rfl, rfl, (An rfl)⟩⟩, ⟨_, rfl, rfl⟩, Z⟩
     ·intro e hdn he hdp
      obtain ⟨h3, -⟩ := (show e 3 = true ∧ True from hdp)
      obtain ⟨h2, -⟩ := (show e 2 = true ∧ True from hdn 3 h3)
      obtain ⟨h0, h1, -⟩ := (show e 0 = true ∧ e 1 = true ∧ True from hdn 2 h2)
      have h9 : e 9 = false := fls he fun q => by obtain ⟨r8, -, -, -, -, -, -, -, -, -, -, -⟩ := (show e 8 = true ∧ e 7 = true ∧ e 7 = true ∧ e 0 = true ∧ e 1 = true ∧ e 2 = true ∧ e 3 = true ∧ e 4 = true ∧ e 5 = true ∧ e 6 = true ∧ e 7 = true ∧ True from hdn 9 q); obtain ⟨r4, -, -, -, -, -, -, -, -, -, -⟩ := (show e 4 = true ∧ e 5 = true ∧ e 0 = true ∧ e 1 = true ∧ e 2 = true ∧ e 3 = true ∧ e 4 = true ∧ e 5 = true ∧ e 6 = true ∧ e 7 = true ∧ True from hdn 8 r8); exact r4
      simp only [setE, h0, h1, h2, h3, he, h9, cj_t, cj_f, cjn_t, cjn_f, cb_t, cb_f]
      refine U (LdU (V rfl) rfl Ga59 (by decide) uat_hole) <| Nt <| We ?_ ?_
      ·exact ⟨V rfl, V rfl, V rfl, V rfl, V rfl, V rfl, V rfl, V rfl, V rfl, V rfl, V rfl, V rfl, V rfl, V rfl, V rfl, V rfl, V rfl, V rfl, V rfl, Z⟩
      ·exact ⟨⟨_, rfl, rfl⟩, ⟨_, rfl, ⟨rfl, rfl, (An rfl)⟩⟩, ⟨_, rfl, rfl⟩, Z⟩
     ·intro e hdn he hdp
      have h9 : e 9 = false := fls he fun q => by obtain ⟨r8, -, -, -, -, -, -, -, -, -, -, -⟩ := (show e 8 = true ∧ e 7 = true ∧ e 7 = true ∧ e 0 = true ∧ e 1 = true ∧ e 2 = true ∧ e 3 = true ∧ e 4 = true ∧ e 5 = true ∧ e 6 = true ∧ e 7 = true ∧ True from hdn 9 q); obtain ⟨-, r5, -, -, -, -, -, -, -, -, -⟩ := (show e 4 = true ∧ e 5 = true ∧ e 0 = true ∧ e 1 = true ∧ e 2 = true ∧ e 3 = true ∧ e 4 = true ∧ e 5 = true ∧ e 6 = true ∧ e 7 = true ∧ True from hdn 8 r8); exact r5
      simp only [setE, he, h9, cj_t, cj_f, cjn_t, cjn_f, cb_t, cb_f]
      refine U (Mv (V rfl)) <| Nt <| We ?_ ?_
      ·exact ⟨V rfl, V rfl, V rfl, V rfl, V rfl, V rfl, V rfl, V rfl, V rfl, V rfl, V rfl, V rfl, V rfl, V rfl, V rfl, V rfl, V rfl, V rfl, V rfl, Z⟩
      ·exact ⟨⟨_, rfl, rfl⟩, ⟨_, rfl, ⟨rfl, rfl, (An rfl)⟩⟩, ⟨_, rfl, rfl⟩, Z⟩
     ·intro e hdn he hdp
      have h9 : e 9 = false := fls he fun q => by obtain ⟨r8, -, -, -, -, -, -, -, -, -, -, -⟩ := (show e 8 = true ∧ e 7 = true ∧ e 7 = true ∧ e 0 = true ∧ e 1 = true ∧ e 2 = true ∧ e 3 = true ∧ e 4 = true ∧ e 5 = true ∧ e 6 = true ∧ e 7 = true ∧ True from hdn 9 q); obtain ⟨-, -, -, -, -, -, -, -, -, r7, -⟩ := (show e 4 = true ∧ e 5 = true ∧ e 0 = true ∧ e 1 = true ∧ e 2 = true ∧ e 3 = true ∧ e 4 = true ∧ e 5 = true ∧ e 6 = true ∧ e 7 = true ∧ True from hdn 8 r8); obtain ⟨r6, -⟩ := (show e 6 = true ∧ True from hdn 7 r7); exact r6
      simp only [setE, he, h9, cj_t, cj_f, cjn_t, cjn_f, cb_t, cb_f]
      refine U (LBA (V rfl) rfl Ga35 Sz35 (by decide)) <| Nt <| We ?_ ?_
      ·exact ⟨V rfl, V rfl, V rfl, V rfl, V rfl, V rfl, V rfl, V rfl, V rfl, V rfl, V rfl, V rfl, V rfl, V rfl, V rfl, V rfl, V rfl, V rfl, V rfl, Z⟩
      ·exact ⟨⟨_, rfl, rfl⟩, ⟨_, rfl, ⟨rfl, rfl, (An rfl)⟩⟩, ⟨_, rfl, rfl⟩, Z⟩
     ·intro e hdn he hdp
      obtain ⟨h6, -⟩ := (show e 6 = true ∧ True from hdp)
      have h9 : e 9 = false := fls he fun q => by obtain ⟨r8, -, -, -, -, -, -, -, -, -, -, -⟩ := (show e 8 = true ∧ e 7 = true ∧ e 7 = true ∧ e 0 = true ∧ e 1 = true ∧ e 2 = true ∧ e 3 = true ∧ e 4 = true ∧ e 5 = true ∧ e 6 = true ∧ e 7 = true ∧ True from hdn 9 q); obtain ⟨-, -, -, -, -, -, -, -, -, r7, -⟩ := (show e 4 = true ∧ e 5 = true ∧ e 0 = true ∧ e 1 = true ∧ e 2 = true ∧ e 3 = true ∧ e 4 = true ∧ e 5 = true ∧ e 6 = true ∧ e 7 = true ∧ True from hdn 8 r8); exact r7
      simp only [setE, h6, he, h9, cj_t, cj_f, cjn_t, cjn_f, cb_t, cb_f]
      refine CT en89 (by exact ⟨⟨(Vi (g' := grG ((((l.getD i default).came).getD j []))) (V rfl) ⟨Z, Ir⟩), rfl⟩, Z⟩) (own_ct ((((l.getD i default).came).getD j [])) hgj) <| Nt <| We ?_ ?_
      ·exact ⟨V rfl, V rfl, V rfl, V rfl, V rfl, V rfl, V rfl, V rfl, V rfl, V rfl, V rfl, V rfl, V rfl, V rfl, V rfl, V rfl, V rfl, V rfl, V rfl, Z⟩
      ·exact ⟨⟨_, rfl, rfl⟩, ⟨_, rfl, ⟨rfl, rfl, (An rfl)⟩⟩, ⟨_, rfl, rfl⟩, Z⟩
     ·intro e hdn he hdp
      obtain ⟨h4, h5, h0, h1, h2, h3, -, -, h6, h7, -⟩ := (show e 4 = true ∧ e 5 = true ∧ e 0 = true ∧ e 1 = true ∧ e 2 = true ∧ e 3 = true ∧ e 4 = true ∧ e 5 = true ∧ e 6 = true ∧ e 7 = true ∧ True from hdp)
      have h9 : e 9 = false := fls he fun q => by obtain ⟨r8, -, -, -, -, -, -, -, -, -, -, -⟩ := (show e 8 = true ∧ e 7 = true ∧ e 7 = true ∧ e 0 = true ∧ e 1 = true ∧ e 2 = true ∧ e 3 = true ∧ e 4 = true ∧ e 5 = true ∧ e 6 = true ∧ e 7 = true ∧ True from hdn 9 q); exact r8
      simp only [setE, h0, h1, h2, h3, h4, h5, h6, h7, he, h9, cj_t, cj_f, cjn_t, cjn_f, cb_t, cb_f]
      refine U (IOn (i := j) (V rfl) rfl (V rfl) ts59 te59 (by omega)) <| Nt <| We ?_ ?_
      ·exact ⟨V rfl, V rfl, V rfl, V rfl, V rfl, V rfl, V rfl, V rfl, V rfl, V rfl, V rfl, V rfl, V rfl, V rfl, V rfl, V rfl, V rfl, V rfl, V rfl, Z⟩
      ·exact ⟨⟨_, rfl, rfl⟩, ⟨_, rfl, ⟨rfl, rfl, (An rfl)⟩⟩, ⟨_, rfl, rfl⟩, Z⟩
     ·intro e hdn he hdp
      obtain ⟨h8, h7, -, h0, h1, h2, h3, h4, h5, h6, -, -⟩ := (show e 8 = true ∧ e 7 = true ∧ e 7 = true ∧ e 0 = true ∧ e 1 = true ∧ e 2 = true ∧ e 3 = true ∧ e 4 = true ∧ e 5 = true ∧ e 6 = true ∧ e 7 = true ∧ True from hdp)
      simp only [setE, h0, h1, h2, h3, h4, h5, h6, h7, h8, he, cj_t, cj_f, cjn_t, cjn_f, cb_t, cb_f]
      refine t_stOAT ((((l.getD i default).came).getD j [])) (V rfl) rfl (V rfl) (An rfl) Sz35 (by first | omega | (simp; omega)) (An rfl) <| Nt <| We ?_ ?_
      ·exact ⟨V rfl, V rfl, V rfl, V rfl, V rfl, V rfl, V rfl, V rfl, V rfl, V rfl, V rfl, V rfl, V rfl, V rfl, V rfl, V rfl, V rfl, V rfl, V rfl, Z⟩
      ·exact ⟨⟨_, rfl, rfl⟩, ⟨_, rfl, ⟨rfl, rfl, (An rfl)⟩⟩, ⟨_, rfl, rfl⟩, Z⟩
     ·intro e he
      have h0 := he 0 (by decide)
      have h1 := he 1 (by decide)
      have h2 := he 2 (by decide)
      have h3 := he 3 (by decide)
      have h4 := he 4 (by decide)
      have h5 := he 5 (by decide)
      have h6 := he 6 (by decide)
      have h7 := he 7 (by decide)
      have h8 := he 8 (by decide)
      have h9 := he 9 (by decide)
      show Weak _ ⟨[(31, cj (e 0) (SV.own 1)), (32, cj (e 1) (iv ((i : Int)))), (33, cj (e 2) (SV.oe 1 5 i 0)), (34, cj (e 3) (SV.oe 1 5 i 3)), (35, cj (e 4) (SV.own 61)), (36, cj (e 5) (iv ((j : Int)))), (37, cj (e 6) (SV.agg 1 (fun zi => (fun zi => (rowG grG ([]) ((l.getD i default).came)) j (0 + zi)) (0 + zi)))), (38, cj (e 7) (SV.agg 1 (grG ((((l.getD i default).came).getD j []))))), (39, cj (e 8) (SV.oe 61 1 j 0)), (0, SV.own 1), (3, iv ((i : Int))), (5, iv ((j : Int))), (6, SV.bp 4 0), (9, SV.own 1), (10, iv ((l.length : Int))), (11, iv ((i : Int))), (24, gsRow ((l.getD i default).came)), (25, iv ((((l.getD i default).came).length : Int))), (26, iv ((j : Int)))], (cb (e 9) [(1, urowOf ptCell 5 default l 71 3 Pt.came grG 1 ([]) 35 i (some (i, SV.own 61))), (4, Own.box 1 (fun zi => (rowG grG ([]) ((l.getD i default).came)) j (0 + zi)) 35), (61, ownOf grG 1 ([]) (((l.getD i default).came).set j ((((l.getD i default).came).getD j []))) 35)] [(1, urowOf ptCell 5 default l 71 3 Pt.came grG 1 ([]) 35 i (some (i, SV.own 61))), (4, Own.box 1 (fun zi => (rowG grG ([]) ((l.getD i default).came)) j (0 + zi)) 35), (61, ownOf grG 1 ([]) ((l.getD i default).came) 35)])⟩ _
      simp only [h0, h1, h2, h3, h4, h5, h6, h7, h8, h9]
      show Weak _ ⟨[(31, SV.own 1), (32, iv ((i : Int))), (33, SV.oe 1 5 i 0), (34, SV.oe 1 5 i 3), (35, SV.own 61), (36, iv ((j : Int))), (37, SV.agg 1 (fun zi => (fun zi => (rowG grG ([]) ((l.getD i default).came)) j (0 + zi)) (0 + zi))), (38, SV.agg 1 (grG ((((l.getD i default).came).getD j [])))), (39, SV.oe 61 1 j 0), (0, SV.own 1), (3, iv ((i : Int))), (5, iv ((j : Int))), (6, SV.bp 4 0), (9, SV.own 1), (10, iv ((l.length : Int))), (11, iv ((i : Int))), (24, gsRow ((l.getD i default).came)), (25, iv ((((l.getD i default).came).length : Int))), (26, iv ((j : Int)))], [(1, urowOf ptCell 5 default l 71 3 Pt.came grG 1 ([]) 35 i (some (i, SV.own 61))), (4, Own.box 1 (fun zi => (rowG grG ([]) ((l.getD i default).came)) j (0 + zi)) 35), (61, ownOf grG 1 ([]) (((l.getD i default).came).set j ((((l.getD i default).came).getD j []))) 35)]⟩ _
      refine We ?_ ?_
      ·exact ⟨V rfl, V rfl, V rfl, V rfl, V rfl, V rfl, Va (V rfl) (An rfl), Va (V rfl) (An rfl), V rfl, V rfl, V rfl, V rfl, V rfl, V rfl, V rfl, V rfl, V rfl, V rfl, V rfl, Z⟩
      ·exact ⟨⟨_, rfl, rfl⟩, ⟨_, rfl, ⟨rfl, rfl, (An rfl)⟩⟩, ⟨_, rfl, rfl⟩, Z⟩
     refine Rq <| O (Ad (V rfl) K (by omega)) <| O (Mv (V rfl)) <| Nq <| k_ownE 61 ((l.getD i default).came) rfl (by exact set_same (by omega) rfl) <| Nx (j + 1) (by show (j + 1) ≤ (l.getD i default).came.length; first | omega | (simp; done) | (refine ⟨?_, ?_⟩ <;> first | omega | (simp; done))) (by show (l.getD i default).came.length - (j + 1) < (l.getD i default).came.length - j; omega) (We (Vs rfl) (AOs rfl))
    ·have hc2s := hc2; try simp only [BL] at hc2s
     refine Ex <| Rq <| O (Ad (V rfl) K (by omega)) <| O (Mv (V rfl)) <| Nq <| Tk (turn_joinT 1 i 61 (i + 1) ({ (l.getD i default) with came := (l.getD i default).came }) rfl rfl rfl (by first | omega | (simp; omega)) (by omega) (by rw [if_neg (by omega)]) rfl rfl (fun t ht hne => match t, ht, hne with | 0, _, _ => rfl | 1, _, _ => rfl | 2, _, _ => rfl | 3, _, hne => absurd rfl hne | 4, _, _ => rfl) rfl) <| k_uE 1 l ((i + 1)) rfl (by exact set_came (by omega)) (by first | rfl | omega) <| Nx (i + 1) (by show (i + 1) ≤ l.length; first | omega | (simp; done) | (refine ⟨?_, ?_⟩ <;> first | omega | (simp; done))) (by show l.length - (i + 1) < l.length - i; omega) (We (Vs rfl) (AOs rfl))
  ·have hc1s := hc1; try simp only [BL] at hc1s
   exact Ex <| Sq <| Rq <| O (Mv (V rfl)) <| O (As (V rfl)) <| Nq <| c_mv 1 0 rfl rfl <| c_uE 0 l l.length rfl (by rfl) (by first | rfl | omega) <| Rx <| M1 rfl (V rfl) (by exact ⟨⟨_, rfl, rfl⟩, Z⟩) (by show SV.own 0 = SV.own 0; rfl)

/-- glasshouse/port.owned -/
theorem powned_ct (l : List Pt) (fr k o t : Int) : Ct Try.prog 75 [ptRow l, iv (fr), iv (k), iv (o), iv (t)] (iv (ownedPo l fr k o t)) := by
 refine CtO 47 Try.func75 rfl rfl rfl fun E => Rl (V (s := 0) rfl) fun hl0 => Sq <| Rq <| O (As K) <| Nq <| Sq <| Sq <| Rq <| O (Mv (V rfl)) <| O (Mv (V rfl)) <| CQ en55 (by exact ⟨⟨(V rfl), rfl⟩, ⟨(V rfl), rfl⟩, Z⟩) (pcheck_ct l fr) <| O (As (V rfl)) <| Nq <| Sq <| Rq <| O (Mv (V rfl)) <| O (Qn (V rfl) K) <| Nq <| Cd (V rfl) (fun hc1 => ?_) (fun hc1 => ?_)
 ·have hc1s := hc1; try simp only [BL] at hc1s
  exact Sq <| Rq <| O (Mv (V rfl)) <| O (As (V rfl)) <| Nq <| Rx <| R1 rfl (V rfl) rfl (by show iv (checkPo l fr) = iv (ownedPo l fr k o t); rw [ownedPo, if_pos hc1s])
 ·have hc1s := hc1; try simp only [BL] at hc1s
  refine Sk <| Sq <| Sq <| Rq <| O (Mv (V rfl)) <| O (Lt (V rfl) K) <| O (Mv (V rfl)) <| Og (Gn rfl rfl) (fun hg => Mv (V rfl)) <| Og (Gn rfl rfl) (fun hg => Mv (V rfl)) <| Og (Gn rfl rfl) (fun hg => Ln (Vg (V rfl) hg) ts60) <| Og (Gn rfl rfl) (fun hg => Ge (Vg (V rfl) hg) (Vg (V rfl) hg)) <| O (Qr (V rfl) (fun h => Vg (V rfl) (notT h))) <| Nq <| Cd (V rfl) (fun hc2 => ?_) (fun hc2 => ?_)
  ·have hc2s := hc2; try simp only [BL] at hc2s
   exact Sq <| Rq <| O (As K) <| Nq <| Rx <| R1 rfl (V rfl) rfl (by show iv (4) = iv (ownedPo l fr k o t); rw [ownedPo, if_neg (not_not_intro hc1s), if_pos hc2])
  ·have hc2s := hc2; try simp only [BL] at hc2s
   refine Sk <| Sq <| Sq <| Rq <| O (Mv (V rfl)) <| O (Mv (V rfl)) <| O (Ix (V rfl) (V rfl) ts60 te60 (by omega) (by omega)) <| O (Fl _ _ (V rfl) Un71 rfl 0 Sz3) <| O (Ld (V rfl) Ga3 (by decide)) <| O (Mv (V rfl)) <| O (Qn (V rfl) (V rfl)) <| O (Mv (V rfl)) <| Og (Gn rfl rfl) (fun hg => Mv (V rfl)) <| Og (Gn rfl rfl) (fun hg => Mv (V rfl)) <| Og (Gn rfl rfl) (fun hg => Ix (Vg (V rfl) hg) (Vg (V rfl) hg) ts60 te60 (by omega) (by omega)) <| Og (Gn rfl rfl) (fun hg => Fl _ _ (Vg (V rfl) hg) Un71 rfl 0 Sz3) <| Og (Gn rfl rfl) (fun hg => Ld (Vg (V rfl) hg) Ga3 (by decide)) <| Og (Gn rfl rfl) (fun hg => Mv (V rfl)) <| Og (Gn rfl rfl) (fun hg => Qn (Vg (V rfl) hg) (Vg (V rfl) hg)) <| O (Qr (V rfl) (fun h => Vg (V rfl) (notT h))) <| Nq <| Cd (V rfl) (fun hc3 => ?_) (fun hc3 => ?_)
   ·have hc3s := hc3; try simp only [BL] at hc3s
    exact Sq <| Rq <| O (As K) <| Nq <| Rx <| R1 rfl (V rfl) rfl (by show iv (7) = iv (ownedPo l fr k o t); rw [ownedPo, if_neg (not_not_intro hc1s), if_neg (ff hc2), if_pos hc3])
   ·have hc3s := hc3; try simp only [BL] at hc3s
    refine Sk <| Sq <| Sq <| Rq <| O (Mv (V rfl)) <| O (Mv (V rfl)) <| O (Ix (V rfl) (V rfl) ts60 te60 (by omega) (by omega)) <| O (Fl _ _ (V rfl) Un71 rfl 0 Sz4) <| O (Ld (V rfl) Ga4 (by decide)) <| Nq <| Cd (V rfl) (fun hc4 => ?_) (fun hc4 => ?_)
    ·have hc4s := hc4; try simp only [BL] at hc4s
     exact Sq <| Rq <| O (As K) <| Nq <| Rx <| R1 rfl (V rfl) rfl (by show iv (5) = iv (ownedPo l fr k o t); rw [ownedPo, if_neg (not_not_intro hc1s), if_neg (ff hc2), if_neg (ff hc3), if_pos hc4])
    ·have hc4s := hc4; try simp only [BL] at hc4s
     exact Sk <| Sq <| Rq <| O (As K) <| Nq <| Rx <| R1 rfl (V rfl) rfl (by show iv (0) = iv (ownedPo l fr k o t); rw [ownedPo, if_neg (not_not_intro hc1s), if_neg (ff hc2), if_neg (ff hc3), if_neg (ff hc4)])

end Go.Proofs.Ytghkpailmdlhgaa
