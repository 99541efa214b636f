import Derived.Test.YtghkpailmdlhgaaW22
set_option linter.unusedVariables false
set_option linter.unusedSimpArgs false
namespace Go.Proofs.Ytghkpailmdlhgaa
open Go.RowKit Go.Eng
/-- glasshouse/glasshouseref.PortPulled$1 -/
theorem doPull_ct (l : List Pt) (k : Int) (x : List Cl) (hk : 0 ≤ k ∧ k < (l.length : Int)) (h16 : (l.getD (Int.toNat k) default).came.length ≤ 16) : CtM Try.prog 80 [SV.own 1000, SV.bp 1002 0, SV.bp 1001 0] [(1000, ownOf ptCell 5 default l 71), (1001, Own.box 1 (grG x) 35), (1002, Own.box 1 (fun _ => iv k) 3)] (iv ((doPull l k x).2.2)) [(1000, ownOf ptCell 5 default ((doPull l k x).1) 71), (1001, Own.box 1 (grG ((doPull l k x).2.1)) 35), (1002, Own.box 1 (fun _ => iv k) 3)] := by
 refine CmO 31 Try.func80 rfl rfl rfl fun E => Sq <| Rq <| O (As K) <| Nq <| Sq <| Sq <| Rq <| O (Mv (V rfl)) <| O (LdB (V rfl) rfl Ga3 (by decide)) <| O (IxO (V rfl) rfl (V rfl) ts60 te60 (by omega) (by first | omega | (simp only [List.length_set]; omega))) <| O (FlO _ _ (V rfl) Un71 rfl 0 Sz59) <| O (LdO (V rfl) rfl Ga59 (by decide)) <| O (Ln (V rfl) ts59) <| O (Ql (V rfl) K) <| Nq <| Cd (V rfl) (fun hc1 => ?_) (fun hc1 => ?_)
 ·have hc1s := hc1; try simp only [BL] at hc1s
  exact Sq <| Rq <| O (As K) <| Nq <| c_ownE 1000 ((doPull l k x).1) rfl (by rw [doPull, if_pos hc1s]) <| Rx <| M1 rfl (V rfl) (by exact ⟨⟨_, rfl, rfl⟩, ⟨_, rfl, ⟨rfl, rfl, ⟨Z, by first | rfl | (show clRow x = clRow _; rw [doPull, if_pos hc1s])⟩⟩⟩, ⟨_, rfl, ⟨rfl, rfl, ⟨Z, by first | rfl | (show clRow x = clRow _; rw [doPull, if_pos hc1s])⟩⟩⟩, Z⟩) (by show iv (8) = iv ((doPull l k x).2.2); rw [doPull, if_pos hc1s])
 ·have hc1s := hc1; try simp only [BL] at hc1s
  refine Sk <| Sq <| Rt <| U (Mv (V rfl)) <| U (LdB (V rfl) rfl Ga3 (by decide)) <| U (IxO (V rfl) rfl (V rfl) ts60 te60 (by omega) (by first | omega | (simp only [List.length_set]; omega))) <| U (FlO _ _ (V rfl) Un71 rfl 0 Sz59) <| U (LdO (V rfl) rfl Ga59 (by decide)) <| U (Ix (V rfl) K ts59 te59 (by omega) (by first | omega | (simp only [List.length_set]; omega))) <| U (LdA (V rfl) Ga35 Sz35 (by decide)) <| StA (V rfl) rfl (V rfl) Sz35 <| Nt <| Sq <| c_rd (fun e => ⟨[(19, cj (e 0) (SV.own 1000)), (20, cj (e 1) (iv (k))), (21, cj (e 2) (cjn (e 9) (SV.own 1))), (22, cj (e 3) (SV.own 1000)), (23, cj (e 4) (iv (k))), (24, cj (e 5) (SV.oe 1000 5 (Int.toNat k) 0)), (25, cj (e 6) (SV.oe 1000 5 (Int.toNat k) 3)), (26, cj (e 7) (gsRow ((l.getD (Int.toNat k) default).came))), (27, cj (e 8) (gsRow (((l.getD (Int.toNat k) default).came).drop 1))), (28, cj (e 9) (cjn (e 12) (SV.own 2))), (29, cj (e 10) (SV.oe 1000 5 (Int.toNat k) 0)), (30, cj (e 11) (SV.oe 1000 5 (Int.toNat k) 3)), (0, SV.own 1000), (1, SV.bp 1002 0)], (cb (e 2) (cb (e 9) (cb (e 12) [(1000, ownOf ptCell 5 default (l.set (Int.toNat k) ({ (l.getD (Int.toNat k) default) with came := ([]) ++ (((l.getD (Int.toNat k) default).came).drop 1) })) 71), (1001, Own.box 1 (fun zi => (rowG grG ([]) ((l.getD (Int.toNat k) default).came)) 0 (0 + zi)) 35), (1002, Own.box 1 (fun _ => iv k) 3)] [(1000, ownOf ptCell 5 default l 71), (1001, Own.box 1 (fun zi => (rowG grG ([]) ((l.getD (Int.toNat k) default).came)) 0 (0 + zi)) 35), (1002, Own.box 1 (fun _ => iv k) 3), (2, ownOf grG 1 ([]) (([]) ++ (((l.getD (Int.toNat k) default).came).drop 1)) 35)]) (cb (e 12) [] [(1000, ownOf ptCell 5 default l 71), (1001, Own.box 1 (fun zi => (rowG grG ([]) ((l.getD (Int.toNat k) default).came)) 0 (0 + zi)) 35), (1002, Own.box 1 (fun _ => iv k) 3), (1, ownOf grG 1 ([]) ([]) 35)])) (cb (e 9) (cb (e 12) [] []) (cb (e 12) [] [(1000, ownOf ptCell 5 default l 71), (1001, Own.box 1 (fun zi => (rowG grG ([]) ((l.getD (Int.toNat k) default).came)) 0 (0 + zi)) 35), (1002, Own.box 1 (fun _ => iv k) 3)])))⟩) ⟨[(19, SV.own 1000), (20, iv (k)), (22, SV.own 1000), (23, iv (k)), (24, SV.oe 1000 5 (Int.toNat k) 0), (25, SV.oe 1000 5 (Int.toNat k) 3), (26, gsRow ((l.getD (Int.toNat k) default).came)), (27, gsRow (((l.getD (Int.toNat k) default).came).drop 1)), (29, SV.oe 1000 5 (Int.toNat k) 0), (30, SV.oe 1000 5 (Int.toNat k) 3), (0, SV.own 1000), (1, SV.bp 1002 0)], [(1000, ownOf ptCell 5 default (l.set (Int.toNat k) ({ (l.getD (Int.toNat k) default) with came := ([]) ++ (((l.getD (Int.toNat k) default).came).drop 1) })) 71), (1001, Own.box 1 (fun zi => (rowG grG ([]) ((l.getD (Int.toNat k) default).came)) 0 (0 + zi)) 35), (1002, Own.box 1 (fun _ => iv k) 3)]⟩ (by kernel_rfl) (by kernel_rfl) ?_ ⟨?_, ?_, ?_, ?_, ?_, ?_, ?_, ?_, ?_, ?_, ?_, ?_, ?_, Z⟩ ?_ ?_
  ·show Weak _ _ ⟨[(19, SV.junk), (20, SV.junk), (21, SV.junk), (22, SV.junk), (23, SV.junk), (24, SV.junk), (25, SV.junk), (26, SV.junk), (27, SV.junk), (28, SV.junk), (29, SV.junk), (30, SV.junk), (0, SV.own 1000), (1, SV.bp 1002 0)], [(1000, ownOf ptCell 5 default l 71), (1001, Own.box 1 (fun zi => (rowG grG ([]) ((l.getD (Int.toNat k) default).came)) 0 (0 + zi)) 35), (1002, Own.box 1 (fun _ => iv k) 3)]⟩
   refine We ?_ ?_
   ·exact ⟨Vj, Vj, Vj, Vj, Vj, Vj, Vj, Vj, Vj, Vj, Vj, Vj, V rfl, V rfl, Z⟩
   ·exact ⟨⟨_, rfl, rfl⟩, ⟨_, rfl, ⟨rfl, rfl, (An rfl)⟩⟩, ⟨_, rfl, ⟨rfl, rfl, (An rfl)⟩⟩, Z⟩
  ·intro e hdn he hdp
   have h12 : e 12 = false := fls he fun q => by obtain ⟨r11, -, -, -, -, -, -, -, -, -, -, -, -, -⟩ := (show e 11 = true ∧ e 9 = true ∧ e 9 = true ∧ e 0 = true ∧ e 1 = true ∧ e 2 = true ∧ e 3 = true ∧ e 4 = true ∧ e 5 = true ∧ e 6 = true ∧ e 7 = true ∧ e 8 = true ∧ e 9 = true ∧ True from hdn 12 q); obtain ⟨r10, -, -, -, -, -, -, -, -, -, -, -⟩ := (show e 10 = true ∧ e 0 = true ∧ e 1 = true ∧ e 2 = true ∧ e 3 = true ∧ e 4 = true ∧ e 5 = true ∧ e 6 = true ∧ e 7 = true ∧ e 8 = true ∧ e 9 = true ∧ True from hdn 11 r11); obtain ⟨r0, -, -, -, -, -, -, -, -, -, -, -, -⟩ := (show e 0 = true ∧ e 1 = true ∧ e 0 = true ∧ e 1 = true ∧ e 2 = true ∧ e 3 = true ∧ e 4 = true ∧ e 5 = true ∧ e 6 = true ∧ e 7 = true ∧ e 8 = true ∧ e 9 = true ∧ True from hdn 10 r10); exact r0
   simp only [setE, he, h12, cj_t, cj_f, cjn_t, cjn_f, cb_t, cb_f]
   exact U (Mv (V rfl)) <| Nt <| weakS ⟨V rfl, V rfl, V rfl, V rfl, V rfl, V rfl, V rfl, V rfl, V rfl, V rfl, V rfl, V rfl, V rfl, V rfl, Z⟩
  ·intro e hdn he hdp
   have h12 : e 12 = false := fls he fun q => by obtain ⟨r11, -, -, -, -, -, -, -, -, -, -, -, -, -⟩ := (show e 11 = true ∧ e 9 = true ∧ e 9 = true ∧ e 0 = true ∧ e 1 = true ∧ e 2 = true ∧ e 3 = true ∧ e 4 = true ∧ e 5 = true ∧ e 6 = true ∧ e 7 = true ∧ e 8 = true ∧ e 9 = true ∧ True from hdn 12 q); obtain ⟨r10, -, -, -, -, -, -, -, -, -, -, -⟩ := (show e 10 = true ∧ e 0 = true ∧ e 1 = true ∧ e 2 = true ∧ e 3 = true ∧ e 4 = true ∧ e 5 = true ∧ e 6 = true ∧ e 7 = true ∧ e 8 = true ∧ e 9 = true ∧ True from hdn 11 r11); obtain ⟨-, r1, -, -, -, -, -, -, -, -, -, -, -⟩ := (show e 0 = true ∧ e 1 = true ∧ e 0 = true ∧ e 1 = true ∧ e 2 = true ∧ e 3 = true ∧ e 4 = true ∧ e 5 = true ∧ e 6 = true ∧ e 7 = true ∧ e 8 = true ∧ e 9 = true ∧ True from hdn 10 r10); exact r1
   cases hu2 : e 2
   ·have h9 : e 9 = false := fls hu2 fun q => by obtain ⟨r2, -, -⟩ := (show e 2 = true ∧ e 8 = true ∧ True from hdn 9 q); exact r2
    simp only [setE, he, h12, hu2, h9, cj_t, cj_f, cjn_t, cjn_f, cb_t, cb_f]
    refine U (LdB (V rfl) rfl Ga3 (by decide)) <| Nt <| We ?_ ?_
    ·exact ⟨V rfl, V rfl, Vj, V rfl, V rfl, V rfl, V rfl, V rfl, V rfl, Vj, V rfl, V rfl, V rfl, V rfl, Z⟩
    ·exact ⟨⟨_, rfl, rfl⟩, ⟨_, rfl, ⟨rfl, rfl, (An rfl)⟩⟩, ⟨_, rfl, ⟨rfl, rfl, (An rfl)⟩⟩, Z⟩
   ·cases hu9 : e 9
    ·simp only [setE, he, h12, hu2, hu9, cj_t, cj_f, cjn_t, cjn_f, cb_t, cb_f]
     refine U (LdB (V rfl) rfl Ga3 (by decide)) <| Nt <| We ?_ ?_
     ·exact ⟨V rfl, V rfl, V rfl, V rfl, V rfl, V rfl, V rfl, V rfl, V rfl, Vj, V rfl, V rfl, V rfl, V rfl, Z⟩
     ·exact ⟨⟨_, rfl, rfl⟩, ⟨_, rfl, ⟨rfl, rfl, (An rfl)⟩⟩, ⟨_, rfl, ⟨rfl, rfl, (An rfl)⟩⟩, ⟨_, rfl, rfl⟩, Z⟩
    ·simp only [setE, he, h12, hu2, hu9, cj_t, cj_f, cjn_t, cjn_f, cb_t, cb_f]
     refine U (LdB (V rfl) rfl Ga3 (by decide)) <| Nt <| We ?_ ?_
     ·exact ⟨V rfl, V rfl, Vj, V rfl, V rfl, V rfl, V rfl, V rfl, V rfl, V rfl, V rfl, V rfl, V rfl, V rfl, Z⟩
     ·exact ⟨⟨_, rfl, rfl⟩, ⟨_, rfl, ⟨rfl, rfl, (An rfl)⟩⟩, ⟨_, rfl, ⟨rfl, rfl, (An rfl)⟩⟩, ⟨_, rfl, rfl⟩, Z⟩
  ·intro e hdn he hdp
   have h9 : e 9 = false := fls he fun q => by obtain ⟨r2, -, -⟩ := (show e 2 = true ∧ e 8 = true ∧ True from hdn 9 q); exact r2
   have h10 : e 10 = false := fls he fun q => by obtain ⟨-, -, -, -, -, -, -, -, -, -, -, r9, -⟩ := (show e 0 = true ∧ e 1 = true ∧ e 0 = true ∧ e 1 = true ∧ e 2 = true ∧ e 3 = true ∧ e 4 = true ∧ e 5 = true ∧ e 6 = true ∧ e 7 = true ∧ e 8 = true ∧ e 9 = true ∧ True from hdn 10 q); obtain ⟨r2, -, -⟩ := (show e 2 = true ∧ e 8 = true ∧ True from hdn 9 r9); exact r2
   have h11 : e 11 = false := fls he fun q => by obtain ⟨r10, -, -, -, -, -, -, -, -, -, -, -⟩ := (show e 10 = true ∧ e 0 = true ∧ e 1 = true ∧ e 2 = true ∧ e 3 = true ∧ e 4 = true ∧ e 5 = true ∧ e 6 = true ∧ e 7 = true ∧ e 8 = true ∧ e 9 = true ∧ True from hdn 11 q); obtain ⟨-, -, -, -, -, -, -, -, -, -, -, r9, -⟩ := (show e 0 = true ∧ e 1 = true ∧ e 0 = true ∧ e 1 = true ∧ e 2 = true ∧ e 3 = true ∧ e 4 = true ∧ e 5 = true ∧ e 6 = true ∧ e 7 = true ∧ e 8 = true ∧ e 9 = true ∧ True from hdn 10 r10); obtain ⟨r2, -, -⟩ := (show e 2 = true ∧ e 8 = true ∧ True from hdn 9 r9); exact r2
   have h12 : e 12 = false := fls he fun q => by obtain ⟨r11, -, -, -, -, -, -, -, -, -, -, -, -, -⟩ := (show e 11 = true ∧ e 9 = true ∧ e 9 = true ∧ e 0 = true ∧ e 1 = true ∧ e 2 = true ∧ e 3 = true ∧ e 4 = true ∧ e 5 = true ∧ e 6 = true ∧ e 7 = true ∧ e 8 = true ∧ e 9 = true ∧ True from hdn 12 q); obtain ⟨r10, -, -, -, -, -, -, -, -, -, -, -⟩ := (show e 10 = true ∧ e 0 = true ∧ e 1 = true ∧ e 2 = true ∧ e 3 = true ∧ e 4 = true ∧ e 5 = true ∧ e 6 = true ∧ e 7 = true ∧ e 8 = true ∧ e 9 = true ∧ True from hdn 11 r11); obtain ⟨-, -, -, -, -, -, -, -, -, -, -, r9, -⟩ := (show e 0 = true ∧ e 1 = true ∧ e 0 = true ∧ e 1 = true ∧ e 2 = true ∧ e 3 = true ∧ e 4 = true ∧ e 5 = true ∧ e 6 = true ∧ e 7 = true ∧ e 8 = true ∧ e 9 = true ∧ True from hdn 10 r10); obtain ⟨r2, -, -⟩ := (show e 2 = true ∧ e 8 = true ∧ True from hdn 9 r9); exact r2
   simp only [setE, he, h9, h10, h11, h12, cj_t, cj_f, cjn_t, cjn_f, cb_t, cb_f]
   refine t_bs0 1 (rowG grG ([]) []) Un59 Sz35 (fresh_mk ⟨(noId_cj rfl), (noId_cj rfl), rfl, (noId_cj rfl), (noId_cj rfl), (noId_cj rfl), (noId_cj rfl), (noId_cj rfl), (noId_cj rfl), rfl, rfl, rfl, rfl, rfl, Z⟩ rfl rfl) <| Nt <| We ?_ ?_
   ·exact ⟨V rfl, V rfl, V rfl, V rfl, V rfl, V rfl, V rfl, V rfl, V rfl, Vj, Vj, Vj, V rfl, V rfl, Z⟩
   ·exact ⟨⟨_, rfl, rfl⟩, ⟨_, rfl, ⟨rfl, rfl, (An rfl)⟩⟩, ⟨_, rfl, ⟨rfl, rfl, (An rfl)⟩⟩, ⟨_, rfl, rfl⟩, Z⟩
  ·intro e hdn he hdp
   have h9 : e 9 = false := fls he fun q => by obtain ⟨-, r8, -⟩ := (show e 2 = true ∧ e 8 = true ∧ True from hdn 9 q); obtain ⟨r7, -⟩ := (show e 7 = true ∧ True from hdn 8 r8); obtain ⟨r6, -⟩ := (show e 6 = true ∧ True from hdn 7 r7); obtain ⟨r5, -⟩ := (show e 5 = true ∧ True from hdn 6 r6); obtain ⟨r3, -, -⟩ := (show e 3 = true ∧ e 4 = true ∧ True from hdn 5 r5); exact r3
   have h12 : e 12 = false := fls he fun q => by obtain ⟨r11, -, -, -, -, -, -, -, -, -, -, -, -, -⟩ := (show e 11 = true ∧ e 9 = true ∧ e 9 = true ∧ e 0 = true ∧ e 1 = true ∧ e 2 = true ∧ e 3 = true ∧ e 4 = true ∧ e 5 = true ∧ e 6 = true ∧ e 7 = true ∧ e 8 = true ∧ e 9 = true ∧ True from hdn 12 q); obtain ⟨r10, -, -, -, -, -, -, -, -, -, -, -⟩ := (show e 10 = true ∧ e 0 = true ∧ e 1 = true ∧ e 2 = true ∧ e 3 = true ∧ e 4 = true ∧ e 5 = true ∧ e 6 = true ∧ e 7 = true ∧ e 8 = true ∧ e 9 = true ∧ True from hdn 11 r11); obtain ⟨-, -, -, -, -, -, -, -, -, -, -, r9, -⟩ := (show e 0 = true ∧ e 1 = true ∧ e 0 = true ∧ e 1 = true ∧ e 2 = true ∧ e 3 = true ∧ e 4 = true ∧ e 5 = true ∧ e 6 = true ∧ e 7 = true ∧ e 8 = true ∧ e 9 = true ∧ True from hdn 10 r10); obtain ⟨-, r8, -⟩ := (show e 2 = true ∧ e 8 = true ∧ True from hdn 9 r9); obtain ⟨r7, -⟩ := (show e 7 = true ∧ True from hdn 8 r8); obtain ⟨r6, -⟩ := (show e 6 = true ∧ True from hdn 7 r7); obtain ⟨r5, -⟩ := (show e 5 = true ∧ True from hdn 6 r6); obtain ⟨r3, -, -⟩ := (show e 3 = true ∧ e 4 = true ∧ True from hdn 5 r5); exact r3
   simp only [setE, he, h9, h12, cj_t, cj_f, cjn_t, cjn_f, cb_t, cb_f]
   exact U (Mv (V rfl)) <| Nt <| weakS ⟨V rfl, V rfl, V rfl, V rfl, V rfl, V rfl, V rfl, V rfl, V rfl, Vj, V rfl, V rfl, V rfl, V rfl, Z⟩
  ·intro e hdn he hdp
   have h9 : e 9 = false := fls he fun q => by obtain ⟨-, r8, -⟩ := (show e 2 = true ∧ e 8 = true ∧ True from hdn 9 q); obtain ⟨r7, -⟩ := (show e 7 = true ∧ True from hdn 8 r8); obtain ⟨r6, -⟩ := (show e 6 = true ∧ True from hdn 7 r7); obtain ⟨r5, -⟩ := (show e 5 = true ∧ True from hdn 6 r6); obtain ⟨-, r4, -⟩ := (show e 3 = true ∧ e 4 = true ∧ True from hdn 5 r5); exact r4
   have h12 : e 12 = false := fls he fun q => by obtain ⟨r11, -, -, -, -, -, -, -, -, -, -, -, -, -⟩ := (show e 11 = true ∧ e 9 = true ∧ e 9 = true ∧ e 0 = true ∧ e 1 = true ∧ e 2 = true ∧ e 3 = true ∧ e 4 = true ∧ e 5 = true ∧ e 6 = true ∧ e 7 = true ∧ e 8 = true ∧ e 9 = true ∧ True from hdn 12 q); obtain ⟨r10, -, -, -, -, -, -, -, -, -, -, -⟩ := (show e 10 = true ∧ e 0 = true ∧ e 1 = true ∧ e 2 = true ∧ e 3 = true ∧ e 4 = true ∧ e 5 = true ∧ e 6 = true ∧ e 7 = true ∧ e 8 = true ∧ e 9 = true ∧ True from hdn 11 r11); obtain ⟨-, -, -, -, -, -, -, -, -, -, -, r9, -⟩ := (show e 0 = true ∧ e 1 = true ∧ e 0 = true ∧ e 1 = true ∧ e 2 = true ∧ e 3 = true ∧ e 4 = true ∧ e 5 = true ∧ e 6 = true ∧ e 7 = true ∧ e 8 = true ∧ e 9 = true ∧ True from hdn 10 r10); obtain ⟨-, r8, -⟩ := (show e 2 = true ∧ e 8 = true ∧ True from hdn 9 r9); obtain ⟨r7, -⟩ := (show e 7 = true ∧ True from hdn 8 r8); obtain ⟨r6, -⟩ := (show e 6 = true ∧ True from hdn 7 r7); obtain ⟨r5, -⟩ := (show e 5 = true ∧ True from hdn 6 r6); obtain ⟨-, r4, -⟩ := (show e 3 = true ∧ e 4 = true ∧ True from hdn 5 r5); exact r4
   cases hu2 : e 2
   ·simp only [setE, he, h9, h12, hu2, cj_t, cj_f, cjn_t, cjn_f, cb_t, cb_f]
    refine U (LdB (V rfl) rfl Ga3 (by decide)) <| Nt <| We ?_ ?_
    ·exact ⟨V rfl, V rfl, Vj, V rfl, V rfl, V rfl, V rfl, V rfl, V rfl, Vj, V rfl, V rfl, V rfl, V rfl, Z⟩
    ·exact ⟨⟨_, rfl, rfl⟩, ⟨_, rfl, ⟨rfl, rfl, (An rfl)⟩⟩, ⟨_, rfl, ⟨rfl, rfl, (An rfl)⟩⟩, Z⟩
   ·simp only [setE, he, h9, h12, hu2, cj_t, cj_f, cjn_t, cjn_f, cb_t, cb_f]
    refine U (LdB (V rfl) rfl Ga3 (by decide)) <| Nt <| We ?_ ?_
    ·exact ⟨V rfl, V rfl, V rfl, V rfl, V rfl, V rfl, V rfl, V rfl, V rfl, Vj, V rfl, V rfl, V rfl, V rfl, Z⟩
    ·exact ⟨⟨_, rfl, rfl⟩, ⟨_, rfl, ⟨rfl, rfl, (An rfl)⟩⟩, ⟨_, rfl, ⟨rfl, rfl, (An rfl)⟩⟩, ⟨_, rfl, rfl⟩, Z⟩
  ·intro e hdn he hdp
   obtain ⟨h3, h4, -⟩ := (show e 3 = true ∧ e 4 = true ∧ True from hdp)
   have h9 : e 9 = false := fls he fun q => by obtain ⟨-, r8, -⟩ := (show e 2 = true ∧ e 8 = true ∧ True from hdn 9 q); obtain ⟨r7, -⟩ := (show e 7 = true ∧ True from hdn 8 r8); obtain ⟨r6, -⟩ := (show e 6 = true ∧ True from hdn 7 r7); obtain ⟨r5, -⟩ := (show e 5 = true ∧ True from hdn 6 r6); exact r5
   have h12 : e 12 = false := fls he fun q => by obtain ⟨r11, -, -, -, -, -, -, -, -, -, -, -, -, -⟩ := (show e 11 = true ∧ e 9 = true ∧ e 9 = true ∧ e 0 = true ∧ e 1 = true ∧ e 2 = true ∧ e 3 = true ∧ e 4 = true ∧ e 5 = true ∧ e 6 = true ∧ e 7 = true ∧ e 8 = true ∧ e 9 = true ∧ True from hdn 12 q); obtain ⟨r10, -, -, -, -, -, -, -, -, -, -, -⟩ := (show e 10 = true ∧ e 0 = true ∧ e 1 = true ∧ e 2 = true ∧ e 3 = true ∧ e 4 = true ∧ e 5 = true ∧ e 6 = true ∧ e 7 = true ∧ e 8 = true ∧ e 9 = true ∧ True from hdn 11 r11); obtain ⟨-, -, -, -, -, -, -, -, -, -, -, r9, -⟩ := (show e 0 = true ∧ e 1 = true ∧ e 0 = true ∧ e 1 = true ∧ e 2 = true ∧ e 3 = true ∧ e 4 = true ∧ e 5 = true ∧ e 6 = true ∧ e 7 = true ∧ e 8 = true ∧ e 9 = true ∧ True from hdn 10 r10); obtain ⟨-, r8, -⟩ := (show e 2 = true ∧ e 8 = true ∧ True from hdn 9 r9); obtain ⟨r7, -⟩ := (show e 7 = true ∧ True from hdn 8 r8); obtain ⟨r6, -⟩ := (show e 6 = true ∧ True from hdn 7 r7); obtain ⟨r5, -⟩ := (show e 5 = true ∧ True from hdn 6 r6); exact r5
   cases hu2 : e 2
   ·simp only [setE, h3, h4, he, h9, h12, hu2, cj_t, cj_f, cjn_t, cjn_f, cb_t, cb_f]
    refine U (IxO (V rfl) rfl (V rfl) ts60 te60 (by omega) (by first | omega | (simp only [List.length_set]; omega))) <| Nt <| We ?_ ?_
    ·exact ⟨V rfl, V rfl, Vj, V rfl, V rfl, V rfl, V rfl, V rfl, V rfl, Vj, V rfl, V rfl, V rfl, V rfl, Z⟩
    ·exact ⟨⟨_, rfl, rfl⟩, ⟨_, rfl, ⟨rfl, rfl, (An rfl)⟩⟩, ⟨_, rfl, ⟨rfl, rfl, (An rfl)⟩⟩, Z⟩
   ·simp only [setE, h3, h4, he, h9, h12, hu2, cj_t, cj_f, cjn_t, cjn_f, cb_t, cb_f]
    refine U (IxO (V rfl) rfl (V rfl) ts60 te60 (by omega) (by first | omega | (simp only [List.length_set]; omega))) <| Nt <| We ?_ ?_
    ·exact ⟨V rfl, V rfl, V rfl, V rfl, V rfl, V rfl, V rfl, V rfl, V rfl, Vj, V rfl, V rfl, V rfl, V rfl, Z⟩
    ·exact ⟨⟨_, rfl, rfl⟩, ⟨_, rfl, ⟨rfl, rfl, (An rfl)⟩⟩, ⟨_, rfl, ⟨rfl, rfl, (An rfl)⟩⟩, ⟨_, rfl, rfl⟩, Z⟩
  ·intro e hdn he hdp
   obtain ⟨h5, -⟩ := (show e 5 = true ∧ True from hdp)
   obtain ⟨h3, h4, -⟩ := (show e 3 = true ∧ e 4 = true ∧ True from hdn 5 h5)
   have h9 : e 9 = false := fls he fun q => by obtain ⟨-, r8, -⟩ := (show e 2 = true ∧ e 8 = true ∧ True from hdn 9 q); obtain ⟨r7, -⟩ := (show e 7 = true ∧ True from hdn 8 r8); obtain ⟨r6, -⟩ := (show e 6 = true ∧ True from hdn 7 r7); exact r6
   have h12 : e 12 = false := fls he fun q => by obtain ⟨r11, -, -, -, -, -, -, -, -, -, -, -, -, -⟩ := (show e 11 = true ∧ e 9 = true ∧ e 9 = true ∧ e 0 = true ∧ e 1 = true ∧ e 2 = true ∧ e 3 = true ∧ e 4 = true ∧ e 5 = true ∧ e 6 = true ∧ e 7 = true ∧ e 8 = true ∧ e 9 = true ∧ True from hdn 12 q); obtain ⟨r10, -, -, -, -, -, -, -, -, -, -, -⟩ := (show e 10 = true ∧ e 0 = true ∧ e 1 = true ∧ e 2 = true ∧ e 3 = true ∧ e 4 = true ∧ e 5 = true ∧ e 6 = true ∧ e 7 = true ∧ e 8 = true ∧ e 9 = true ∧ True from hdn 11 r11); obtain ⟨-, -, -, -, -, -, -, -, -, -, -, r9, -⟩ := (show e 0 = true ∧ e 1 = true ∧ e 0 = true ∧ e 1 = true ∧ e 2 = true ∧ e 3 = true ∧ e 4 = true ∧ e 5 = true ∧ e 6 = true ∧ e 7 = true ∧ e 8 = true ∧ e 9 = true ∧ True from hdn 10 r10); obtain ⟨-, r8, -⟩ := (show e 2 = true ∧ e 8 = true ∧ True from hdn 9 r9); obtain ⟨r7, -⟩ := (show e 7 = true ∧ True from hdn 8 r8); obtain ⟨r6, -⟩ := (show e 6 = true ∧ True from hdn 7 r7); exact r6
   simp only [setE, h3, h4, h5, he, h9, h12, cj_t, cj_f, cjn_t, cjn_f, cb_t, cb_f]
   exact U (FlO _ _ (V rfl) Un71 rfl 0 Sz59) <| Nt <| weakS ⟨V rfl, V rfl, V rfl, V rfl, V rfl, V rfl, V rfl, V rfl, V rfl, Vj, V rfl, V rfl, V rfl, V rfl, Z⟩
  ·intro e hdn he hdp
   obtain ⟨h6, -⟩ := (show e 6 = true ∧ True from hdp)
   obtain ⟨h5, -⟩ := (show e 5 = true ∧ True from hdn 6 h6)
   obtain ⟨h3, h4, -⟩ := (show e 3 = true ∧ e 4 = true ∧ True from hdn 5 h5)
   have h9 : e 9 = false := fls he fun q => by obtain ⟨-, r8, -⟩ := (show e 2 = true ∧ e 8 = true ∧ True from hdn 9 q); obtain ⟨r7, -⟩ := (show e 7 = true ∧ True from hdn 8 r8); exact r7
   have h12 : e 12 = false := fls he fun q => by obtain ⟨r11, -, -, -, -, -, -, -, -, -, -, -, -, -⟩ := (show e 11 = true ∧ e 9 = true ∧ e 9 = true ∧ e 0 = true ∧ e 1 = true ∧ e 2 = true ∧ e 3 = true ∧ e 4 = true ∧ e 5 = true ∧ e 6 = true ∧ e 7 = true ∧ e 8 = true ∧ e 9 = true ∧ True from hdn 12 q); obtain ⟨r10, -, -, -, -, -, -, -, -, -, -, -⟩ := (show e 10 = true ∧ e 0 = true ∧ e 1 = true ∧ e 2 = true ∧ e 3 = true ∧ e 4 = true ∧ e 5 = true ∧ e 6 = true ∧ e 7 = true ∧ e 8 = true ∧ e 9 = true ∧ True from hdn 11 r11); obtain ⟨-, -, -, -, -, -, -, -, -, -, -, r9, -⟩ := (show e 0 = true ∧ e 1 = true ∧ e 0 = true ∧ e 1 = true ∧ e 2 = true ∧ e 3 = true ∧ e 4 = true ∧ e 5 = true ∧ e 6 = true ∧ e 7 = true ∧ e 8 = true ∧ e 9 = true ∧ True from hdn 10 r10); obtain ⟨-, r8, -⟩ := (show e 2 = true ∧ e 8 = true ∧ True from hdn 9 r9); obtain ⟨r7, -⟩ := (show e 7 = true ∧ True from hdn 8 r8); exact r7
   cases hu2 : e 2
   ·simp only [setE, h3, h4, h5, h6, he, h9, h12, hu2, cj_t, cj_f, cjn_t, cjn_f, cb_t, cb_f]
    refine U (LdO (V rfl) rfl Ga59 (by decide)) <| Nt <| We ?_ ?_
    ·exact ⟨V rfl, V rfl, Vj, V rfl, V rfl, V rfl, V rfl, V rfl, V rfl, Vj, V rfl, V rfl, V rfl, V rfl, Z⟩
    ·exact ⟨⟨_, rfl, rfl⟩, ⟨_, rfl, ⟨rfl, rfl, (An rfl)⟩⟩, ⟨_, rfl, ⟨rfl, rfl, (An rfl)⟩⟩, Z⟩
   ·simp only [setE, h3, h4, h5, h6, he, h9, h12, hu2, cj_t, cj_f, cjn_t, cjn_f, cb_t, cb_f]
    refine U (LdO (V rfl) rfl Ga59 (by decide)) <| Nt <| We ?_ ?_
    ·exact ⟨V rfl, V rfl, V rfl, V rfl, V rfl, V rfl, V rfl, V rfl, V rfl, Vj, V rfl, V rfl, V rfl, V rfl, Z⟩
    ·exact ⟨⟨_, rfl, rfl⟩, ⟨_, rfl, ⟨rfl, rfl, (An rfl)⟩⟩, ⟨_, rfl, ⟨rfl, rfl, (An rfl)⟩⟩, ⟨_, rfl, rfl⟩, Z⟩
  ·intro e hdn he hdp
   obtain ⟨h7, -⟩ := (show e 7 = true ∧ True from hdp)
   obtain ⟨h6, -⟩ := (show e 6 = true ∧ True from hdn 7 h7)
   obtain ⟨h5, -⟩ := (show e 5 = true ∧ True from hdn 6 h6)
   obtain ⟨h3, h4, -⟩ := (show e 3 = true ∧ e 4 = true ∧ True from hdn 5 h5)
   have h9 : e 9 = false := fls he fun q => by obtain ⟨-, r8, -⟩ := (show e 2 = true ∧ e 8 = true ∧ True from hdn 9 q); exact r8
   have h12 : e 12 = false := fls he fun q => by obtain ⟨r11, -, -, -, -, -, -, -, -, -, -, -, -, -⟩ := (show e 11 = true ∧ e 9 = true ∧ e 9 = true ∧ e 0 = true ∧ e 1 = true ∧ e 2 = true ∧ e 3 = true ∧ e 4 = true ∧ e 5 = true ∧ e 6 = true ∧ e 7 = true ∧ e 8 = true ∧ e 9 = true ∧ True from hdn 12 q); obtain ⟨r10, -, -, -, -, -, -, -, -, -, -, -⟩ := (show e 10 = true ∧ e 0 = true ∧ e 1 = true ∧ e 2 = true ∧ e 3 = true ∧ e 4 = true ∧ e 5 = true ∧ e 6 = true ∧ e 7 = true ∧ e 8 = true ∧ e 9 = true ∧ True from hdn 11 r11); obtain ⟨-, -, -, -, -, -, -, -, -, -, -, r9, -⟩ := (show e 0 = true ∧ e 1 = true ∧ e 0 = true ∧ e 1 = true ∧ e 2 = true ∧ e 3 = true ∧ e 4 = true ∧ e 5 = true ∧ e 6 = true ∧ e 7 = true ∧ e 8 = true ∧ e 9 = true ∧ True from hdn 10 r10); obtain ⟨-, r8, -⟩ := (show e 2 = true ∧ e 8 = true ∧ True from hdn 9 r9); exact r8
   simp only [setE, h3, h4, h5, h6, h7, he, h9, h12, cj_t, cj_f, cjn_t, cjn_f, cb_t, cb_f]
   exact U (q_slLN (h := 1) ts59 te59 (V rfl) K (by omega)) <| Nt <| weakS ⟨V rfl, V rfl, V rfl, V rfl, V rfl, V rfl, V rfl, V rfl, V rfl, Vj, V rfl, V rfl, V rfl, V rfl, Z⟩
  ·intro e hdn he hdp
   obtain ⟨h2, h8, -⟩ := (show e 2 = true ∧ e 8 = true ∧ True from hdp)
   obtain ⟨h7, -⟩ := (show e 7 = true ∧ True from hdn 8 h8)
   obtain ⟨h6, -⟩ := (show e 6 = true ∧ True from hdn 7 h7)
   obtain ⟨h5, -⟩ := (show e 5 = true ∧ True from hdn 6 h6)
   obtain ⟨h3, h4, -⟩ := (show e 3 = true ∧ e 4 = true ∧ True from hdn 5 h5)
   have h10 : e 10 = false := fls he fun q => by obtain ⟨-, -, -, -, -, -, -, -, -, -, -, r9, -⟩ := (show e 0 = true ∧ e 1 = true ∧ e 0 = true ∧ e 1 = true ∧ e 2 = true ∧ e 3 = true ∧ e 4 = true ∧ e 5 = true ∧ e 6 = true ∧ e 7 = true ∧ e 8 = true ∧ e 9 = true ∧ True from hdn 10 q); exact r9
   have h11 : e 11 = false := fls he fun q => by obtain ⟨r10, -, -, -, -, -, -, -, -, -, -, -⟩ := (show e 10 = true ∧ e 0 = true ∧ e 1 = true ∧ e 2 = true ∧ e 3 = true ∧ e 4 = true ∧ e 5 = true ∧ e 6 = true ∧ e 7 = true ∧ e 8 = true ∧ e 9 = true ∧ True from hdn 11 q); obtain ⟨-, -, -, -, -, -, -, -, -, -, -, r9, -⟩ := (show e 0 = true ∧ e 1 = true ∧ e 0 = true ∧ e 1 = true ∧ e 2 = true ∧ e 3 = true ∧ e 4 = true ∧ e 5 = true ∧ e 6 = true ∧ e 7 = true ∧ e 8 = true ∧ e 9 = true ∧ True from hdn 10 r10); exact r9
   have h12 : e 12 = false := fls he fun q => by obtain ⟨r11, -, -, -, -, -, -, -, -, -, -, -, -, -⟩ := (show e 11 = true ∧ e 9 = true ∧ e 9 = true ∧ e 0 = true ∧ e 1 = true ∧ e 2 = true ∧ e 3 = true ∧ e 4 = true ∧ e 5 = true ∧ e 6 = true ∧ e 7 = true ∧ e 8 = true ∧ e 9 = true ∧ True from hdn 12 q); obtain ⟨r10, -, -, -, -, -, -, -, -, -, -, -⟩ := (show e 10 = true ∧ e 0 = true ∧ e 1 = true ∧ e 2 = true ∧ e 3 = true ∧ e 4 = true ∧ e 5 = true ∧ e 6 = true ∧ e 7 = true ∧ e 8 = true ∧ e 9 = true ∧ True from hdn 11 r11); obtain ⟨-, -, -, -, -, -, -, -, -, -, -, r9, -⟩ := (show e 0 = true ∧ e 1 = true ∧ e 0 = true ∧ e 1 = true ∧ e 2 = true ∧ e 3 = true ∧ e 4 = true ∧ e 5 = true ∧ e 6 = true ∧ e 7 = true ∧ e 8 = true ∧ e 9 = true ∧ True from hdn 10 r10); exact r9
   simp only [setE, h2, h3, h4, h5, h6, h7, h8, he, h10, h11, h12, cj_t, cj_f, cjn_t, cjn_f, cb_t, cb_f]
   refine Ap 2 (rowG grG ([]) (([]) ++ (((l.getD (Int.toNat k) default).came).drop 1))) eo59 (V rfl) rfl (V rfl) (fresh_mk ⟨(noId_cj rfl), (noId_cj rfl), rfl, rfl, rfl, rfl, rfl, rfl, rfl, rfl, rfl, rfl, rfl, rfl, Z⟩ rfl rfl) (len_app ([]) (((l.getD (Int.toNat k) default).came).drop 1)) (by first | (simp only [maxLen, List.length_append, List.length_set, List.length_nil, List.length_cons]; (simp only [List.length_drop, List.length_nil]; omega)) | (simp only [maxLen]; (simp only [List.length_drop, List.length_nil]; omega))) (by first | (simp only [List.length_append, List.length_set, List.length_nil, List.length_cons]; (simp only [List.length_drop, List.length_nil]; omega)) | ((simp only [List.length_drop, List.length_nil]; omega))) (app_typed (l := ([])) (m := (((l.getD (Int.toNat k) default).came).drop 1))) <| Nt <| We ?_ ?_
   ·exact ⟨val_kc rfl (V rfl), val_kc rfl (V rfl), Vj, V rfl, V rfl, V rfl, V rfl, V rfl, V rfl, V rfl, Vj, Vj, V rfl, V rfl, Z⟩
   ·exact ⟨⟨_, rfl, rfl⟩, ⟨_, rfl, ⟨rfl, rfl, (An rfl)⟩⟩, ⟨_, rfl, ⟨rfl, rfl, (An rfl)⟩⟩, ⟨_, rfl, rfl⟩, Z⟩
  ·intro e hdn he hdp
   obtain ⟨h0, h1, -, -, h2, h3, h4, h5, h6, h7, h8, h9, -⟩ := (show e 0 = true ∧ e 1 = true ∧ e 0 = true ∧ e 1 = true ∧ e 2 = true ∧ e 3 = true ∧ e 4 = true ∧ e 5 = true ∧ e 6 = true ∧ e 7 = true ∧ e 8 = true ∧ e 9 = true ∧ True from hdp)
   have h12 : e 12 = false := fls he fun q => by obtain ⟨r11, -, -, -, -, -, -, -, -, -, -, -, -, -⟩ := (show e 11 = true ∧ e 9 = true ∧ e 9 = true ∧ e 0 = true ∧ e 1 = true ∧ e 2 = true ∧ e 3 = true ∧ e 4 = true ∧ e 5 = true ∧ e 6 = true ∧ e 7 = true ∧ e 8 = true ∧ e 9 = true ∧ True from hdn 12 q); obtain ⟨r10, -, -, -, -, -, -, -, -, -, -, -⟩ := (show e 10 = true ∧ e 0 = true ∧ e 1 = true ∧ e 2 = true ∧ e 3 = true ∧ e 4 = true ∧ e 5 = true ∧ e 6 = true ∧ e 7 = true ∧ e 8 = true ∧ e 9 = true ∧ True from hdn 11 r11); exact r10
   simp only [setE, h0, h1, h2, h3, h4, h5, h6, h7, h8, h9, he, h12, cj_t, cj_f, cjn_t, cjn_f, cb_t, cb_f]
   refine U (IxO (V rfl) rfl (V rfl) ts60 te60 (by omega) (by first | omega | (simp only [List.length_set]; omega))) <| Nt <| We ?_ ?_
   ·exact ⟨V rfl, V rfl, Vj, V rfl, V rfl, V rfl, V rfl, V rfl, V rfl, V rfl, V rfl, V rfl, V rfl, V rfl, Z⟩
   ·exact ⟨⟨_, rfl, rfl⟩, ⟨_, rfl, ⟨rfl, rfl, (An rfl)⟩⟩, ⟨_, rfl, ⟨rfl, rfl, (An rfl)⟩⟩, ⟨_, rfl, rfl⟩, Z⟩
  ·intro e hdn he hdp
   obtain ⟨h10, h0, h1, h2, h3, h4, h5, h6, h7, h8, h9, -⟩ := (show e 10 = true ∧ e 0 = true ∧ e 1 = true ∧ e 2 = true ∧ e 3 = true ∧ e 4 = true ∧ e 5 = true ∧ e 6 = true ∧ e 7 = true ∧ e 8 = true ∧ e 9 = true ∧ True from hdp)
   have h12 : e 12 = false := fls he fun q => by obtain ⟨r11, -, -, -, -, -, -, -, -, -, -, -, -, -⟩ := (show e 11 = true ∧ e 9 = true ∧ e 9 = true ∧ e 0 = true ∧ e 1 = true ∧ e 2 = true ∧ e 3 = true ∧ e 4 = true ∧ e 5 = true ∧ e 6 = true ∧ e 7 = true ∧ e 8 = true ∧ e 9 = true ∧ True from hdn 12 q); exact r11
   simp only [setE, h0, h1, h2, h3, h4, h5, h6, h7, h8, h9, h10, he, h12, cj_t, cj_f, cjn_t, cjn_f, cb_t, cb_f]
   refine U (FlO _ _ (V rfl) Un71 rfl 0 Sz59) <| Nt <| We ?_ ?_
   ·exact ⟨V rfl, V rfl, Vj, V rfl, V rfl, V rfl, V rfl, V rfl, V rfl, V rfl, V rfl, V rfl, V rfl, V rfl, Z⟩
   ·exact ⟨⟨_, rfl, rfl⟩, ⟨_, rfl, ⟨rfl, rfl, (An rfl)⟩⟩, ⟨_, rfl, ⟨rfl, rfl, (An rfl)⟩⟩, ⟨_, rfl, rfl⟩, Z⟩
  ·intro e hdn he hdp
   obtain ⟨h11, h9, -, h0, h1, h2, h3, h4, h5, h6, h7, h8, -, -⟩ := (show e 11 = true ∧ e 9 = true ∧ e 9 = true ∧ e 0 = true ∧ e 1 = true ∧ e 2 = true ∧ e 3 = true ∧ e 4 = true ∧ e 5 = true ∧ e 6 = true ∧ e 7 = true ∧ e 8 = true ∧ e 9 = true ∧ True from hdp)
   obtain ⟨h10, -, -, -, -, -, -, -, -, -, -, -⟩ := (show e 10 = true ∧ e 0 = true ∧ e 1 = true ∧ e 2 = true ∧ e 3 = true ∧ e 4 = true ∧ e 5 = true ∧ e 6 = true ∧ e 7 = true ∧ e 8 = true ∧ e 9 = true ∧ True from hdn 11 h11)
   simp only [setE, h0, h1, h2, h3, h4, h5, h6, h7, h8, h9, h10, h11, he, cj_t, cj_f, cjn_t, cjn_f, cb_t, cb_f]
   refine FzT 2 rfl <| ?_
   have hidx0 : Int.toNat k < l.length := by first | omega | (simp; omega)
   refine StO (rowG ptCell default (l.set (Int.toNat k) ({ (l.getD (Int.toNat k) default) with came := ([]) ++ (((l.getD (Int.toNat k) default).came).drop 1) }))) (V rfl) rfl (V rfl) rfl rfl Sz59 (by decide) (show l.length = (l.set (Int.toNat k) ({ (l.getD (Int.toNat k) default) with came := ([]) ++ (((l.getD (Int.toNat k) default).came).drop 1) })).length from List.length_set.symm) (set_at hidx0 rfl) (set_typed hidx0 fun t ht hne => match t, ht, hne with | 0, _, _ => rfl | 1, _, _ => rfl | 2, _, _ => rfl | 3, _, hne => absurd rfl hne | 4, _, _ => rfl) <| Nt <| We ?_ ?_
   ·exact ⟨V rfl, V rfl, Vj, V rfl, V rfl, V rfl, V rfl, V rfl, V rfl, Vj, V rfl, V rfl, V rfl, V rfl, Z⟩
   ·exact ⟨⟨_, rfl, rfl⟩, ⟨_, rfl, ⟨rfl, rfl, (An rfl)⟩⟩, ⟨_, rfl, ⟨rfl, rfl, (An rfl)⟩⟩, Z⟩
  ·intro e he
   have h0 := he 0 (by decide)
   have h1 := he 1 (by decide)
   have h2 := he 2 (by decide)
   have h3 := he 3 (by decide)
   have h4 := he 4 (by decide)
   have h5 := he 5 (by decide)
   have h6 := he 6 (by decide)
   have h7 := he 7 (by decide)
   have h8 := he 8 (by decide)
   have h9 := he 9 (by decide)
   have h10 := he 10 (by decide)
   have h11 := he 11 (by decide)
   have h12 := he 12 (by decide)
   show Weak _ ⟨[(19, cj (e 0) (SV.own 1000)), (20, cj (e 1) (iv (k))), (21, cj (e 2) (cjn (e 9) (SV.own 1))), (22, cj (e 3) (SV.own 1000)), (23, cj (e 4) (iv (k))), (24, cj (e 5) (SV.oe 1000 5 (Int.toNat k) 0)), (25, cj (e 6) (SV.oe 1000 5 (Int.toNat k) 3)), (26, cj (e 7) (gsRow ((l.getD (Int.toNat k) default).came))), (27, cj (e 8) (gsRow (((l.getD (Int.toNat k) default).came).drop 1))), (28, cj (e 9) (cjn (e 12) (SV.own 2))), (29, cj (e 10) (SV.oe 1000 5 (Int.toNat k) 0)), (30, cj (e 11) (SV.oe 1000 5 (Int.toNat k) 3)), (0, SV.own 1000), (1, SV.bp 1002 0)], (cb (e 2) (cb (e 9) (cb (e 12) [(1000, ownOf ptCell 5 default (l.set (Int.toNat k) ({ (l.getD (Int.toNat k) default) with came := ([]) ++ (((l.getD (Int.toNat k) default).came).drop 1) })) 71), (1001, Own.box 1 (fun zi => (rowG grG ([]) ((l.getD (Int.toNat k) default).came)) 0 (0 + zi)) 35), (1002, Own.box 1 (fun _ => iv k) 3)] [(1000, ownOf ptCell 5 default l 71), (1001, Own.box 1 (fun zi => (rowG grG ([]) ((l.getD (Int.toNat k) default).came)) 0 (0 + zi)) 35), (1002, Own.box 1 (fun _ => iv k) 3), (2, ownOf grG 1 ([]) (([]) ++ (((l.getD (Int.toNat k) default).came).drop 1)) 35)]) (cb (e 12) [] [(1000, ownOf ptCell 5 default l 71), (1001, Own.box 1 (fun zi => (rowG grG ([]) ((l.getD (Int.toNat k) default).came)) 0 (0 + zi)) 35), (1002, Own.box 1 (fun _ => iv k) 3), (1, ownOf grG 1 ([]) ([]) 35)])) (cb (e 9) (cb (e 12) [] []) (cb (e 12) [] [(1000, ownOf ptCell 5 default l 71), (1001, Own.box 1 (fun zi => (rowG grG ([]) ((l.getD (Int.toNat k) default).came)) 0 (0 + zi)) 35), (1002, Own.box 1 (fun _ => iv k) 3)])))⟩ _
   simp only [h0, h1, h2, h3, h4, h5, h6, h7, h8, h9, h10, h11, h12]
   show Weak _ ⟨[(19, SV.own 1000), (20, iv (k)), (21, SV.junk), (22, SV.own 1000), (23, iv (k)), (24, SV.oe 1000 5 (Int.toNat k) 0), (25, SV.oe 1000 5 (Int.toNat k) 3), (26, gsRow ((l.getD (Int.toNat k) default).came)), (27, gsRow (((l.getD (Int.toNat k) default).came).drop 1)), (28, SV.junk), (29, SV.oe 1000 5 (Int.toNat k) 0), (30, SV.oe 1000 5 (Int.toNat k) 3), (0, SV.own 1000), (1, SV.bp 1002 0)], [(1000, ownOf ptCell 5 default (l.set (Int.toNat k) ({ (l.getD (Int.toNat k) default) with came := ([]) ++ (((l.getD (Int.toNat k) default).came).drop 1) })) 71), (1001, Own.box 1 (fun zi => (rowG grG ([]) ((l.getD (Int.toNat k) default).came)) 0 (0 + zi)) 35), (1002, Own.box 1 (fun _ => iv k) 3)]⟩ _
   refine We ?_ ?_
   ·exact ⟨V rfl, V rfl, V rfl, V rfl, V rfl, V rfl, V rfl, V rfl, V rfl, V rfl, V rfl, V rfl, Z⟩
   ·exact ⟨⟨_, rfl, rfl⟩, ⟨_, rfl, ⟨rfl, rfl, (An rfl)⟩⟩, ⟨_, rfl, ⟨rfl, rfl, (An rfl)⟩⟩, Z⟩
  exact Sq <| Rq <| O (As K) <| Nq <| c_ownE 1000 ((doPull l k x).1) rfl (by rw [doPull, if_neg hc1s]) <| Rx <| M1 rfl (V rfl) (by exact ⟨⟨_, rfl, rfl⟩, ⟨_, rfl, ⟨rfl, rfl, ⟨Z, by first | rfl | (show clRow _ = clRow (doPull l k x).2.1; rw [doPull, if_neg hc1s])⟩⟩⟩, ⟨_, rfl, ⟨rfl, rfl, ⟨Z, by first | rfl | (show clRow _ = clRow (doPull l k x).2.1; rw [doPull, if_neg hc1s])⟩⟩⟩, Z⟩) (by show iv (0) = iv ((doPull l k x).2.2); rw [doPull, if_neg hc1s])

/-- glasshouse/glasshouseref.changed -/
theorem chPass_ct (l : List Pt) (fr k o t : Int) (to th : Int) : Ct Try.prog 77 [ptRow l, iv (fr), iv (k), iv (o), iv (t), fnA 78 ([elB [iv (to)] 0, elB [iv (fr)] 0, elB [iv (th)] 0, elB [iv (k)] 0])] (sv2 (ptRow (changedR l fr k o t (doPass l fr to th (Int.toNat k))).1) (iv (changedR l fr k o t (doPass l fr to th (Int.toNat k))).2)) := by
 refine CtO 66 Try.func77 rfl rfl rfl fun E => Rl (V (s := 0) rfl) fun hl0 => Sq <| Rq <| O (As (Vn (k := 5) (get := rowG ptCell default []))) <| O (As K) <| Nq <| Sq <| Rq <| O (Mv (V rfl)) <| O (Mv (V rfl)) <| CQ en61 (by exact ⟨⟨(V rfl), rfl⟩, ⟨(V rfl), rfl⟩, Z⟩) (rpcheck_ct l fr) <| O (As (V rfl)) <| Nq <| Sq <| Bo <| Sq <| Rq <| O (Mv (V rfl)) <| O (Qn (V rfl) K) <| O (As (V rfl)) <| Nq <| Cd (V rfl) (fun hc1 => ?_) (fun hc1 => ?_)
 ·have hc1s := hc1; try simp only [BL] at hc1s
  refine Sk <| Sq <| Sq <| Rq <| O (Mv (V rfl)) <| O (Qn (V rfl) K) <| Nq <| Cd (V rfl) (fun hc2 => ?_) (fun hc2 => ?_)
  ·have hc2s := hc2; try simp only [BL] at hc2s
   exact Sq <| Rq <| O (Mv (V rfl)) <| O (As (Vn (k := 5) (get := rowG ptCell default []))) <| O (As (V rfl)) <| Nq <| Rx <| R2 rfl (V rfl) (V rfl) rfl rfl (by show sv2 (ptRow ([])) (iv (checkPo l fr)) = sv2 (ptRow (changedR l fr k o t (doPass l fr to th (Int.toNat k))).1) (iv (changedR l fr k o t (doPass l fr to th (Int.toNat k))).2); rw [ch_bad (own_err hc1s) hc1s])
  ·have hc2s := hc2; try simp only [BL] at hc2s
   exact absurd hc2s hc1s
   --done
 ·have hc1s := hc1; try simp only [BL] at hc1s
  have hc0 := hc1s
  have h12 := checkPo_len hc0
  refine Sq <| Rq <| O (Mv (V rfl)) <| O (Mv (V rfl)) <| O (Ln (V rfl) ts60) <| O (Sb (V rfl) K (by omega)) <| CQ en70 (by exact ⟨⟨(V rfl), rfl⟩, ⟨K, rfl⟩, ⟨(V rfl), rfl⟩, Z⟩) (in_ct k 0 (((l.length : Int)) - 1)) <| O (Qo (V rfl)) <| O (As (V rfl)) <| Nq <| Cd (V rfl) (fun hc3 => ?_) (fun hc3 => ?_)
  ·have hc3s := hc3; try simp only [BL] at hc3s
   refine Rq <| O (As K) <| Nq <| Sq <| Sq <| Rq <| O (Mv (V rfl)) <| O (Qn (V rfl) K) <| Nq <| Cd (V rfl) (fun hc4 => ?_) (fun hc4 => ?_)
   ·have hc4s := hc4; try simp only [BL] at hc4s
    exact Sq <| Rq <| O (Mv (V rfl)) <| O (As (Vn (k := 5) (get := rowG ptCell default []))) <| O (As (V rfl)) <| Nq <| Rx <| R2 rfl (V rfl) (V rfl) rfl rfl (by show sv2 (ptRow ([])) (iv (4)) = sv2 (ptRow (changedR l fr k o t (doPass l fr to th (Int.toNat k))).1) (iv (changedR l fr k o t (doPass l fr to th (Int.toNat k))).2); rw [ch_bad (own_4 hc1s hc3) (by decide)])
   ·exact absurd hc4 (by decide)
  ·have hc3s := hc3; try simp only [BL] at hc3s
   have hkb : 0 ≤ k ∧ k < (l.length : Int) := by rw [rown_k] at hc3; simp only [Bool.or_eq_false_iff, decide_eq_false_iff_not] at hc3; omega
   have hpp := po_parts hc0 (i := Int.toNat k) (by omega)
   have hmb := hpp.2.1
   have hqq := po_parts hc0 (i := Int.toNat (l.getD (Int.toNat k) default).mate) (by omega)
   refine Sq <| Rq <| O (Mv (V rfl)) <| O (Mv (V rfl)) <| O (Ix (V rfl) (V rfl) ts60 te60 (by omega) (by omega)) <| O (Fl _ _ (V rfl) Un71 rfl 0 Sz3) <| O (Ld (V rfl) Ga3 (by decide)) <| O (Mv (V rfl)) <| O (Qn (V rfl) (V rfl)) <| O (Mv (V rfl)) <| Og (Gn rfl rfl) (fun hg => Mv (V rfl)) <| Og (Gn rfl rfl) (fun hg => Mv (V rfl)) <| Og (Gn rfl rfl) (fun hg => Ix (Vg (V rfl) hg) (Vg (V rfl) hg) ts60 te60 (by omega) (by omega)) <| Og (Gn rfl rfl) (fun hg => Fl _ _ (Vg (V rfl) hg) Un71 rfl 0 Sz3) <| Og (Gn rfl rfl) (fun hg => Ld (Vg (V rfl) hg) Ga3 (by decide)) <| Og (Gn rfl rfl) (fun hg => Mv (V rfl)) <| Og (Gn rfl rfl) (fun hg => Qn (Vg (V rfl) hg) (Vg (V rfl) hg)) <| O (Qr (V rfl) (fun h => Vg (V rfl) (notT h))) <| O (As (V rfl)) <| Nq <| Cd (V rfl) (fun hc5 => ?_) (fun hc5 => ?_)
   ·have hc5s := hc5; try simp only [BL] at hc5s
    refine Rq <| O (As K) <| Nq <| Sq <| Sq <| Rq <| O (Mv (V rfl)) <| O (Qn (V rfl) K) <| Nq <| Cd (V rfl) (fun hc6 => ?_) (fun hc6 => ?_)
    ·have hc6s := hc6; try simp only [BL] at hc6s
     exact Sq <| Rq <| O (Mv (V rfl)) <| O (As (Vn (k := 5) (get := rowG ptCell default []))) <| O (As (V rfl)) <| Nq <| Rx <| R2 rfl (V rfl) (V rfl) rfl rfl (by show sv2 (ptRow ([])) (iv (7)) = sv2 (ptRow (changedR l fr k o t (doPass l fr to th (Int.toNat k))).1) (iv (changedR l fr k o t (doPass l fr to th (Int.toNat k))).2); rw [ch_bad (own_7 hc1s hc3 hc5) (by decide)])
    ·exact absurd hc6 (by decide)
   ·have hc5s := hc5; try simp only [BL] at hc5s
    refine Sq <| Rq <| O (Mv (V rfl)) <| O (Mv (V rfl)) <| O (Ix (V rfl) (V rfl) ts60 te60 (by omega) (by omega)) <| O (Fl _ _ (V rfl) Un71 rfl 0 Sz4) <| O (Ld (V rfl) Ga4 (by decide)) <| O (As (V rfl)) <| Nq <| Cd (V rfl) (fun hc7 => ?_) (fun hc7 => ?_)
    ·have hc7s := hc7; try simp only [BL] at hc7s
     refine Rq <| O (As K) <| Nq <| Sq <| Sq <| Rq <| O (Mv (V rfl)) <| O (Qn (V rfl) K) <| Nq <| Cd (V rfl) (fun hc8 => ?_) (fun hc8 => ?_)
     ·have hc8s := hc8; try simp only [BL] at hc8s
      exact Sq <| Rq <| O (Mv (V rfl)) <| O (As (Vn (k := 5) (get := rowG ptCell default []))) <| O (As (V rfl)) <| Nq <| Rx <| R2 rfl (V rfl) (V rfl) rfl rfl (by show sv2 (ptRow ([])) (iv (5)) = sv2 (ptRow (changedR l fr k o t (doPass l fr to th (Int.toNat k))).1) (iv (changedR l fr k o t (doPass l fr to th (Int.toNat k))).2); rw [ch_bad (own_5 hc1s hc3 hc5 hc7) (by decide)])
     ·exact absurd hc8 (by decide)
    ·have hc7s := hc7; try simp only [BL] at hc7s
     refine Sk <| Sq <| Sq <| Rq <| O (Mv (V rfl)) <| O (Qn (V rfl) K) <| Nq <| Cd (V rfl) (fun hc9 => ?_) (fun hc9 => ?_)
     ·have hc9s := hc9; try simp only [BL] at hc9s
      exact absurd hc1s hc9s
      --done
     ·have hc9s := hc9; try simp only [BL] at hc9s
      refine Sk <| Sq <| Rt <| t_bs0 1 (rowG ptCell default []) Un60 Sz71 rfl <| U (Mv (V rfl)) <| Ap 2 (rowG ptCell default (([]) ++ l)) eo60 (V rfl) rfl (V rfl) rfl (len_app ([]) l) (by first | (simp only [maxLen, List.length_append, List.length_set, List.length_nil, List.length_cons]; omega) | (simp only [maxLen]; omega)) (by first | (simp only [List.length_append, List.length_set, List.length_nil, List.length_cons]; omega) | (omega)) (app_typed (l := ([])) (m := l)) <| U (As (V rfl)) <| Nt <| Sq <| Sq <| Rt <| U (Mv (V rfl)) <| U (Mv (V rfl)) <| CMv (cargs := [SV.own 1000]) (caps := [elB [iv (to)] 0, elB [iv (fr)] 0, elB [iv (th)] 0, elB [iv (k)] 0]) [(1000, 2)] [] (fnval_A (V rfl)) en78 (by exact ⟨(V rfl), Z⟩) (doPass_ct l fr to th k (by omega)) (by exact ⟨⟨_, rfl, rfl⟩, Z⟩) rfl rfl rfl rfl <| U (As (V rfl)) <| Nt <| Sq <| Rq <| O (Mv (V rfl)) <| O (Qn (V rfl) K) <| Nq <| Cd (V rfl) (fun hc10 => ?_) (fun hc10 => ?_)
      ·have hc10s := hc10; try simp only [BL] at hc10s
       exact Sq <| Rq <| O (Mv (V rfl)) <| O (As (Vn (k := 5) (get := rowG ptCell default []))) <| O (As (V rfl)) <| Nq <| Rx <| R2 rfl (V rfl) (V rfl) rfl rfl (by show sv2 (ptRow ([])) (iv ((doPass l fr to th (Int.toNat k)).2)) = sv2 (ptRow (changedR l fr k o t (doPass l fr to th (Int.toNat k))).1) (iv (changedR l fr k o t (doPass l fr to th (Int.toNat k))).2); rw [ch_err (own_0 hc1s hc3 hc5 hc7) hc10s])
      ·have hc10s := hc10; try simp only [BL] at hc10s
       exact Sk <| Sq <| Rq <| O (Mv (V rfl)) <| O (As (V rfl)) <| O (As K) <| Nq <| FzC 2 rfl <| Rx <| R2 rfl (V rfl) (V rfl) rfl rfl (by show sv2 (ptRow ((doPass l fr to th (Int.toNat k)).1)) (iv (0)) = sv2 (ptRow (changedR l fr k o t (doPass l fr to th (Int.toNat k))).1) (iv (changedR l fr k o t (doPass l fr to th (Int.toNat k))).2); rw [ch_ok (own_0 hc1s hc3 hc5 hc7) hc10s])

/-- glasshouse/glasshouseref.changed -/
theorem chPush_ct (l : List Pt) (fr k o t : Int) (g : List Cl) : Ct Try.prog 77 [ptRow l, iv (fr), iv (k), iv (o), iv (t), fnA 79 ([elB [clRow g] 0, elB [iv (k)] 0])] (sv2 (ptRow (changedR l fr k o t (doPush l k g)).1) (iv (changedR l fr k o t (doPush l k g)).2)) := by
 refine CtO 66 Try.func77 rfl rfl rfl fun E => Rl (V (s := 0) rfl) fun hl0 => Sq <| Rq <| O (As (Vn (k := 5) (get := rowG ptCell default []))) <| O (As K) <| Nq <| Sq <| Rq <| O (Mv (V rfl)) <| O (Mv (V rfl)) <| CQ en61 (by exact ⟨⟨(V rfl), rfl⟩, ⟨(V rfl), rfl⟩, Z⟩) (rpcheck_ct l fr) <| O (As (V rfl)) <| Nq <| Sq <| Bo <| Sq <| Rq <| O (Mv (V rfl)) <| O (Qn (V rfl) K) <| O (As (V rfl)) <| Nq <| Cd (V rfl) (fun hc1 => ?_) (fun hc1 => ?_)
 ·have hc1s := hc1; try simp only [BL] at hc1s
  refine Sk <| Sq <| Sq <| Rq <| O (Mv (V rfl)) <| O (Qn (V rfl) K) <| Nq <| Cd (V rfl) (fun hc2 => ?_) (fun hc2 => ?_)
  ·have hc2s := hc2; try simp only [BL] at hc2s
   exact Sq <| Rq <| O (Mv (V rfl)) <| O (As (Vn (k := 5) (get := rowG ptCell default []))) <| O (As (V rfl)) <| Nq <| Rx <| R2 rfl (V rfl) (V rfl) rfl rfl (by show sv2 (ptRow ([])) (iv (checkPo l fr)) = sv2 (ptRow (changedR l fr k o t (doPush l k g)).1) (iv (changedR l fr k o t (doPush l k g)).2); rw [ch_bad (own_err hc1s) hc1s])
  ·have hc2s := hc2; try simp only [BL] at hc2s
   exact absurd hc2s hc1s
   --done
 ·have hc1s := hc1; try simp only [BL] at hc1s
  have hc0 := hc1s
  have h12 := checkPo_len hc0
  refine Sq <| Rq <| O (Mv (V rfl)) <| O (Mv (V rfl)) <| O (Ln (V rfl) ts60) <| O (Sb (V rfl) K (by omega)) <| CQ en70 (by exact ⟨⟨(V rfl), rfl⟩, ⟨K, rfl⟩, ⟨(V rfl), rfl⟩, Z⟩) (in_ct k 0 (((l.length : Int)) - 1)) <| O (Qo (V rfl)) <| O (As (V rfl)) <| Nq <| Cd (V rfl) (fun hc3 => ?_) (fun hc3 => ?_)
  ·have hc3s := hc3; try simp only [BL] at hc3s
   refine Rq <| O (As K) <| Nq <| Sq <| Sq <| Rq <| O (Mv (V rfl)) <| O (Qn (V rfl) K) <| Nq <| Cd (V rfl) (fun hc4 => ?_) (fun hc4 => ?_)
   ·have hc4s := hc4; try simp only [BL] at hc4s
    exact Sq <| Rq <| O (Mv (V rfl)) <| O (As (Vn (k := 5) (get := rowG ptCell default []))) <| O (As (V rfl)) <| Nq <| Rx <| R2 rfl (V rfl) (V rfl) rfl rfl (by show sv2 (ptRow ([])) (iv (4)) = sv2 (ptRow (changedR l fr k o t (doPush l k g)).1) (iv (changedR l fr k o t (doPush l k g)).2); rw [ch_bad (own_4 hc1s hc3) (by decide)])
   ·exact absurd hc4 (by decide)
  ·have hc3s := hc3; try simp only [BL] at hc3s
   have hkb : 0 ≤ k ∧ k < (l.length : Int) := by rw [rown_k] at hc3; simp only [Bool.or_eq_false_iff, decide_eq_false_iff_not] at hc3; omega
   have hpp := po_parts hc0 (i := Int.toNat k) (by omega)
   have hmb := hpp.2.1
   have hqq := po_parts hc0 (i := Int.toNat (l.getD (Int.toNat k) default).mate) (by omega)
   refine Sq <| Rq <| O (Mv (V rfl)) <| O (Mv (V rfl)) <| O (Ix (V rfl) (V rfl) ts60 te60 (by omega) (by omega)) <| O (Fl _ _ (V rfl) Un71 rfl 0 Sz3) <| O (Ld (V rfl) Ga3 (by decide)) <| O (Mv (V rfl)) <| O (Qn (V rfl) (V rfl)) <| O (Mv (V rfl)) <| Og (Gn rfl rfl) (fun hg => Mv (V rfl)) <| Og (Gn rfl rfl) (fun hg => Mv (V rfl)) <| Og (Gn rfl rfl) (fun hg => Ix (Vg (V rfl) hg) (Vg (V rfl) hg) ts60 te60 (by omega) (by omega)) <| Og (Gn rfl rfl) (fun hg => Fl _ _ (Vg (V rfl) hg) Un71 rfl 0 Sz3) <| Og (Gn rfl rfl) (fun hg => Ld (Vg (V rfl) hg) Ga3 (by decide)) <| Og (Gn rfl rfl) (fun hg => Mv (V rfl)) <| Og (Gn rfl rfl) (fun hg => Qn (Vg (V rfl) hg) (Vg (V rfl) hg)) <| O (Qr (V rfl) (fun h => Vg (V rfl) (notT h))) <| O (As (V rfl)) <| Nq <| Cd (V rfl) (fun hc5 => ?_) (fun hc5 => ?_)
   ·have hc5s := hc5; try simp only [BL] at hc5s
    refine Rq <| O (As K) <| Nq <| Sq <| Sq <| Rq <| O (Mv (V rfl)) <| O (Qn (V rfl) K) <| Nq <| Cd (V rfl) (fun hc6 => ?_) (fun hc6 => ?_)
    ·have hc6s := hc6; try simp only [BL] at hc6s
     exact Sq <| Rq <| O (Mv (V rfl)) <| O (As (Vn (k := 5) (get := rowG ptCell default []))) <| O (As (V rfl)) <| Nq <| Rx <| R2 rfl (V rfl) (V rfl) rfl rfl (by show sv2 (ptRow ([])) (iv (7)) = sv2 (ptRow (changedR l fr k o t (doPush l k g)).1) (iv (changedR l fr k o t (doPush l k g)).2); rw [ch_bad (own_7 hc1s hc3 hc5) (by decide)])
    ·exact absurd hc6 (by decide)
   ·have hc5s := hc5; try simp only [BL] at hc5s
    refine Sq <| Rq <| O (Mv (V rfl)) <| O (Mv (V rfl)) <| O (Ix (V rfl) (V rfl) ts60 te60 (by omega) (by omega)) <| O (Fl _ _ (V rfl) Un71 rfl 0 Sz4) <| O (Ld (V rfl) Ga4 (by decide)) <| O (As (V rfl)) <| Nq <| Cd (V rfl) (fun hc7 => ?_) (fun hc7 => ?_)
    ·have hc7s := hc7; try simp only [BL] at hc7s
     refine Rq <| O (As K) <| Nq <| Sq <| Sq <| Rq <| O (Mv (V rfl)) <| O (Qn (V rfl) K) <| Nq <| Cd (V rfl) (fun hc8 => ?_) (fun hc8 => ?_)
     ·have hc8s := hc8; try simp only [BL] at hc8s
      exact Sq <| Rq <| O (Mv (V rfl)) <| O (As (Vn (k := 5) (get := rowG ptCell default []))) <| O (As (V rfl)) <| Nq <| Rx <| R2 rfl (V rfl) (V rfl) rfl rfl (by show sv2 (ptRow ([])) (iv (5)) = sv2 (ptRow (changedR l fr k o t (doPush l k g)).1) (iv (changedR l fr k o t (doPush l k g)).2); rw [ch_bad (own_5 hc1s hc3 hc5 hc7) (by decide)])
     ·exact absurd hc8 (by decide)
    ·have hc7s := hc7; try simp only [BL] at hc7s
     refine Sk <| Sq <| Sq <| Rq <| O (Mv (V rfl)) <| O (Qn (V rfl) K) <| Nq <| Cd (V rfl) (fun hc9 => ?_) (fun hc9 => ?_)
     ·have hc9s := hc9; try simp only [BL] at hc9s
      exact absurd hc1s hc9s
      --done
     ·have hc9s := hc9; try simp only [BL] at hc9s
      refine Sk <| Sq <| Rt <| t_bs0 1 (rowG ptCell default []) Un60 Sz71 rfl <| U (Mv (V rfl)) <| Ap 2 (rowG ptCell default (([]) ++ l)) eo60 (V rfl) rfl (V rfl) rfl (len_app ([]) l) (by first | (simp only [maxLen, List.length_append, List.length_set, List.length_nil, List.length_cons]; omega) | (simp only [maxLen]; omega)) (by first | (simp only [List.length_append, List.length_set, List.length_nil, List.length_cons]; omega) | (omega)) (app_typed (l := ([])) (m := l)) <| U (As (V rfl)) <| Nt <| Sq <| Sq <| Rt <| U (Mv (V rfl)) <| U (Mv (V rfl)) <| CMv (cargs := [SV.own 1000]) (caps := [elB [clRow g] 0, elB [iv (k)] 0]) [(1000, 2)] [] (fnval_A (V rfl)) en79 (by exact ⟨(V rfl), Z⟩) (doPush_ct l g k (by omega) hmb hqq.2.2.2.2.2.1) (by exact ⟨⟨_, rfl, rfl⟩, Z⟩) rfl rfl rfl rfl <| U (As (V rfl)) <| Nt <| Sq <| Rq <| O (Mv (V rfl)) <| O (Qn (V rfl) K) <| Nq <| Cd (V rfl) (fun hc10 => ?_) (fun hc10 => ?_)
      ·have hc10s := hc10; try simp only [BL] at hc10s
       exact Sq <| Rq <| O (Mv (V rfl)) <| O (As (Vn (k := 5) (get := rowG ptCell default []))) <| O (As (V rfl)) <| Nq <| Rx <| R2 rfl (V rfl) (V rfl) rfl rfl (by show sv2 (ptRow ([])) (iv ((doPush l k g).2)) = sv2 (ptRow (changedR l fr k o t (doPush l k g)).1) (iv (changedR l fr k o t (doPush l k g)).2); rw [ch_err (own_0 hc1s hc3 hc5 hc7) hc10s])
      ·have hc10s := hc10; try simp only [BL] at hc10s
       exact Sk <| Sq <| Rq <| O (Mv (V rfl)) <| O (As (V rfl)) <| O (As K) <| Nq <| FzC 2 rfl <| Rx <| R2 rfl (V rfl) (V rfl) rfl rfl (by show sv2 (ptRow ((doPush l k g).1)) (iv (0)) = sv2 (ptRow (changedR l fr k o t (doPush l k g)).1) (iv (changedR l fr k o t (doPush l k g)).2); rw [ch_ok (own_0 hc1s hc3 hc5 hc7) hc10s])

/-- glasshouse/glasshouseref.changed -/
theorem chShut_ct (l : List Pt) (fr k o t : Int)  : Ct Try.prog 77 [ptRow l, iv (fr), iv (k), iv (o), iv (t), fnA 81 ([elB [iv (k)] 0])] (sv2 (ptRow (changedR l fr k o t ((shutL l (Int.toNat k), (0 : Int)))).1) (iv (changedR l fr k o t ((shutL l (Int.toNat k), (0 : Int)))).2)) := by
 refine CtO 66 Try.func77 rfl rfl rfl fun E => Rl (V (s := 0) rfl) fun hl0 => Sq <| Rq <| O (As (Vn (k := 5) (get := rowG ptCell default []))) <| O (As K) <| Nq <| Sq <| Rq <| O (Mv (V rfl)) <| O (Mv (V rfl)) <| CQ en61 (by exact ⟨⟨(V rfl), rfl⟩, ⟨(V rfl), rfl⟩, Z⟩) (rpcheck_ct l fr) <| O (As (V rfl)) <| Nq <| Sq <| Bo <| Sq <| Rq <| O (Mv (V rfl)) <| O (Qn (V rfl) K) <| O (As (V rfl)) <| Nq <| Cd (V rfl) (fun hc1 => ?_) (fun hc1 => ?_)
 ·have hc1s := hc1; try simp only [BL] at hc1s
  refine Sk <| Sq <| Sq <| Rq <| O (Mv (V rfl)) <| O (Qn (V rfl) K) <| Nq <| Cd (V rfl) (fun hc2 => ?_) (fun hc2 => ?_)
  ·have hc2s := hc2; try simp only [BL] at hc2s
   exact Sq <| Rq <| O (Mv (V rfl)) <| O (As (Vn (k := 5) (get := rowG ptCell default []))) <| O (As (V rfl)) <| Nq <| Rx <| R2 rfl (V rfl) (V rfl) rfl rfl (by show sv2 (ptRow ([])) (iv (checkPo l fr)) = sv2 (ptRow (changedR l fr k o t ((shutL l (Int.toNat k), (0 : Int)))).1) (iv (changedR l fr k o t ((shutL l (Int.toNat k), (0 : Int)))).2); rw [ch_bad (own_err hc1s) hc1s])
  ·have hc2s := hc2; try simp only [BL] at hc2s
   exact absurd hc2s hc1s
   --done
 ·have hc1s := hc1; try simp only [BL] at hc1s
  have hc0 := hc1s
  have h12 := checkPo_len hc0
  refine Sq <| Rq <| O (Mv (V rfl)) <| O (Mv (V rfl)) <| O (Ln (V rfl) ts60) <| O (Sb (V rfl) K (by omega)) <| CQ en70 (by exact ⟨⟨(V rfl), rfl⟩, ⟨K, rfl⟩, ⟨(V rfl), rfl⟩, Z⟩) (in_ct k 0 (((l.length : Int)) - 1)) <| O (Qo (V rfl)) <| O (As (V rfl)) <| Nq <| Cd (V rfl) (fun hc3 => ?_) (fun hc3 => ?_)
  ·have hc3s := hc3; try simp only [BL] at hc3s
   refine Rq <| O (As K) <| Nq <| Sq <| Sq <| Rq <| O (Mv (V rfl)) <| O (Qn (V rfl) K) <| Nq <| Cd (V rfl) (fun hc4 => ?_) (fun hc4 => ?_)
   ·have hc4s := hc4; try simp only [BL] at hc4s
    exact Sq <| Rq <| O (Mv (V rfl)) <| O (As (Vn (k := 5) (get := rowG ptCell default []))) <| O (As (V rfl)) <| Nq <| Rx <| R2 rfl (V rfl) (V rfl) rfl rfl (by show sv2 (ptRow ([])) (iv (4)) = sv2 (ptRow (changedR l fr k o t ((shutL l (Int.toNat k), (0 : Int)))).1) (iv (changedR l fr k o t ((shutL l (Int.toNat k), (0 : Int)))).2); rw [ch_bad (own_4 hc1s hc3) (by decide)])
   ·exact absurd hc4 (by decide)
  ·have hc3s := hc3; try simp only [BL] at hc3s
   have hkb : 0 ≤ k ∧ k < (l.length : Int) := by rw [rown_k] at hc3; simp only [Bool.or_eq_false_iff, decide_eq_false_iff_not] at hc3; omega
   have hpp := po_parts hc0 (i := Int.toNat k) (by omega)
   have hmb := hpp.2.1
   have hqq := po_parts hc0 (i := Int.toNat (l.getD (Int.toNat k) default).mate) (by omega)
   refine Sq <| Rq <| O (Mv (V rfl)) <| O (Mv (V rfl)) <| O (Ix (V rfl) (V rfl) ts60 te60 (by omega) (by omega)) <| O (Fl _ _ (V rfl) Un71 rfl 0 Sz3) <| O (Ld (V rfl) Ga3 (by decide)) <| O (Mv (V rfl)) <| O (Qn (V rfl) (V rfl)) <| O (Mv (V rfl)) <| Og (Gn rfl rfl) (fun hg => Mv (V rfl)) <| Og (Gn rfl rfl) (fun hg => Mv (V rfl)) <| Og (Gn rfl rfl) (fun hg => Ix (Vg (V rfl) hg) (Vg (V rfl) hg) ts60 te60 (by omega) (by omega)) <| Og (Gn rfl rfl) (fun hg => Fl _ _ (Vg (V rfl) hg) Un71 rfl 0 Sz3) <| Og (Gn rfl rfl) (fun hg => Ld (Vg (V rfl) hg) Ga3 (by decide)) <| Og (Gn rfl rfl) (fun hg => Mv (V rfl)) <| Og (Gn rfl rfl) (fun hg => Qn (Vg (V rfl) hg) (Vg (V rfl) hg)) <| O (Qr (V rfl) (fun h => Vg (V rfl) (notT h))) <| O (As (V rfl)) <| Nq <| Cd (V rfl) (fun hc5 => ?_) (fun hc5 => ?_)
   ·have hc5s := hc5; try simp only [BL] at hc5s
    refine Rq <| O (As K) <| Nq <| Sq <| Sq <| Rq <| O (Mv (V rfl)) <| O (Qn (V rfl) K) <| Nq <| Cd (V rfl) (fun hc6 => ?_) (fun hc6 => ?_)
    ·have hc6s := hc6; try simp only [BL] at hc6s
     exact Sq <| Rq <| O (Mv (V rfl)) <| O (As (Vn (k := 5) (get := rowG ptCell default []))) <| O (As (V rfl)) <| Nq <| Rx <| R2 rfl (V rfl) (V rfl) rfl rfl (by show sv2 (ptRow ([])) (iv (7)) = sv2 (ptRow (changedR l fr k o t ((shutL l (Int.toNat k), (0 : Int)))).1) (iv (changedR l fr k o t ((shutL l (Int.toNat k), (0 : Int)))).2); rw [ch_bad (own_7 hc1s hc3 hc5) (by decide)])
    ·exact absurd hc6 (by decide)
   ·have hc5s := hc5; try simp only [BL] at hc5s
    refine Sq <| Rq <| O (Mv (V rfl)) <| O (Mv (V rfl)) <| O (Ix (V rfl) (V rfl) ts60 te60 (by omega) (by omega)) <| O (Fl _ _ (V rfl) Un71 rfl 0 Sz4) <| O (Ld (V rfl) Ga4 (by decide)) <| O (As (V rfl)) <| Nq <| Cd (V rfl) (fun hc7 => ?_) (fun hc7 => ?_)
    ·have hc7s := hc7; try simp only [BL] at hc7s
     refine Rq <| O (As K) <| Nq <| Sq <| Sq <| Rq <| O (Mv (V rfl)) <| O (Qn (V rfl) K) <| Nq <| Cd (V rfl) (fun hc8 => ?_) (fun hc8 => ?_)
     ·have hc8s := hc8; try simp only [BL] at hc8s
      exact Sq <| Rq <| O (Mv (V rfl)) <| O (As (Vn (k := 5) (get := rowG ptCell default []))) <| O (As (V rfl)) <| Nq <| Rx <| R2 rfl (V rfl) (V rfl) rfl rfl (by show sv2 (ptRow ([])) (iv (5)) = sv2 (ptRow (changedR l fr k o t ((shutL l (Int.toNat k), (0 : Int)))).1) (iv (changedR l fr k o t ((shutL l (Int.toNat k), (0 : Int)))).2); rw [ch_bad (own_5 hc1s hc3 hc5 hc7) (by decide)])
     ·exact absurd hc8 (by decide)
    ·have hc7s := hc7; try simp only [BL] at hc7s
     refine Sk <| Sq <| Sq <| Rq <| O (Mv (V rfl)) <| O (Qn (V rfl) K) <| Nq <| Cd (V rfl) (fun hc9 => ?_) (fun hc9 => ?_)
     ·have hc9s := hc9; try simp only [BL] at hc9s
      exact absurd hc1s hc9s
      --done
     ·have hc9s := hc9; try simp only [BL] at hc9s
      refine Sk <| Sq <| Rt <| t_bs0 1 (rowG ptCell default []) Un60 Sz71 rfl <| U (Mv (V rfl)) <| Ap 2 (rowG ptCell default (([]) ++ l)) eo60 (V rfl) rfl (V rfl) rfl (len_app ([]) l) (by first | (simp only [maxLen, List.length_append, List.length_set, List.length_nil, List.length_cons]; omega) | (simp only [maxLen]; omega)) (by first | (simp only [List.length_append, List.length_set, List.length_nil, List.length_cons]; omega) | (omega)) (app_typed (l := ([])) (m := l)) <| U (As (V rfl)) <| Nt <| Sq <| Sq <| Rt <| U (Mv (V rfl)) <| U (Mv (V rfl)) <| CMv (cargs := [SV.own 1000]) (caps := [elB [iv (k)] 0]) [(1000, 2)] [] (fnval_A (V rfl)) en81 (by exact ⟨(V rfl), Z⟩) (doShut_ct l k (by omega)) (by exact ⟨⟨_, rfl, rfl⟩, Z⟩) rfl rfl rfl rfl <| U (As (V rfl)) <| Nt <| Sq <| Rq <| O (Mv (V rfl)) <| O (Qn (V rfl) K) <| Nq <| Cd (V rfl) (fun hc10 => ?_) (fun hc10 => ?_)
      ·have hc10s := hc10; try simp only [BL] at hc10s
       exact (hc10s Z).elim
       --done
      ·have hc10s := hc10; try simp only [BL] at hc10s
       exact Sk <| Sq <| Rq <| O (Mv (V rfl)) <| O (As (V rfl)) <| O (As K) <| Nq <| FzC 2 rfl <| Rx <| R2 rfl (V rfl) (V rfl) rfl rfl (by show sv2 (ptRow (((shutL l (Int.toNat k), (0 : Int))).1)) (iv (0)) = sv2 (ptRow (changedR l fr k o t ((shutL l (Int.toNat k), (0 : Int)))).1) (iv (changedR l fr k o t ((shutL l (Int.toNat k), (0 : Int)))).2); rw [ch_ok (own_0 hc1s hc3 hc5 hc7) rfl])

end Go.Proofs.Ytghkpailmdlhgaa
