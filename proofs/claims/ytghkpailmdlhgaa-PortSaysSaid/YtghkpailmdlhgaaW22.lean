import Derived.Test.YtghkpailmdlhgaaW21
set_option linter.unusedVariables false
set_option linter.unusedSimpArgs false
namespace Go.Proofs.Ytghkpailmdlhgaa
open Go.RowKit Go.Eng
/-- glasshouse/glasshouseref.PortPassed$1 -/
theorem doPass_ct (l : List Pt) (fr to th k : Int) (hk : 0 ≤ k ∧ k < (l.length : Int)) : CtM Try.prog 78 [SV.own 1000, elB [iv (to)] 0, elB [iv (fr)] 0, elB [iv (th)] 0, elB [iv (k)] 0] [(1000, ownOf ptCell 5 default l 71)] (iv ((doPass l fr to th (Int.toNat k)).2)) [(1000, ownOf ptCell 5 default ((doPass l fr to th (Int.toNat k)).1) 71)] := by
 refine CmO 24 Try.func78 rfl rfl rfl fun E => Sq <| Rq <| O (As K) <| Nq <| Sq <| Sq <| Rq <| O (Ld (V rfl) Ga3 (by show 0 < 1; decide)) <| O (Ld (V rfl) Ga3 (by show 0 < 1; decide)) <| CQ en76 (by exact ⟨⟨(V rfl), rfl⟩, ⟨(V rfl), rfl⟩, Z⟩) (below_ct to fr) <| O (Qo (V rfl)) <| Nq <| Cd (V rfl) (fun hc1 => ?_) (fun hc1 => ?_)
 ·have hc1s := hc1; try simp only [BL] at hc1s
  exact Sq <| Rq <| O (As K) <| Nq <| c_ownE 1000 ((doPass l fr to th (Int.toNat k)).1) rfl (by rw [doPass, if_pos hc1]) <| Rx <| M1 rfl (V rfl) (by exact ⟨⟨_, rfl, rfl⟩, Z⟩) (by show iv (4) = iv ((doPass l fr to th (Int.toNat k)).2); rw [doPass, if_pos hc1])
 ·have hc1s := hc1; try simp only [BL] at hc1s
  refine Sk <| Sq <| Sq <| Rq <| O (Ld (V rfl) Ga3 (by show 0 < 1; decide)) <| CQ en70 (by exact ⟨⟨(V rfl), rfl⟩, ⟨K, rfl⟩, ⟨K, rfl⟩, Z⟩) (in_ct th 0 1000) <| O (Qo (V rfl)) <| Nq <| Cd (V rfl) (fun hc2 => ?_) (fun hc2 => ?_)
  ·have hc2s := hc2; try simp only [BL] at hc2s
   exact Sq <| Rq <| O (As K) <| Nq <| c_ownE 1000 ((doPass l fr to th (Int.toNat k)).1) rfl (by rw [doPass, if_neg (ff hc1), if_pos hc2]) <| Rx <| M1 rfl (V rfl) (by exact ⟨⟨_, rfl, rfl⟩, Z⟩) (by show iv (2) = iv ((doPass l fr to th (Int.toNat k)).2); rw [doPass, if_neg (ff hc1), if_pos hc2])
  ·have hc2s := hc2; try simp only [BL] at hc2s
   refine Sk <| Sq <| c_rd (fun e => ⟨[(14, cj (e 0) (SV.own 1000)), (15, cj (e 1) (iv (k))), (16, cj (e 2) (SV.own 1000)), (17, cj (e 3) (iv (k))), (18, cj (e 4) (iv (to))), (19, cj (e 5) (iv (th))), (20, cj (e 6) (SV.oe 1000 5 (Int.toNat k) 0)), (21, cj (e 7) (SV.oe 1000 5 (Int.toNat k) 0)), (22, cj (e 9) (SV.oe 1000 5 (Int.toNat k) 0)), (23, cj (e 10) (SV.oe 1000 5 (Int.toNat k) 1)), (0, SV.own 1000), (1, elB [iv (to)] 0), (3, elB [iv (th)] 0), (4, elB [iv (k)] 0)], (cb (e 8) (cb (e 11) [(1000, ownOf ptCell 5 default ((l.set (Int.toNat k) ({ (l.getD (Int.toNat k) default) with owner := to })).set (Int.toNat k) ({ ((l.set (Int.toNat k) ({ (l.getD (Int.toNat k) default) with owner := to })).getD (Int.toNat k) default) with turn := th })) 71)] [(1000, ownOf ptCell 5 default (l.set (Int.toNat k) ({ (l.getD (Int.toNat k) default) with owner := to })) 71)]) (cb (e 11) [] [(1000, ownOf ptCell 5 default l 71)]))⟩) ⟨[(14, SV.own 1000), (15, iv (k)), (16, SV.own 1000), (17, iv (k)), (18, iv (to)), (19, iv (th)), (20, SV.oe 1000 5 (Int.toNat k) 0), (21, SV.oe 1000 5 (Int.toNat k) 0), (22, SV.oe 1000 5 (Int.toNat k) 0), (23, SV.oe 1000 5 (Int.toNat k) 1), (0, SV.own 1000), (1, elB [iv (to)] 0), (3, elB [iv (th)] 0), (4, elB [iv (k)] 0)], [(1000, ownOf ptCell 5 default ((l.set (Int.toNat k) ({ (l.getD (Int.toNat k) default) with owner := to })).set (Int.toNat k) ({ ((l.set (Int.toNat k) ({ (l.getD (Int.toNat k) default) with owner := to })).getD (Int.toNat k) default) with turn := th })) 71)]⟩ (by kernel_rfl) (by kernel_rfl) ?_ ⟨?_, ?_, ?_, ?_, ?_, ?_, ?_, ?_, ?_, ?_, ?_, ?_, Z⟩ ?_ ?_
   ·show Weak _ _ ⟨[(14, SV.junk), (15, SV.junk), (16, SV.junk), (17, SV.junk), (18, SV.junk), (19, SV.junk), (20, SV.junk), (21, SV.junk), (22, SV.junk), (23, SV.junk), (0, SV.own 1000), (1, elB [iv (to)] 0), (3, elB [iv (th)] 0), (4, elB [iv (k)] 0)], [(1000, ownOf ptCell 5 default l 71)]⟩
    refine We ?_ ?_
    ·exact ⟨Vj, Vj, Vj, Vj, Vj, Vj, Vj, Vj, Vj, Vj, V rfl, V rfl, V rfl, V rfl, Z⟩
    ·exact ⟨⟨_, rfl, rfl⟩, Z⟩
   ·intro e hdn he hdp
    have h8 : e 8 = false := fls he fun q => by obtain ⟨r7, -, -, -, -, -⟩ := (show e 7 = true ∧ e 4 = true ∧ e 0 = true ∧ e 1 = true ∧ e 4 = true ∧ True from hdn 8 q); obtain ⟨r6, -, -, -, -⟩ := (show e 6 = true ∧ e 0 = true ∧ e 1 = true ∧ e 4 = true ∧ True from hdn 7 r7); obtain ⟨r0, -, -, -, -, -⟩ := (show e 0 = true ∧ e 1 = true ∧ e 0 = true ∧ e 1 = true ∧ e 4 = true ∧ True from hdn 6 r6); exact r0
    have h11 : e 11 = false := fls he fun q => by obtain ⟨r10, -, -, -, -, -, -, -, -, -, -, -, -⟩ := (show e 10 = true ∧ e 5 = true ∧ e 8 = true ∧ e 0 = true ∧ e 1 = true ∧ e 2 = true ∧ e 3 = true ∧ e 4 = true ∧ e 5 = true ∧ e 6 = true ∧ e 7 = true ∧ e 8 = true ∧ True from hdn 11 q); obtain ⟨r9, -, -, -, -, -, -, -, -, -, -⟩ := (show e 9 = true ∧ e 0 = true ∧ e 1 = true ∧ e 2 = true ∧ e 3 = true ∧ e 4 = true ∧ e 5 = true ∧ e 6 = true ∧ e 7 = true ∧ e 8 = true ∧ True from hdn 10 r10); obtain ⟨-, -, -, -, -, -, -, -, -, -, r8, -⟩ := (show e 2 = true ∧ e 3 = true ∧ e 0 = true ∧ e 1 = true ∧ e 2 = true ∧ e 3 = true ∧ e 4 = true ∧ e 5 = true ∧ e 6 = true ∧ e 7 = true ∧ e 8 = true ∧ True from hdn 9 r9); obtain ⟨r7, -, -, -, -, -⟩ := (show e 7 = true ∧ e 4 = true ∧ e 0 = true ∧ e 1 = true ∧ e 4 = true ∧ True from hdn 8 r8); obtain ⟨r6, -, -, -, -⟩ := (show e 6 = true ∧ e 0 = true ∧ e 1 = true ∧ e 4 = true ∧ True from hdn 7 r7); obtain ⟨r0, -, -, -, -, -⟩ := (show e 0 = true ∧ e 1 = true ∧ e 0 = true ∧ e 1 = true ∧ e 4 = true ∧ True from hdn 6 r6); exact r0
    simp only [setE, he, h8, h11, cj_t, cj_f, cjn_t, cjn_f, cb_t, cb_f]
    refine U (Mv (V rfl)) <| Nt <| We ?_ ?_
    ·exact ⟨V rfl, V rfl, V rfl, V rfl, V rfl, V rfl, V rfl, V rfl, V rfl, V rfl, V rfl, V rfl, V rfl, V rfl, Z⟩
    ·exact ⟨⟨_, rfl, rfl⟩, Z⟩
   ·intro e hdn he hdp
    have h8 : e 8 = false := fls he fun q => by obtain ⟨r7, -, -, -, -, -⟩ := (show e 7 = true ∧ e 4 = true ∧ e 0 = true ∧ e 1 = true ∧ e 4 = true ∧ True from hdn 8 q); obtain ⟨r6, -, -, -, -⟩ := (show e 6 = true ∧ e 0 = true ∧ e 1 = true ∧ e 4 = true ∧ True from hdn 7 r7); obtain ⟨-, r1, -, -, -, -⟩ := (show e 0 = true ∧ e 1 = true ∧ e 0 = true ∧ e 1 = true ∧ e 4 = true ∧ True from hdn 6 r6); exact r1
    have h11 : e 11 = false := fls he fun q => by obtain ⟨r10, -, -, -, -, -, -, -, -, -, -, -, -⟩ := (show e 10 = true ∧ e 5 = true ∧ e 8 = true ∧ e 0 = true ∧ e 1 = true ∧ e 2 = true ∧ e 3 = true ∧ e 4 = true ∧ e 5 = true ∧ e 6 = true ∧ e 7 = true ∧ e 8 = true ∧ True from hdn 11 q); obtain ⟨r9, -, -, -, -, -, -, -, -, -, -⟩ := (show e 9 = true ∧ e 0 = true ∧ e 1 = true ∧ e 2 = true ∧ e 3 = true ∧ e 4 = true ∧ e 5 = true ∧ e 6 = true ∧ e 7 = true ∧ e 8 = true ∧ True from hdn 10 r10); obtain ⟨-, -, -, -, -, -, -, -, -, -, r8, -⟩ := (show e 2 = true ∧ e 3 = true ∧ e 0 = true ∧ e 1 = true ∧ e 2 = true ∧ e 3 = true ∧ e 4 = true ∧ e 5 = true ∧ e 6 = true ∧ e 7 = true ∧ e 8 = true ∧ True from hdn 9 r9); obtain ⟨r7, -, -, -, -, -⟩ := (show e 7 = true ∧ e 4 = true ∧ e 0 = true ∧ e 1 = true ∧ e 4 = true ∧ True from hdn 8 r8); obtain ⟨r6, -, -, -, -⟩ := (show e 6 = true ∧ e 0 = true ∧ e 1 = true ∧ e 4 = true ∧ True from hdn 7 r7); obtain ⟨-, r1, -, -, -, -⟩ := (show e 0 = true ∧ e 1 = true ∧ e 0 = true ∧ e 1 = true ∧ e 4 = true ∧ True from hdn 6 r6); exact r1
    simp only [setE, he, h8, h11, cj_t, cj_f, cjn_t, cjn_f, cb_t, cb_f]
    refine U (Ld (V rfl) Ga3 (by show 0 < 1; decide)) <| Nt <| We ?_ ?_
    ·exact ⟨V rfl, V rfl, V rfl, V rfl, V rfl, V rfl, V rfl, V rfl, V rfl, V rfl, V rfl, V rfl, V rfl, V rfl, Z⟩
    ·exact ⟨⟨_, rfl, rfl⟩, Z⟩
   ·intro e hdn he hdp
    have h11 : e 11 = false := fls he fun q => by obtain ⟨r10, -, -, -, -, -, -, -, -, -, -, -, -⟩ := (show e 10 = true ∧ e 5 = true ∧ e 8 = true ∧ e 0 = true ∧ e 1 = true ∧ e 2 = true ∧ e 3 = true ∧ e 4 = true ∧ e 5 = true ∧ e 6 = true ∧ e 7 = true ∧ e 8 = true ∧ True from hdn 11 q); obtain ⟨r9, -, -, -, -, -, -, -, -, -, -⟩ := (show e 9 = true ∧ e 0 = true ∧ e 1 = true ∧ e 2 = true ∧ e 3 = true ∧ e 4 = true ∧ e 5 = true ∧ e 6 = true ∧ e 7 = true ∧ e 8 = true ∧ True from hdn 10 r10); obtain ⟨r2, -, -, -, -, -, -, -, -, -, -, -⟩ := (show e 2 = true ∧ e 3 = true ∧ e 0 = true ∧ e 1 = true ∧ e 2 = true ∧ e 3 = true ∧ e 4 = true ∧ e 5 = true ∧ e 6 = true ∧ e 7 = true ∧ e 8 = true ∧ True from hdn 9 r9); exact r2
    simp only [setE, he, h11, cj_t, cj_f, cjn_t, cjn_f, cb_t, cb_f]
    exact U (Mv (V rfl)) <| Nt <| weakS ⟨V rfl, V rfl, V rfl, V rfl, V rfl, V rfl, V rfl, V rfl, V rfl, V rfl, V rfl, V rfl, V rfl, V rfl, Z⟩
   ·intro e hdn he hdp
    have h11 : e 11 = false := fls he fun q => by obtain ⟨r10, -, -, -, -, -, -, -, -, -, -, -, -⟩ := (show e 10 = true ∧ e 5 = true ∧ e 8 = true ∧ e 0 = true ∧ e 1 = true ∧ e 2 = true ∧ e 3 = true ∧ e 4 = true ∧ e 5 = true ∧ e 6 = true ∧ e 7 = true ∧ e 8 = true ∧ True from hdn 11 q); obtain ⟨r9, -, -, -, -, -, -, -, -, -, -⟩ := (show e 9 = true ∧ e 0 = true ∧ e 1 = true ∧ e 2 = true ∧ e 3 = true ∧ e 4 = true ∧ e 5 = true ∧ e 6 = true ∧ e 7 = true ∧ e 8 = true ∧ True from hdn 10 r10); obtain ⟨-, r3, -, -, -, -, -, -, -, -, -, -⟩ := (show e 2 = true ∧ e 3 = true ∧ e 0 = true ∧ e 1 = true ∧ e 2 = true ∧ e 3 = true ∧ e 4 = true ∧ e 5 = true ∧ e 6 = true ∧ e 7 = true ∧ e 8 = true ∧ True from hdn 9 r9); exact r3
    simp only [setE, he, h11, cj_t, cj_f, cjn_t, cjn_f, cb_t, cb_f]
    exact U (Ld (V rfl) Ga3 (by show 0 < 1; decide)) <| Nt <| weakS ⟨V rfl, V rfl, V rfl, V rfl, V rfl, V rfl, V rfl, V rfl, V rfl, V rfl, V rfl, V rfl, V rfl, V rfl, Z⟩
   ·intro e hdn he hdp
    have h8 : e 8 = false := fls he fun q => by obtain ⟨r7, -, -, -, -, -⟩ := (show e 7 = true ∧ e 4 = true ∧ e 0 = true ∧ e 1 = true ∧ e 4 = true ∧ True from hdn 8 q); obtain ⟨r6, -, -, -, -⟩ := (show e 6 = true ∧ e 0 = true ∧ e 1 = true ∧ e 4 = true ∧ True from hdn 7 r7); obtain ⟨-, -, -, -, r4, -⟩ := (show e 0 = true ∧ e 1 = true ∧ e 0 = true ∧ e 1 = true ∧ e 4 = true ∧ True from hdn 6 r6); exact r4
    have h11 : e 11 = false := fls he fun q => by obtain ⟨r10, -, -, -, -, -, -, -, -, -, -, -, -⟩ := (show e 10 = true ∧ e 5 = true ∧ e 8 = true ∧ e 0 = true ∧ e 1 = true ∧ e 2 = true ∧ e 3 = true ∧ e 4 = true ∧ e 5 = true ∧ e 6 = true ∧ e 7 = true ∧ e 8 = true ∧ True from hdn 11 q); obtain ⟨r9, -, -, -, -, -, -, -, -, -, -⟩ := (show e 9 = true ∧ e 0 = true ∧ e 1 = true ∧ e 2 = true ∧ e 3 = true ∧ e 4 = true ∧ e 5 = true ∧ e 6 = true ∧ e 7 = true ∧ e 8 = true ∧ True from hdn 10 r10); obtain ⟨-, -, -, -, -, -, -, -, -, -, r8, -⟩ := (show e 2 = true ∧ e 3 = true ∧ e 0 = true ∧ e 1 = true ∧ e 2 = true ∧ e 3 = true ∧ e 4 = true ∧ e 5 = true ∧ e 6 = true ∧ e 7 = true ∧ e 8 = true ∧ True from hdn 9 r9); obtain ⟨r7, -, -, -, -, -⟩ := (show e 7 = true ∧ e 4 = true ∧ e 0 = true ∧ e 1 = true ∧ e 4 = true ∧ True from hdn 8 r8); obtain ⟨r6, -, -, -, -⟩ := (show e 6 = true ∧ e 0 = true ∧ e 1 = true ∧ e 4 = true ∧ True from hdn 7 r7); obtain ⟨-, -, -, -, r4, -⟩ := (show e 0 = true ∧ e 1 = true ∧ e 0 = true ∧ e 1 = true ∧ e 4 = true ∧ True from hdn 6 r6); exact r4
    simp only [setE, he, h8, h11, cj_t, cj_f, cjn_t, cjn_f, cb_t, cb_f]
    refine U (Ld (V rfl) Ga3 (by show 0 < 1; decide)) <| Nt <| We ?_ ?_
    ·exact ⟨V rfl, V rfl, V rfl, V rfl, V rfl, V rfl, V rfl, V rfl, V rfl, V rfl, V rfl, V rfl, V rfl, V rfl, Z⟩
    ·exact ⟨⟨_, rfl, rfl⟩, Z⟩
   ·intro e hdn he hdp
    have h11 : e 11 = false := fls he fun q => by obtain ⟨r10, -, -, -, -, -, -, -, -, -, -, -, -⟩ := (show e 10 = true ∧ e 5 = true ∧ e 8 = true ∧ e 0 = true ∧ e 1 = true ∧ e 2 = true ∧ e 3 = true ∧ e 4 = true ∧ e 5 = true ∧ e 6 = true ∧ e 7 = true ∧ e 8 = true ∧ True from hdn 11 q); obtain ⟨r9, -, -, -, -, -, -, -, -, -, -⟩ := (show e 9 = true ∧ e 0 = true ∧ e 1 = true ∧ e 2 = true ∧ e 3 = true ∧ e 4 = true ∧ e 5 = true ∧ e 6 = true ∧ e 7 = true ∧ e 8 = true ∧ True from hdn 10 r10); obtain ⟨-, -, -, -, -, -, -, r5, -, -, -, -⟩ := (show e 2 = true ∧ e 3 = true ∧ e 0 = true ∧ e 1 = true ∧ e 2 = true ∧ e 3 = true ∧ e 4 = true ∧ e 5 = true ∧ e 6 = true ∧ e 7 = true ∧ e 8 = true ∧ True from hdn 9 r9); exact r5
    simp only [setE, he, h11, cj_t, cj_f, cjn_t, cjn_f, cb_t, cb_f]
    exact U (Ld (V rfl) Ga3 (by show 0 < 1; decide)) <| Nt <| weakS ⟨V rfl, V rfl, V rfl, V rfl, V rfl, V rfl, V rfl, V rfl, V rfl, V rfl, V rfl, V rfl, V rfl, V rfl, Z⟩
   ·intro e hdn he hdp
    obtain ⟨h0, h1, -, -, h4, -⟩ := (show e 0 = true ∧ e 1 = true ∧ e 0 = true ∧ e 1 = true ∧ e 4 = true ∧ True from hdp)
    have h8 : e 8 = false := fls he fun q => by obtain ⟨r7, -, -, -, -, -⟩ := (show e 7 = true ∧ e 4 = true ∧ e 0 = true ∧ e 1 = true ∧ e 4 = true ∧ True from hdn 8 q); obtain ⟨r6, -, -, -, -⟩ := (show e 6 = true ∧ e 0 = true ∧ e 1 = true ∧ e 4 = true ∧ True from hdn 7 r7); exact r6
    have h11 : e 11 = false := fls he fun q => by obtain ⟨r10, -, -, -, -, -, -, -, -, -, -, -, -⟩ := (show e 10 = true ∧ e 5 = true ∧ e 8 = true ∧ e 0 = true ∧ e 1 = true ∧ e 2 = true ∧ e 3 = true ∧ e 4 = true ∧ e 5 = true ∧ e 6 = true ∧ e 7 = true ∧ e 8 = true ∧ True from hdn 11 q); obtain ⟨r9, -, -, -, -, -, -, -, -, -, -⟩ := (show e 9 = true ∧ e 0 = true ∧ e 1 = true ∧ e 2 = true ∧ e 3 = true ∧ e 4 = true ∧ e 5 = true ∧ e 6 = true ∧ e 7 = true ∧ e 8 = true ∧ True from hdn 10 r10); obtain ⟨-, -, -, -, -, -, -, -, -, -, r8, -⟩ := (show e 2 = true ∧ e 3 = true ∧ e 0 = true ∧ e 1 = true ∧ e 2 = true ∧ e 3 = true ∧ e 4 = true ∧ e 5 = true ∧ e 6 = true ∧ e 7 = true ∧ e 8 = true ∧ True from hdn 9 r9); obtain ⟨r7, -, -, -, -, -⟩ := (show e 7 = true ∧ e 4 = true ∧ e 0 = true ∧ e 1 = true ∧ e 4 = true ∧ True from hdn 8 r8); obtain ⟨r6, -, -, -, -⟩ := (show e 6 = true ∧ e 0 = true ∧ e 1 = true ∧ e 4 = true ∧ True from hdn 7 r7); exact r6
    simp only [setE, h0, h1, h4, he, h8, h11, cj_t, cj_f, cjn_t, cjn_f, cb_t, cb_f]
    refine U (IxO (V rfl) rfl (V rfl) ts60 te60 (by omega) (by first | omega | (simp only [List.length_set]; omega))) <| Nt <| We ?_ ?_
    ·exact ⟨V rfl, V rfl, V rfl, V rfl, V rfl, V rfl, V rfl, V rfl, V rfl, V rfl, V rfl, V rfl, V rfl, V rfl, Z⟩
    ·exact ⟨⟨_, rfl, rfl⟩, Z⟩
   ·intro e hdn he hdp
    obtain ⟨h6, h0, h1, h4, -⟩ := (show e 6 = true ∧ e 0 = true ∧ e 1 = true ∧ e 4 = true ∧ True from hdp)
    have h8 : e 8 = false := fls he fun q => by obtain ⟨r7, -, -, -, -, -⟩ := (show e 7 = true ∧ e 4 = true ∧ e 0 = true ∧ e 1 = true ∧ e 4 = true ∧ True from hdn 8 q); exact r7
    have h11 : e 11 = false := fls he fun q => by obtain ⟨r10, -, -, -, -, -, -, -, -, -, -, -, -⟩ := (show e 10 = true ∧ e 5 = true ∧ e 8 = true ∧ e 0 = true ∧ e 1 = true ∧ e 2 = true ∧ e 3 = true ∧ e 4 = true ∧ e 5 = true ∧ e 6 = true ∧ e 7 = true ∧ e 8 = true ∧ True from hdn 11 q); obtain ⟨r9, -, -, -, -, -, -, -, -, -, -⟩ := (show e 9 = true ∧ e 0 = true ∧ e 1 = true ∧ e 2 = true ∧ e 3 = true ∧ e 4 = true ∧ e 5 = true ∧ e 6 = true ∧ e 7 = true ∧ e 8 = true ∧ True from hdn 10 r10); obtain ⟨-, -, -, -, -, -, -, -, -, -, r8, -⟩ := (show e 2 = true ∧ e 3 = true ∧ e 0 = true ∧ e 1 = true ∧ e 2 = true ∧ e 3 = true ∧ e 4 = true ∧ e 5 = true ∧ e 6 = true ∧ e 7 = true ∧ e 8 = true ∧ True from hdn 9 r9); obtain ⟨r7, -, -, -, -, -⟩ := (show e 7 = true ∧ e 4 = true ∧ e 0 = true ∧ e 1 = true ∧ e 4 = true ∧ True from hdn 8 r8); exact r7
    simp only [setE, h0, h1, h4, h6, he, h8, h11, cj_t, cj_f, cjn_t, cjn_f, cb_t, cb_f]
    refine U (FlO _ _ (V rfl) Un71 rfl 0 Sz3) <| Nt <| We ?_ ?_
    ·exact ⟨V rfl, V rfl, V rfl, V rfl, V rfl, V rfl, V rfl, V rfl, V rfl, V rfl, V rfl, V rfl, V rfl, V rfl, Z⟩
    ·exact ⟨⟨_, rfl, rfl⟩, Z⟩
   ·intro e hdn he hdp
    obtain ⟨h7, h4, h0, h1, -, -⟩ := (show e 7 = true ∧ e 4 = true ∧ e 0 = true ∧ e 1 = true ∧ e 4 = true ∧ True from hdp)
    obtain ⟨h6, -, -, -, -⟩ := (show e 6 = true ∧ e 0 = true ∧ e 1 = true ∧ e 4 = true ∧ True from hdn 7 h7)
    have h9 : e 9 = false := fls he fun q => by obtain ⟨-, -, -, -, -, -, -, -, -, -, r8, -⟩ := (show e 2 = true ∧ e 3 = true ∧ e 0 = true ∧ e 1 = true ∧ e 2 = true ∧ e 3 = true ∧ e 4 = true ∧ e 5 = true ∧ e 6 = true ∧ e 7 = true ∧ e 8 = true ∧ True from hdn 9 q); exact r8
    have h10 : e 10 = false := fls he fun q => by obtain ⟨r9, -, -, -, -, -, -, -, -, -, -⟩ := (show e 9 = true ∧ e 0 = true ∧ e 1 = true ∧ e 2 = true ∧ e 3 = true ∧ e 4 = true ∧ e 5 = true ∧ e 6 = true ∧ e 7 = true ∧ e 8 = true ∧ True from hdn 10 q); obtain ⟨-, -, -, -, -, -, -, -, -, -, r8, -⟩ := (show e 2 = true ∧ e 3 = true ∧ e 0 = true ∧ e 1 = true ∧ e 2 = true ∧ e 3 = true ∧ e 4 = true ∧ e 5 = true ∧ e 6 = true ∧ e 7 = true ∧ e 8 = true ∧ True from hdn 9 r9); exact r8
    have h11 : e 11 = false := fls he fun q => by obtain ⟨r10, -, -, -, -, -, -, -, -, -, -, -, -⟩ := (show e 10 = true ∧ e 5 = true ∧ e 8 = true ∧ e 0 = true ∧ e 1 = true ∧ e 2 = true ∧ e 3 = true ∧ e 4 = true ∧ e 5 = true ∧ e 6 = true ∧ e 7 = true ∧ e 8 = true ∧ True from hdn 11 q); obtain ⟨r9, -, -, -, -, -, -, -, -, -, -⟩ := (show e 9 = true ∧ e 0 = true ∧ e 1 = true ∧ e 2 = true ∧ e 3 = true ∧ e 4 = true ∧ e 5 = true ∧ e 6 = true ∧ e 7 = true ∧ e 8 = true ∧ True from hdn 10 r10); obtain ⟨-, -, -, -, -, -, -, -, -, -, r8, -⟩ := (show e 2 = true ∧ e 3 = true ∧ e 0 = true ∧ e 1 = true ∧ e 2 = true ∧ e 3 = true ∧ e 4 = true ∧ e 5 = true ∧ e 6 = true ∧ e 7 = true ∧ e 8 = true ∧ True from hdn 9 r9); exact r8
    simp only [setE, h0, h1, h4, h6, h7, he, h9, h10, h11, cj_t, cj_f, cjn_t, cjn_f, cb_t, cb_f]
    have hidx0 : Int.toNat k < l.length := by first | omega | (simp; omega)
    refine StO (rowG ptCell default (l.set (Int.toNat k) ({ (l.getD (Int.toNat k) default) with owner := to }))) (V rfl) rfl (V rfl) rfl rfl Sz3 (by decide) (show l.length = (l.set (Int.toNat k) ({ (l.getD (Int.toNat k) default) with owner := to })).length from List.length_set.symm) (set_at hidx0 rfl) (set_typed hidx0 fun t ht hne => match t, ht, hne with | 0, _, hne => absurd rfl hne | 1, _, _ => rfl | 2, _, _ => rfl | 3, _, _ => rfl | 4, _, _ => rfl) <| Nt <| We ?_ ?_
    ·exact ⟨V rfl, V rfl, V rfl, V rfl, V rfl, V rfl, V rfl, V rfl, Vj, Vj, V rfl, V rfl, V rfl, V rfl, Z⟩
    ·exact ⟨⟨_, rfl, rfl⟩, Z⟩
   ·intro e hdn he hdp
    obtain ⟨h2, h3, h0, h1, -, -, h4, h5, h6, h7, h8, -⟩ := (show e 2 = true ∧ e 3 = true ∧ e 0 = true ∧ e 1 = true ∧ e 2 = true ∧ e 3 = true ∧ e 4 = true ∧ e 5 = true ∧ e 6 = true ∧ e 7 = true ∧ e 8 = true ∧ True from hdp)
    have h11 : e 11 = false := fls he fun q => by obtain ⟨r10, -, -, -, -, -, -, -, -, -, -, -, -⟩ := (show e 10 = true ∧ e 5 = true ∧ e 8 = true ∧ e 0 = true ∧ e 1 = true ∧ e 2 = true ∧ e 3 = true ∧ e 4 = true ∧ e 5 = true ∧ e 6 = true ∧ e 7 = true ∧ e 8 = true ∧ True from hdn 11 q); obtain ⟨r9, -, -, -, -, -, -, -, -, -, -⟩ := (show e 9 = true ∧ e 0 = true ∧ e 1 = true ∧ e 2 = true ∧ e 3 = true ∧ e 4 = true ∧ e 5 = true ∧ e 6 = true ∧ e 7 = true ∧ e 8 = true ∧ True from hdn 10 r10); exact r9
    simp only [setE, h0, h1, h2, h3, h4, h5, h6, h7, h8, he, h11, cj_t, cj_f, cjn_t, cjn_f, cb_t, cb_f]
    refine U (IxO (V rfl) rfl (V rfl) ts60 te60 (by omega) (by first | omega | (simp only [List.length_set]; omega))) <| Nt <| We ?_ ?_
    ·exact ⟨V rfl, V rfl, V rfl, V rfl, V rfl, V rfl, V rfl, V rfl, V rfl, V rfl, V rfl, V rfl, V rfl, V rfl, Z⟩
    ·exact ⟨⟨_, rfl, rfl⟩, Z⟩
   ·intro e hdn he hdp
    obtain ⟨h9, h0, h1, h2, h3, h4, h5, h6, h7, h8, -⟩ := (show e 9 = true ∧ e 0 = true ∧ e 1 = true ∧ e 2 = true ∧ e 3 = true ∧ e 4 = true ∧ e 5 = true ∧ e 6 = true ∧ e 7 = true ∧ e 8 = true ∧ True from hdp)
    have h11 : e 11 = false := fls he fun q => by obtain ⟨r10, -, -, -, -, -, -, -, -, -, -, -, -⟩ := (show e 10 = true ∧ e 5 = true ∧ e 8 = true ∧ e 0 = true ∧ e 1 = true ∧ e 2 = true ∧ e 3 = true ∧ e 4 = true ∧ e 5 = true ∧ e 6 = true ∧ e 7 = true ∧ e 8 = true ∧ True from hdn 11 q); exact r10
    simp only [setE, h0, h1, h2, h3, h4, h5, h6, h7, h8, h9, he, h11, cj_t, cj_f, cjn_t, cjn_f, cb_t, cb_f]
    refine U (FlO _ _ (V rfl) Un71 rfl 0 Sz3) <| Nt <| We ?_ ?_
    ·exact ⟨V rfl, V rfl, V rfl, V rfl, V rfl, V rfl, V rfl, V rfl, V rfl, V rfl, V rfl, V rfl, V rfl, V rfl, Z⟩
    ·exact ⟨⟨_, rfl, rfl⟩, Z⟩
   ·intro e hdn he hdp
    obtain ⟨h10, h5, h8, h0, h1, h2, h3, h4, -, h6, h7, -, -⟩ := (show e 10 = true ∧ e 5 = true ∧ e 8 = true ∧ e 0 = true ∧ e 1 = true ∧ e 2 = true ∧ e 3 = true ∧ e 4 = true ∧ e 5 = true ∧ e 6 = true ∧ e 7 = true ∧ e 8 = true ∧ True from hdp)
    obtain ⟨h9, -, -, -, -, -, -, -, -, -, -⟩ := (show e 9 = true ∧ e 0 = true ∧ e 1 = true ∧ e 2 = true ∧ e 3 = true ∧ e 4 = true ∧ e 5 = true ∧ e 6 = true ∧ e 7 = true ∧ e 8 = true ∧ True from hdn 10 h10)
    simp only [setE, h0, h1, h2, h3, h4, h5, h6, h7, h8, h9, h10, he, cj_t, cj_f, cjn_t, cjn_f, cb_t, cb_f]
    have hidx1 : Int.toNat k < (l.set (Int.toNat k) ({ (l.getD (Int.toNat k) default) with owner := to })).length := by first | omega | (simp; omega)
    refine StO (rowG ptCell default ((l.set (Int.toNat k) ({ (l.getD (Int.toNat k) default) with owner := to })).set (Int.toNat k) ({ ((l.set (Int.toNat k) ({ (l.getD (Int.toNat k) default) with owner := to })).getD (Int.toNat k) default) with turn := th }))) (V rfl) rfl (V rfl) rfl rfl Sz3 (by decide) (show (l.set (Int.toNat k) ({ (l.getD (Int.toNat k) default) with owner := to })).length = ((l.set (Int.toNat k) ({ (l.getD (Int.toNat k) default) with owner := to })).set (Int.toNat k) ({ ((l.set (Int.toNat k) ({ (l.getD (Int.toNat k) default) with owner := to })).getD (Int.toNat k) default) with turn := th })).length from List.length_set.symm) (set_at hidx1 rfl) (set_typed hidx1 fun t ht hne => match t, ht, hne with | 0, _, _ => rfl | 1, _, hne => absurd rfl hne | 2, _, _ => rfl | 3, _, _ => rfl | 4, _, _ => rfl) <| Nt <| We ?_ ?_
    ·exact ⟨V rfl, V rfl, V rfl, V rfl, V rfl, V rfl, V rfl, V rfl, V rfl, V rfl, V rfl, V rfl, V rfl, V rfl, Z⟩
    ·exact ⟨⟨_, rfl, rfl⟩, Z⟩
   ·intro e he
    have h0 := he 0 (by decide)
    have h1 := he 1 (by decide)
    have h2 := he 2 (by decide)
    have h3 := he 3 (by decide)
    have h4 := he 4 (by decide)
    have h5 := he 5 (by decide)
    have h6 := he 6 (by decide)
    have h7 := he 7 (by decide)
    have h8 := he 8 (by decide)
    have h9 := he 9 (by decide)
    have h10 := he 10 (by decide)
    have h11 := he 11 (by decide)
    show Weak _ ⟨[(14, cj (e 0) (SV.own 1000)), (15, cj (e 1) (iv (k))), (16, cj (e 2) (SV.own 1000)), (17, cj (e 3) (iv (k))), (18, cj (e 4) (iv (to))), (19, cj (e 5) (iv (th))), (20, cj (e 6) (SV.oe 1000 5 (Int.toNat k) 0)), (21, cj (e 7) (SV.oe 1000 5 (Int.toNat k) 0)), (22, cj (e 9) (SV.oe 1000 5 (Int.toNat k) 0)), (23, cj (e 10) (SV.oe 1000 5 (Int.toNat k) 1)), (0, SV.own 1000), (1, elB [iv (to)] 0), (3, elB [iv (th)] 0), (4, elB [iv (k)] 0)], (cb (e 8) (cb (e 11) [(1000, ownOf ptCell 5 default ((l.set (Int.toNat k) ({ (l.getD (Int.toNat k) default) with owner := to })).set (Int.toNat k) ({ ((l.set (Int.toNat k) ({ (l.getD (Int.toNat k) default) with owner := to })).getD (Int.toNat k) default) with turn := th })) 71)] [(1000, ownOf ptCell 5 default (l.set (Int.toNat k) ({ (l.getD (Int.toNat k) default) with owner := to })) 71)]) (cb (e 11) [] [(1000, ownOf ptCell 5 default l 71)]))⟩ _
    simp only [h0, h1, h2, h3, h4, h5, h6, h7, h8, h9, h10, h11]
    show Weak _ ⟨[(14, SV.own 1000), (15, iv (k)), (16, SV.own 1000), (17, iv (k)), (18, iv (to)), (19, iv (th)), (20, SV.oe 1000 5 (Int.toNat k) 0), (21, SV.oe 1000 5 (Int.toNat k) 0), (22, SV.oe 1000 5 (Int.toNat k) 0), (23, SV.oe 1000 5 (Int.toNat k) 1), (0, SV.own 1000), (1, elB [iv (to)] 0), (3, elB [iv (th)] 0), (4, elB [iv (k)] 0)], [(1000, ownOf ptCell 5 default ((l.set (Int.toNat k) ({ (l.getD (Int.toNat k) default) with owner := to })).set (Int.toNat k) ({ ((l.set (Int.toNat k) ({ (l.getD (Int.toNat k) default) with owner := to })).getD (Int.toNat k) default) with turn := th })) 71)]⟩ _
    refine We ?_ ?_
    ·exact ⟨V rfl, V rfl, V rfl, V rfl, V rfl, V rfl, V rfl, V rfl, V rfl, V rfl, V rfl, V rfl, V rfl, V rfl, Z⟩
    ·exact ⟨⟨_, rfl, rfl⟩, Z⟩
   exact Sq <| Rq <| O (As K) <| Nq <| c_ownE 1000 ((doPass l fr to th (Int.toNat k)).1) rfl (by rw [doPass, if_neg (ff hc1), if_neg (ff hc2)] <;> rfl) <| Rx <| M1 rfl (V rfl) (by exact ⟨⟨_, rfl, rfl⟩, Z⟩) (by show iv (0) = iv ((doPass l fr to th (Int.toNat k)).2); rw [doPass, if_neg (ff hc1), if_neg (ff hc2)])

/-- glasshouse/glasshouseref.PortPushed$1 -/
theorem doPush_ct (l : List Pt) (g : List Cl) (k : Int) (hk : 0 ≤ k ∧ k < (l.length : Int)) (hm : 0 ≤ (l.getD (Int.toNat k) default).mate ∧ (l.getD (Int.toNat k) default).mate < (l.length : Int)) (h16 : (l.getD (Int.toNat (l.getD (Int.toNat k) default).mate) default).came.length ≤ 16) : CtM Try.prog 79 [SV.own 1000, elB [clRow g] 0, elB [iv (k)] 0] [(1000, ownOf ptCell 5 default l 71)] (iv ((doPush l k g).2)) [(1000, ownOf ptCell 5 default ((doPush l k g).1) 71)] := by
 refine CmO 48 Try.func79 rfl rfl rfl fun E => Sq <| Rq <| O (As K) <| Nq <| Sq <| Rt <| U (LdA (V rfl) Ga35 Sz35 (by show 0 + 1 ≤ 1; decide)) <| CT en32 (by exact ⟨⟨(Vi (g' := grG g) (V rfl) ⟨Z, Ir⟩), rfl⟩, Z⟩) (rcopy_ct g) <| U (Mv (V rfl)) <| U (Xt (V rfl) (by decide)) <| U (Xt (V rfl) (by decide)) <| Al 1 zero35 rfl rfl <| StA (V rfl) rfl (V rfl) Sz35 <| U (As (V rfl)) <| Nt <| Sq <| Rq <| O (Mv (V rfl)) <| O (Mv (V rfl)) <| O (Ld (V rfl) Ga3 (by show 0 < 1; decide)) <| O (IxO (V rfl) rfl (V rfl) ts60 te60 (by omega) (by first | omega | (simp only [List.length_set]; omega))) <| O (FlO _ _ (V rfl) Un71 rfl 0 Sz3) <| O (LdO (V rfl) rfl Ga3 (by decide)) <| O (IxO (V rfl) rfl (V rfl) ts60 te60 (by omega) (by first | omega | (simp only [List.length_set]; omega))) <| O (As (V rfl)) <| Nq <| Sq <| Bo <| Sq <| Rq <| O (Mv (V rfl)) <| O (Qn (V rfl) K) <| O (As (V rfl)) <| Nq <| Cd (V rfl) (fun hc1 => ?_) (fun hc1 => ?_)
 ·have hc1s := hc1; try simp only [BL] at hc1s
  exact Sq <| Rq <| O (Mv (V rfl)) <| O (As (V rfl)) <| Nq <| c_ownE 1000 ((doPush l k g).1) rfl (by rw [doPush, if_pos hc1s]) <| Rx <| M1 rfl (V rfl) (by exact ⟨⟨_, rfl, rfl⟩, Z⟩) (by show iv ((copyR g).2) = iv ((doPush l k g).2); rw [doPush, if_pos hc1s])
 ·have hc1s := hc1; try simp only [BL] at hc1s
  refine Sq <| Rq <| O (Mv (V rfl)) <| O (q_nilO (V rfl)) <| O (FlO _ _ (V rfl) Un71 rfl 0 Sz4) <| O (LdO (V rfl) rfl Ga4 (by decide)) <| O (As (V rfl)) <| Nq <| Cd (V rfl) (fun hc2 => ?_) (fun hc2 => ?_)
  ·have hc2s := hc2; try simp only [BL] at hc2s
   exact Sq <| Rq <| O (As K) <| Nq <| c_ownE 1000 ((doPush l k g).1) rfl (by rw [doPush, if_neg (not_not_intro hc1s), if_pos hc2]) <| Rx <| M1 rfl (V rfl) (by exact ⟨⟨_, rfl, rfl⟩, Z⟩) (by show iv (5) = iv ((doPush l k g).2); rw [doPush, if_neg (not_not_intro hc1s), if_pos hc2])
  ·have hc2s := hc2; try simp only [BL] at hc2s
   refine Sq <| Rq <| O (Mv (V rfl)) <| O (q_nilO (V rfl)) <| O (FlO _ _ (V rfl) Un71 rfl 0 Sz59) <| O (LdO (V rfl) rfl Ga59 (by decide)) <| O (Ln (V rfl) ts59) <| O (Ql (V rfl) K) <| O (As (V rfl)) <| Nq <| Cd (V rfl) (fun hc3 => ?_) (fun hc3 => ?_)
   ·have hc3s := hc3; try simp only [BL] at hc3s
    exact Sq <| Rq <| O (As K) <| Nq <| c_ownE 1000 ((doPush l k g).1) rfl (by rw [doPush, if_neg (not_not_intro hc1s), if_neg (ff hc2), if_pos hc3s]) <| Rx <| M1 rfl (V rfl) (by exact ⟨⟨_, rfl, rfl⟩, Z⟩) (by show iv (1) = iv ((doPush l k g).2); rw [doPush, if_neg (not_not_intro hc1s), if_neg (ff hc2), if_pos hc3s])
   ·have hc3s := hc3; try simp only [BL] at hc3s
    refine Sk <| Sq <| c_rd (fun e => ⟨[(36, cj (e 0) (SV.oe 1000 5 (Int.toNat ((l.getD (Int.toNat k) default).mate)) 0)), (37, cj (e 1) (cjn (e 6) (SV.own 2))), (38, cj (e 2) (SV.oe 1000 5 (Int.toNat ((l.getD (Int.toNat k) default).mate)) 0)), (39, cj (e 3) (SV.oe 1000 5 (Int.toNat ((l.getD (Int.toNat k) default).mate)) 0)), (40, cj (e 4) (SV.oe 1000 5 (Int.toNat ((l.getD (Int.toNat k) default).mate)) 3)), (41, cj (e 5) (gsRow ((l.getD (Int.toNat ((l.getD (Int.toNat k) default).mate)) default).came))), (42, cj (e 6) (cjn (e 9) (SV.own 3))), (43, cj (e 7) (SV.agg 1 (fun zi => (grG ((copyR g).1)) (0 + zi)))), (44, cj (e 8) (gsRow ([(copyR g).1]))), (45, cj (e 9) (cjn (e 12) (SV.own 4))), (46, cj (e 10) (SV.oe 1000 5 (Int.toNat ((l.getD (Int.toNat k) default).mate)) 0)), (47, cj (e 11) (SV.oe 1000 5 (Int.toNat ((l.getD (Int.toNat k) default).mate)) 3)), (5, SV.bp 1 0), (7, SV.oe 1000 5 (Int.toNat ((l.getD (Int.toNat k) default).mate)) 0)], (cb (e 1) (cb (e 6) (cb (e 9) (cb (e 12) [(1, Own.box 1 (grG ((copyR g).1)) 35), (1000, ownOf ptCell 5 default (l.set (Int.toNat ((l.getD (Int.toNat k) default).mate)) ({ (l.getD (Int.toNat ((l.getD (Int.toNat k) default).mate)) default) with came := (([]) ++ ((l.getD (Int.toNat ((l.getD (Int.toNat k) default).mate)) default).came)) ++ ([(copyR g).1]) })) 71)] [(1, Own.box 1 (grG ((copyR g).1)) 35), (1000, ownOf ptCell 5 default l 71), (4, ownOf grG 1 ([]) ((([]) ++ ((l.getD (Int.toNat ((l.getD (Int.toNat k) default).mate)) default).came)) ++ ([(copyR g).1])) 35)]) (cb (e 12) [] [(1, Own.box 1 (grG ((copyR g).1)) 35), (1000, ownOf ptCell 5 default l 71), (3, ownOf grG 1 ([]) (([]) ++ ((l.getD (Int.toNat ((l.getD (Int.toNat k) default).mate)) default).came)) 35)])) (cb (e 9) (cb (e 12) [] []) (cb (e 12) [] [(1, Own.box 1 (grG ((copyR g).1)) 35), (1000, ownOf ptCell 5 default l 71), (2, ownOf grG 1 ([]) ([]) 35)]))) (cb (e 6) (cb (e 9) (cb (e 12) [] []) (cb (e 12) [] [])) (cb (e 9) (cb (e 12) [] []) (cb (e 12) [] [(1, Own.box 1 (grG ((copyR g).1)) 35), (1000, ownOf ptCell 5 default l 71)]))))⟩) ⟨[(36, SV.oe 1000 5 (Int.toNat ((l.getD (Int.toNat k) default).mate)) 0), (38, SV.oe 1000 5 (Int.toNat ((l.getD (Int.toNat k) default).mate)) 0), (39, SV.oe 1000 5 (Int.toNat ((l.getD (Int.toNat k) default).mate)) 0), (40, SV.oe 1000 5 (Int.toNat ((l.getD (Int.toNat k) default).mate)) 3), (41, gsRow ((l.getD (Int.toNat ((l.getD (Int.toNat k) default).mate)) default).came)), (43, SV.agg 1 (fun zi => (grG ((copyR g).1)) (0 + zi))), (44, gsRow ([(copyR g).1])), (46, SV.oe 1000 5 (Int.toNat ((l.getD (Int.toNat k) default).mate)) 0), (47, SV.oe 1000 5 (Int.toNat ((l.getD (Int.toNat k) default).mate)) 3), (5, SV.bp 1 0), (7, SV.oe 1000 5 (Int.toNat ((l.getD (Int.toNat k) default).mate)) 0)], [(1, Own.box 1 (grG ((copyR g).1)) 35), (1000, ownOf ptCell 5 default (l.set (Int.toNat ((l.getD (Int.toNat k) default).mate)) ({ (l.getD (Int.toNat ((l.getD (Int.toNat k) default).mate)) default) with came := (([]) ++ ((l.getD (Int.toNat ((l.getD (Int.toNat k) default).mate)) default).came)) ++ ([(copyR g).1]) })) 71)]⟩ (by kernel_rfl) (by kernel_rfl) ?_ ⟨?_, ?_, ?_, ?_, ?_, ?_, ?_, ?_, ?_, ?_, ?_, ?_, ?_, Z⟩ ?_ ?_
    ·show Weak _ _ ⟨[(36, SV.junk), (37, SV.junk), (38, SV.junk), (39, SV.junk), (40, SV.junk), (41, SV.junk), (42, SV.junk), (43, SV.junk), (44, SV.junk), (45, SV.junk), (46, SV.junk), (47, SV.junk), (5, SV.bp 1 0), (7, SV.oe 1000 5 (Int.toNat ((l.getD (Int.toNat k) default).mate)) 0)], [(1, Own.box 1 (grG ((copyR g).1)) 35), (1000, ownOf ptCell 5 default l 71)]⟩
     refine We ?_ ?_
     ·exact ⟨Vj, Vj, Vj, Vj, Vj, Vj, Vj, Vj, Vj, Vj, Vj, Vj, V rfl, V rfl, Z⟩
     ·exact ⟨⟨_, rfl, ⟨rfl, rfl, (An rfl)⟩⟩, ⟨_, rfl, rfl⟩, Z⟩
    ·intro e hdn he hdp
     have h12 : e 12 = false := fls he fun q => by obtain ⟨r11, -, -, -, -, -, -, -, -, -, -, -, -, -⟩ := (show e 11 = true ∧ e 9 = true ∧ e 9 = true ∧ e 0 = true ∧ e 1 = true ∧ e 2 = true ∧ e 3 = true ∧ e 4 = true ∧ e 5 = true ∧ e 6 = true ∧ e 7 = true ∧ e 8 = true ∧ e 9 = true ∧ True from hdn 12 q); obtain ⟨r10, -, -, -, -, -, -, -, -, -, -, -⟩ := (show e 10 = true ∧ e 0 = true ∧ e 1 = true ∧ e 2 = true ∧ e 3 = true ∧ e 4 = true ∧ e 5 = true ∧ e 6 = true ∧ e 7 = true ∧ e 8 = true ∧ e 9 = true ∧ True from hdn 11 r11); obtain ⟨r0, -, -, -, -, -, -, -, -, -, -, -⟩ := (show e 0 = true ∧ e 0 = true ∧ e 1 = true ∧ e 2 = true ∧ e 3 = true ∧ e 4 = true ∧ e 5 = true ∧ e 6 = true ∧ e 7 = true ∧ e 8 = true ∧ e 9 = true ∧ True from hdn 10 r10); exact r0
     simp only [setE, he, h12, cj_t, cj_f, cjn_t, cjn_f, cb_t, cb_f]
     exact U (Mv (V rfl)) <| Nt <| weakS ⟨V rfl, V rfl, V rfl, V rfl, V rfl, V rfl, V rfl, V rfl, V rfl, V rfl, V rfl, V rfl, V rfl, V rfl, Z⟩
    ·intro e hdn he hdp
     have h6 : e 6 = false := fls he fun q => by obtain ⟨r1, -, -⟩ := (show e 1 = true ∧ e 5 = true ∧ True from hdn 6 q); exact r1
     have h9 : e 9 = false := fls he fun q => by obtain ⟨r6, -, -, -⟩ := (show e 6 = true ∧ e 8 = true ∧ e 6 = true ∧ True from hdn 9 q); obtain ⟨r1, -, -⟩ := (show e 1 = true ∧ e 5 = true ∧ True from hdn 6 r6); exact r1
     have h10 : e 10 = false := fls he fun q => by obtain ⟨-, -, -, -, -, -, -, -, -, -, r9, -⟩ := (show e 0 = true ∧ e 0 = true ∧ e 1 = true ∧ e 2 = true ∧ e 3 = true ∧ e 4 = true ∧ e 5 = true ∧ e 6 = true ∧ e 7 = true ∧ e 8 = true ∧ e 9 = true ∧ True from hdn 10 q); obtain ⟨r6, -, -, -⟩ := (show e 6 = true ∧ e 8 = true ∧ e 6 = true ∧ True from hdn 9 r9); obtain ⟨r1, -, -⟩ := (show e 1 = true ∧ e 5 = true ∧ True from hdn 6 r6); exact r1
     have h11 : e 11 = false := fls he fun q => by obtain ⟨r10, -, -, -, -, -, -, -, -, -, -, -⟩ := (show e 10 = true ∧ e 0 = true ∧ e 1 = true ∧ e 2 = true ∧ e 3 = true ∧ e 4 = true ∧ e 5 = true ∧ e 6 = true ∧ e 7 = true ∧ e 8 = true ∧ e 9 = true ∧ True from hdn 11 q); obtain ⟨-, -, -, -, -, -, -, -, -, -, r9, -⟩ := (show e 0 = true ∧ e 0 = true ∧ e 1 = true ∧ e 2 = true ∧ e 3 = true ∧ e 4 = true ∧ e 5 = true ∧ e 6 = true ∧ e 7 = true ∧ e 8 = true ∧ e 9 = true ∧ True from hdn 10 r10); obtain ⟨r6, -, -, -⟩ := (show e 6 = true ∧ e 8 = true ∧ e 6 = true ∧ True from hdn 9 r9); obtain ⟨r1, -, -⟩ := (show e 1 = true ∧ e 5 = true ∧ True from hdn 6 r6); exact r1
     have h12 : e 12 = false := fls he fun q => by obtain ⟨r11, -, -, -, -, -, -, -, -, -, -, -, -, -⟩ := (show e 11 = true ∧ e 9 = true ∧ e 9 = true ∧ e 0 = true ∧ e 1 = true ∧ e 2 = true ∧ e 3 = true ∧ e 4 = true ∧ e 5 = true ∧ e 6 = true ∧ e 7 = true ∧ e 8 = true ∧ e 9 = true ∧ True from hdn 12 q); obtain ⟨r10, -, -, -, -, -, -, -, -, -, -, -⟩ := (show e 10 = true ∧ e 0 = true ∧ e 1 = true ∧ e 2 = true ∧ e 3 = true ∧ e 4 = true ∧ e 5 = true ∧ e 6 = true ∧ e 7 = true ∧ e 8 = true ∧ e 9 = true ∧ True from hdn 11 r11); obtain ⟨-, -, -, -, -, -, -, -, -, -, r9, -⟩ := (show e 0 = true ∧ e 0 = true ∧ e 1 = true ∧ e 2 = true ∧ e 3 = true ∧ e 4 = true ∧ e 5 = true ∧ e 6 = true ∧ e 7 = true ∧ e 8 = true ∧ e 9 = true ∧ True from hdn 10 r10); obtain ⟨r6, -, -, -⟩ := (show e 6 = true ∧ e 8 = true ∧ e 6 = true ∧ True from hdn 9 r9); obtain ⟨r1, -, -⟩ := (show e 1 = true ∧ e 5 = true ∧ True from hdn 6 r6); exact r1
     simp only [setE, he, h6, h9, h10, h11, h12, cj_t, cj_f, cjn_t, cjn_f, cb_t, cb_f]
     refine t_bs0 2 (rowG grG ([]) []) Un59 Sz35 (fresh_mk ⟨(noId_cj rfl), rfl, (noId_cj rfl), (noId_cj rfl), (noId_cj rfl), (noId_cj rfl), rfl, (noId_cj rfl), (noId_cj rfl), rfl, rfl, rfl, rfl, rfl, Z⟩ rfl rfl) <| Nt <| We ?_ ?_
     ·exact ⟨V rfl, V rfl, V rfl, V rfl, V rfl, V rfl, Vj, V rfl, V rfl, Vj, Vj, Vj, V rfl, V rfl, Z⟩
     ·exact ⟨⟨_, rfl, ⟨rfl, rfl, (An rfl)⟩⟩, ⟨_, rfl, rfl⟩, ⟨_, rfl, rfl⟩, Z⟩
    ·intro e hdn he hdp
     have h6 : e 6 = false := fls he fun q => by obtain ⟨-, r5, -⟩ := (show e 1 = true ∧ e 5 = true ∧ True from hdn 6 q); obtain ⟨r4, -⟩ := (show e 4 = true ∧ True from hdn 5 r5); obtain ⟨r3, -⟩ := (show e 3 = true ∧ True from hdn 4 r4); obtain ⟨r2, -⟩ := (show e 2 = true ∧ True from hdn 3 r3); exact r2
     have h9 : e 9 = false := fls he fun q => by obtain ⟨r6, -, -, -⟩ := (show e 6 = true ∧ e 8 = true ∧ e 6 = true ∧ True from hdn 9 q); obtain ⟨-, r5, -⟩ := (show e 1 = true ∧ e 5 = true ∧ True from hdn 6 r6); obtain ⟨r4, -⟩ := (show e 4 = true ∧ True from hdn 5 r5); obtain ⟨r3, -⟩ := (show e 3 = true ∧ True from hdn 4 r4); obtain ⟨r2, -⟩ := (show e 2 = true ∧ True from hdn 3 r3); exact r2
     have h12 : e 12 = false := fls he fun q => by obtain ⟨r11, -, -, -, -, -, -, -, -, -, -, -, -, -⟩ := (show e 11 = true ∧ e 9 = true ∧ e 9 = true ∧ e 0 = true ∧ e 1 = true ∧ e 2 = true ∧ e 3 = true ∧ e 4 = true ∧ e 5 = true ∧ e 6 = true ∧ e 7 = true ∧ e 8 = true ∧ e 9 = true ∧ True from hdn 12 q); obtain ⟨r10, -, -, -, -, -, -, -, -, -, -, -⟩ := (show e 10 = true ∧ e 0 = true ∧ e 1 = true ∧ e 2 = true ∧ e 3 = true ∧ e 4 = true ∧ e 5 = true ∧ e 6 = true ∧ e 7 = true ∧ e 8 = true ∧ e 9 = true ∧ True from hdn 11 r11); obtain ⟨-, -, -, -, -, -, -, -, -, -, r9, -⟩ := (show e 0 = true ∧ e 0 = true ∧ e 1 = true ∧ e 2 = true ∧ e 3 = true ∧ e 4 = true ∧ e 5 = true ∧ e 6 = true ∧ e 7 = true ∧ e 8 = true ∧ e 9 = true ∧ True from hdn 10 r10); obtain ⟨r6, -, -, -⟩ := (show e 6 = true ∧ e 8 = true ∧ e 6 = true ∧ True from hdn 9 r9); obtain ⟨-, r5, -⟩ := (show e 1 = true ∧ e 5 = true ∧ True from hdn 6 r6); obtain ⟨r4, -⟩ := (show e 4 = true ∧ True from hdn 5 r5); obtain ⟨r3, -⟩ := (show e 3 = true ∧ True from hdn 4 r4); obtain ⟨r2, -⟩ := (show e 2 = true ∧ True from hdn 3 r3); exact r2
     simp only [setE, he, h6, h9, h12, cj_t, cj_f, cjn_t, cjn_f, cb_t, cb_f]
     exact U (Mv (V rfl)) <| Nt <| weakS ⟨V rfl, V rfl, V rfl, V rfl, V rfl, V rfl, Vj, V rfl, V rfl, Vj, V rfl, V rfl, V rfl, V rfl, Z⟩
    ·intro e hdn he hdp
     obtain ⟨h2, -⟩ := (show e 2 = true ∧ True from hdp)
     have h6 : e 6 = false := fls he fun q => by obtain ⟨-, r5, -⟩ := (show e 1 = true ∧ e 5 = true ∧ True from hdn 6 q); obtain ⟨r4, -⟩ := (show e 4 = true ∧ True from hdn 5 r5); obtain ⟨r3, -⟩ := (show e 3 = true ∧ True from hdn 4 r4); exact r3
     have h9 : e 9 = false := fls he fun q => by obtain ⟨r6, -, -, -⟩ := (show e 6 = true ∧ e 8 = true ∧ e 6 = true ∧ True from hdn 9 q); obtain ⟨-, r5, -⟩ := (show e 1 = true ∧ e 5 = true ∧ True from hdn 6 r6); obtain ⟨r4, -⟩ := (show e 4 = true ∧ True from hdn 5 r5); obtain ⟨r3, -⟩ := (show e 3 = true ∧ True from hdn 4 r4); exact r3
     have h12 : e 12 = false := fls he fun q => by obtain ⟨r11, -, -, -, -, -, -, -, -, -, -, -, -, -⟩ := (show e 11 = true ∧ e 9 = true ∧ e 9 = true ∧ e 0 = true ∧ e 1 = true ∧ e 2 = true ∧ e 3 = true ∧ e 4 = true ∧ e 5 = true ∧ e 6 = true ∧ e 7 = true ∧ e 8 = true ∧ e 9 = true ∧ True from hdn 12 q); obtain ⟨r10, -, -, -, -, -, -, -, -, -, -, -⟩ := (show e 10 = true ∧ e 0 = true ∧ e 1 = true ∧ e 2 = true ∧ e 3 = true ∧ e 4 = true ∧ e 5 = true ∧ e 6 = true ∧ e 7 = true ∧ e 8 = true ∧ e 9 = true ∧ True from hdn 11 r11); obtain ⟨-, -, -, -, -, -, -, -, -, -, r9, -⟩ := (show e 0 = true ∧ e 0 = true ∧ e 1 = true ∧ e 2 = true ∧ e 3 = true ∧ e 4 = true ∧ e 5 = true ∧ e 6 = true ∧ e 7 = true ∧ e 8 = true ∧ e 9 = true ∧ True from hdn 10 r10); obtain ⟨r6, -, -, -⟩ := (show e 6 = true ∧ e 8 = true ∧ e 6 = true ∧ True from hdn 9 r9); obtain ⟨-, r5, -⟩ := (show e 1 = true ∧ e 5 = true ∧ True from hdn 6 r6); obtain ⟨r4, -⟩ := (show e 4 = true ∧ True from hdn 5 r5); obtain ⟨r3, -⟩ := (show e 3 = true ∧ True from hdn 4 r4); exact r3
     cases hu1 : e 1
     ·simp only [setE, h2, he, h6, h9, h12, hu1, cj_t, cj_f, cjn_t, cjn_f, cb_t, cb_f]
      refine U (q_nilO (V rfl)) <| Nt <| We ?_ ?_
      ·exact ⟨V rfl, Vj, V rfl, V rfl, V rfl, V rfl, Vj, V rfl, V rfl, Vj, V rfl, V rfl, V rfl, V rfl, Z⟩
      ·exact ⟨⟨_, rfl, ⟨rfl, rfl, (An rfl)⟩⟩, ⟨_, rfl, rfl⟩, Z⟩
     ·simp only [setE, h2, he, h6, h9, h12, hu1, cj_t, cj_f, cjn_t, cjn_f, cb_t, cb_f]
      refine U (q_nilO (V rfl)) <| Nt <| We ?_ ?_
      ·exact ⟨V rfl, V rfl, V rfl, V rfl, V rfl, V rfl, Vj, V rfl, V rfl, Vj, V rfl, V rfl, V rfl, V rfl, Z⟩
      ·exact ⟨⟨_, rfl, ⟨rfl, rfl, (An rfl)⟩⟩, ⟨_, rfl, rfl⟩, ⟨_, rfl, rfl⟩, Z⟩
    ·intro e hdn he hdp
     obtain ⟨h3, -⟩ := (show e 3 = true ∧ True from hdp)
     obtain ⟨h2, -⟩ := (show e 2 = true ∧ True from hdn 3 h3)
     have h6 : e 6 = false := fls he fun q => by obtain ⟨-, r5, -⟩ := (show e 1 = true ∧ e 5 = true ∧ True from hdn 6 q); obtain ⟨r4, -⟩ := (show e 4 = true ∧ True from hdn 5 r5); exact r4
     have h9 : e 9 = false := fls he fun q => by obtain ⟨r6, -, -, -⟩ := (show e 6 = true ∧ e 8 = true ∧ e 6 = true ∧ True from hdn 9 q); obtain ⟨-, r5, -⟩ := (show e 1 = true ∧ e 5 = true ∧ True from hdn 6 r6); obtain ⟨r4, -⟩ := (show e 4 = true ∧ True from hdn 5 r5); exact r4
     have h12 : e 12 = false := fls he fun q => by obtain ⟨r11, -, -, -, -, -, -, -, -, -, -, -, -, -⟩ := (show e 11 = true ∧ e 9 = true ∧ e 9 = true ∧ e 0 = true ∧ e 1 = true ∧ e 2 = true ∧ e 3 = true ∧ e 4 = true ∧ e 5 = true ∧ e 6 = true ∧ e 7 = true ∧ e 8 = true ∧ e 9 = true ∧ True from hdn 12 q); obtain ⟨r10, -, -, -, -, -, -, -, -, -, -, -⟩ := (show e 10 = true ∧ e 0 = true ∧ e 1 = true ∧ e 2 = true ∧ e 3 = true ∧ e 4 = true ∧ e 5 = true ∧ e 6 = true ∧ e 7 = true ∧ e 8 = true ∧ e 9 = true ∧ True from hdn 11 r11); obtain ⟨-, -, -, -, -, -, -, -, -, -, r9, -⟩ := (show e 0 = true ∧ e 0 = true ∧ e 1 = true ∧ e 2 = true ∧ e 3 = true ∧ e 4 = true ∧ e 5 = true ∧ e 6 = true ∧ e 7 = true ∧ e 8 = true ∧ e 9 = true ∧ True from hdn 10 r10); obtain ⟨r6, -, -, -⟩ := (show e 6 = true ∧ e 8 = true ∧ e 6 = true ∧ True from hdn 9 r9); obtain ⟨-, r5, -⟩ := (show e 1 = true ∧ e 5 = true ∧ True from hdn 6 r6); obtain ⟨r4, -⟩ := (show e 4 = true ∧ True from hdn 5 r5); exact r4
     simp only [setE, h2, h3, he, h6, h9, h12, cj_t, cj_f, cjn_t, cjn_f, cb_t, cb_f]
     exact U (FlO _ _ (V rfl) Un71 rfl 0 Sz59) <| Nt <| weakS ⟨V rfl, V rfl, V rfl, V rfl, V rfl, V rfl, Vj, V rfl, V rfl, Vj, V rfl, V rfl, V rfl, V rfl, Z⟩
    ·intro e hdn he hdp
     obtain ⟨h4, -⟩ := (show e 4 = true ∧ True from hdp)
     obtain ⟨h3, -⟩ := (show e 3 = true ∧ True from hdn 4 h4)
     obtain ⟨h2, -⟩ := (show e 2 = true ∧ True from hdn 3 h3)
     have h6 : e 6 = false := fls he fun q => by obtain ⟨-, r5, -⟩ := (show e 1 = true ∧ e 5 = true ∧ True from hdn 6 q); exact r5
     have h9 : e 9 = false := fls he fun q => by obtain ⟨r6, -, -, -⟩ := (show e 6 = true ∧ e 8 = true ∧ e 6 = true ∧ True from hdn 9 q); obtain ⟨-, r5, -⟩ := (show e 1 = true ∧ e 5 = true ∧ True from hdn 6 r6); exact r5
     have h12 : e 12 = false := fls he fun q => by obtain ⟨r11, -, -, -, -, -, -, -, -, -, -, -, -, -⟩ := (show e 11 = true ∧ e 9 = true ∧ e 9 = true ∧ e 0 = true ∧ e 1 = true ∧ e 2 = true ∧ e 3 = true ∧ e 4 = true ∧ e 5 = true ∧ e 6 = true ∧ e 7 = true ∧ e 8 = true ∧ e 9 = true ∧ True from hdn 12 q); obtain ⟨r10, -, -, -, -, -, -, -, -, -, -, -⟩ := (show e 10 = true ∧ e 0 = true ∧ e 1 = true ∧ e 2 = true ∧ e 3 = true ∧ e 4 = true ∧ e 5 = true ∧ e 6 = true ∧ e 7 = true ∧ e 8 = true ∧ e 9 = true ∧ True from hdn 11 r11); obtain ⟨-, -, -, -, -, -, -, -, -, -, r9, -⟩ := (show e 0 = true ∧ e 0 = true ∧ e 1 = true ∧ e 2 = true ∧ e 3 = true ∧ e 4 = true ∧ e 5 = true ∧ e 6 = true ∧ e 7 = true ∧ e 8 = true ∧ e 9 = true ∧ True from hdn 10 r10); obtain ⟨r6, -, -, -⟩ := (show e 6 = true ∧ e 8 = true ∧ e 6 = true ∧ True from hdn 9 r9); obtain ⟨-, r5, -⟩ := (show e 1 = true ∧ e 5 = true ∧ True from hdn 6 r6); exact r5
     cases hu1 : e 1
     ·simp only [setE, h2, h3, h4, he, h6, h9, h12, hu1, cj_t, cj_f, cjn_t, cjn_f, cb_t, cb_f]
      refine U (LdO (V rfl) rfl Ga59 (by decide)) <| Nt <| We ?_ ?_
      ·exact ⟨V rfl, Vj, V rfl, V rfl, V rfl, V rfl, Vj, V rfl, V rfl, Vj, V rfl, V rfl, V rfl, V rfl, Z⟩
      ·exact ⟨⟨_, rfl, ⟨rfl, rfl, (An rfl)⟩⟩, ⟨_, rfl, rfl⟩, Z⟩
     ·simp only [setE, h2, h3, h4, he, h6, h9, h12, hu1, cj_t, cj_f, cjn_t, cjn_f, cb_t, cb_f]
      refine U (LdO (V rfl) rfl Ga59 (by decide)) <| Nt <| We ?_ ?_
      ·exact ⟨V rfl, V rfl, V rfl, V rfl, V rfl, V rfl, Vj, V rfl, V rfl, Vj, V rfl, V rfl, V rfl, V rfl, Z⟩
      ·exact ⟨⟨_, rfl, ⟨rfl, rfl, (An rfl)⟩⟩, ⟨_, rfl, rfl⟩, ⟨_, rfl, rfl⟩, Z⟩
    ·intro e hdn he hdp
     obtain ⟨h1, h5, -⟩ := (show e 1 = true ∧ e 5 = true ∧ True from hdp)
     obtain ⟨h4, -⟩ := (show e 4 = true ∧ True from hdn 5 h5)
     obtain ⟨h3, -⟩ := (show e 3 = true ∧ True from hdn 4 h4)
     obtain ⟨h2, -⟩ := (show e 2 = true ∧ True from hdn 3 h3)
     have h9 : e 9 = false := fls he fun q => by obtain ⟨r6, -, -, -⟩ := (show e 6 = true ∧ e 8 = true ∧ e 6 = true ∧ True from hdn 9 q); exact r6
     have h10 : e 10 = false := fls he fun q => by obtain ⟨-, -, -, -, -, -, -, -, -, -, r9, -⟩ := (show e 0 = true ∧ e 0 = true ∧ e 1 = true ∧ e 2 = true ∧ e 3 = true ∧ e 4 = true ∧ e 5 = true ∧ e 6 = true ∧ e 7 = true ∧ e 8 = true ∧ e 9 = true ∧ True from hdn 10 q); obtain ⟨r6, -, -, -⟩ := (show e 6 = true ∧ e 8 = true ∧ e 6 = true ∧ True from hdn 9 r9); exact r6
     have h11 : e 11 = false := fls he fun q => by obtain ⟨r10, -, -, -, -, -, -, -, -, -, -, -⟩ := (show e 10 = true ∧ e 0 = true ∧ e 1 = true ∧ e 2 = true ∧ e 3 = true ∧ e 4 = true ∧ e 5 = true ∧ e 6 = true ∧ e 7 = true ∧ e 8 = true ∧ e 9 = true ∧ True from hdn 11 q); obtain ⟨-, -, -, -, -, -, -, -, -, -, r9, -⟩ := (show e 0 = true ∧ e 0 = true ∧ e 1 = true ∧ e 2 = true ∧ e 3 = true ∧ e 4 = true ∧ e 5 = true ∧ e 6 = true ∧ e 7 = true ∧ e 8 = true ∧ e 9 = true ∧ True from hdn 10 r10); obtain ⟨r6, -, -, -⟩ := (show e 6 = true ∧ e 8 = true ∧ e 6 = true ∧ True from hdn 9 r9); exact r6
     have h12 : e 12 = false := fls he fun q => by obtain ⟨r11, -, -, -, -, -, -, -, -, -, -, -, -, -⟩ := (show e 11 = true ∧ e 9 = true ∧ e 9 = true ∧ e 0 = true ∧ e 1 = true ∧ e 2 = true ∧ e 3 = true ∧ e 4 = true ∧ e 5 = true ∧ e 6 = true ∧ e 7 = true ∧ e 8 = true ∧ e 9 = true ∧ True from hdn 12 q); obtain ⟨r10, -, -, -, -, -, -, -, -, -, -, -⟩ := (show e 10 = true ∧ e 0 = true ∧ e 1 = true ∧ e 2 = true ∧ e 3 = true ∧ e 4 = true ∧ e 5 = true ∧ e 6 = true ∧ e 7 = true ∧ e 8 = true ∧ e 9 = true ∧ True from hdn 11 r11); obtain ⟨-, -, -, -, -, -, -, -, -, -, r9, -⟩ := (show e 0 = true ∧ e 0 = true ∧ e 1 = true ∧ e 2 = true ∧ e 3 = true ∧ e 4 = true ∧ e 5 = true ∧ e 6 = true ∧ e 7 = true ∧ e 8 = true ∧ e 9 = true ∧ True from hdn 10 r10); obtain ⟨r6, -, -, -⟩ := (show e 6 = true ∧ e 8 = true ∧ e 6 = true ∧ True from hdn 9 r9); exact r6
     simp only [setE, h1, h2, h3, h4, h5, he, h9, h10, h11, h12, cj_t, cj_f, cjn_t, cjn_f, cb_t, cb_f]
     refine Ap 3 (rowG grG ([]) (([]) ++ ((l.getD (Int.toNat ((l.getD (Int.toNat k) default).mate)) default).came))) eo59 (V rfl) rfl (V rfl) (fresh_mk ⟨(noId_cj rfl), rfl, rfl, rfl, rfl, rfl, rfl, (noId_cj rfl), (noId_cj rfl), rfl, rfl, rfl, rfl, rfl, Z⟩ rfl rfl) (len_app ([]) ((l.getD (Int.toNat ((l.getD (Int.toNat k) default).mate)) default).came)) (by first | (simp only [maxLen, List.length_append, List.length_set, List.length_nil, List.length_cons]; omega) | (simp only [maxLen]; omega)) (by first | (simp only [List.length_append, List.length_set, List.length_nil, List.length_cons]; omega) | (omega)) (app_typed (l := ([])) (m := ((l.getD (Int.toNat ((l.getD (Int.toNat k) default).mate)) default).came))) <| Nt <| We ?_ ?_
     ·exact ⟨val_kc rfl (V rfl), Vj, V rfl, V rfl, V rfl, V rfl, V rfl, val_kc rfl (V rfl), val_kc rfl (V rfl), Vj, Vj, Vj, V rfl, V rfl, Z⟩
     ·exact ⟨⟨_, rfl, ⟨rfl, rfl, (An rfl)⟩⟩, ⟨_, rfl, rfl⟩, ⟨_, rfl, rfl⟩, Z⟩
    ·intro e hdn he hdp
     have h9 : e 9 = false := fls he fun q => by obtain ⟨-, r8, -, -⟩ := (show e 6 = true ∧ e 8 = true ∧ e 6 = true ∧ True from hdn 9 q); obtain ⟨r7, -⟩ := (show e 7 = true ∧ True from hdn 8 r8); exact r7
     have h12 : e 12 = false := fls he fun q => by obtain ⟨r11, -, -, -, -, -, -, -, -, -, -, -, -, -⟩ := (show e 11 = true ∧ e 9 = true ∧ e 9 = true ∧ e 0 = true ∧ e 1 = true ∧ e 2 = true ∧ e 3 = true ∧ e 4 = true ∧ e 5 = true ∧ e 6 = true ∧ e 7 = true ∧ e 8 = true ∧ e 9 = true ∧ True from hdn 12 q); obtain ⟨r10, -, -, -, -, -, -, -, -, -, -, -⟩ := (show e 10 = true ∧ e 0 = true ∧ e 1 = true ∧ e 2 = true ∧ e 3 = true ∧ e 4 = true ∧ e 5 = true ∧ e 6 = true ∧ e 7 = true ∧ e 8 = true ∧ e 9 = true ∧ True from hdn 11 r11); obtain ⟨-, -, -, -, -, -, -, -, -, -, r9, -⟩ := (show e 0 = true ∧ e 0 = true ∧ e 1 = true ∧ e 2 = true ∧ e 3 = true ∧ e 4 = true ∧ e 5 = true ∧ e 6 = true ∧ e 7 = true ∧ e 8 = true ∧ e 9 = true ∧ True from hdn 10 r10); obtain ⟨-, r8, -, -⟩ := (show e 6 = true ∧ e 8 = true ∧ e 6 = true ∧ True from hdn 9 r9); obtain ⟨r7, -⟩ := (show e 7 = true ∧ True from hdn 8 r8); exact r7
     cases hu1 : e 1
     ·have h6 : e 6 = false := fls hu1 fun q => by obtain ⟨r1, -, -⟩ := (show e 1 = true ∧ e 5 = true ∧ True from hdn 6 q); exact r1
      simp only [setE, he, h9, h12, hu1, h6, cj_t, cj_f, cjn_t, cjn_f, cb_t, cb_f]
      refine U (LBA (V rfl) rfl Ga35 Sz35 (by decide)) <| Nt <| We ?_ ?_
      ·exact ⟨V rfl, Vj, V rfl, V rfl, V rfl, V rfl, Vj, V rfl, V rfl, Vj, V rfl, V rfl, V rfl, V rfl, Z⟩
      ·exact ⟨⟨_, rfl, ⟨rfl, rfl, (An rfl)⟩⟩, ⟨_, rfl, rfl⟩, Z⟩
     ·cases hu6 : e 6
      ·simp only [setE, he, h9, h12, hu1, hu6, cj_t, cj_f, cjn_t, cjn_f, cb_t, cb_f]
       refine U (LBA (V rfl) rfl Ga35 Sz35 (by decide)) <| Nt <| We ?_ ?_
       ·exact ⟨V rfl, V rfl, V rfl, V rfl, V rfl, V rfl, Vj, V rfl, V rfl, Vj, V rfl, V rfl, V rfl, V rfl, Z⟩
       ·exact ⟨⟨_, rfl, ⟨rfl, rfl, (An rfl)⟩⟩, ⟨_, rfl, rfl⟩, ⟨_, rfl, rfl⟩, Z⟩
      ·simp only [setE, he, h9, h12, hu1, hu6, cj_t, cj_f, cjn_t, cjn_f, cb_t, cb_f]
       refine U (LBA (V rfl) rfl Ga35 Sz35 (by decide)) <| Nt <| We ?_ ?_
       ·exact ⟨V rfl, Vj, V rfl, V rfl, V rfl, V rfl, V rfl, V rfl, V rfl, Vj, V rfl, V rfl, V rfl, V rfl, Z⟩
       ·exact ⟨⟨_, rfl, ⟨rfl, rfl, (An rfl)⟩⟩, ⟨_, rfl, rfl⟩, ⟨_, rfl, rfl⟩, Z⟩
    ·intro e hdn he hdp
     obtain ⟨h7, -⟩ := (show e 7 = true ∧ True from hdp)
     have h9 : e 9 = false := fls he fun q => by obtain ⟨-, r8, -, -⟩ := (show e 6 = true ∧ e 8 = true ∧ e 6 = true ∧ True from hdn 9 q); exact r8
     have h12 : e 12 = false := fls he fun q => by obtain ⟨r11, -, -, -, -, -, -, -, -, -, -, -, -, -⟩ := (show e 11 = true ∧ e 9 = true ∧ e 9 = true ∧ e 0 = true ∧ e 1 = true ∧ e 2 = true ∧ e 3 = true ∧ e 4 = true ∧ e 5 = true ∧ e 6 = true ∧ e 7 = true ∧ e 8 = true ∧ e 9 = true ∧ True from hdn 12 q); obtain ⟨r10, -, -, -, -, -, -, -, -, -, -, -⟩ := (show e 10 = true ∧ e 0 = true ∧ e 1 = true ∧ e 2 = true ∧ e 3 = true ∧ e 4 = true ∧ e 5 = true ∧ e 6 = true ∧ e 7 = true ∧ e 8 = true ∧ e 9 = true ∧ True from hdn 11 r11); obtain ⟨-, -, -, -, -, -, -, -, -, -, r9, -⟩ := (show e 0 = true ∧ e 0 = true ∧ e 1 = true ∧ e 2 = true ∧ e 3 = true ∧ e 4 = true ∧ e 5 = true ∧ e 6 = true ∧ e 7 = true ∧ e 8 = true ∧ e 9 = true ∧ True from hdn 10 r10); obtain ⟨-, r8, -, -⟩ := (show e 6 = true ∧ e 8 = true ∧ e 6 = true ∧ True from hdn 9 r9); exact r8
     simp only [setE, h7, he, h9, h12, cj_t, cj_f, cjn_t, cjn_f, cb_t, cb_f]
     exact Uw (w_bs (n := 1) (zget := cmpG [SV.v (Value.slice none 0 0)]) [(fun zi => (grG ((copyR g).1)) (0 + zi))] (rowG grG ([]) [(copyR g).1]) Un59 Sz35 zero35 (by decide) rfl (by decide) ⟨⟨rfl, .inl (V rfl), rfl⟩, Z⟩ ⟨Z, ⟨Z, rfl⟩⟩) <| Nt <| weakS ⟨V rfl, V rfl, V rfl, V rfl, V rfl, V rfl, V rfl, V rfl, V rfl, Vj, V rfl, V rfl, V rfl, V rfl, Z⟩
    ·intro e hdn he hdp
     obtain ⟨h6, h8, -, -⟩ := (show e 6 = true ∧ e 8 = true ∧ e 6 = true ∧ True from hdp)
     obtain ⟨h7, -⟩ := (show e 7 = true ∧ True from hdn 8 h8)
     obtain ⟨h1, h5, -⟩ := (show e 1 = true ∧ e 5 = true ∧ True from hdn 6 h6)
     obtain ⟨h4, -⟩ := (show e 4 = true ∧ True from hdn 5 h5)
     obtain ⟨h3, -⟩ := (show e 3 = true ∧ True from hdn 4 h4)
     obtain ⟨h2, -⟩ := (show e 2 = true ∧ True from hdn 3 h3)
     have h10 : e 10 = false := fls he fun q => by obtain ⟨-, -, -, -, -, -, -, -, -, -, r9, -⟩ := (show e 0 = true ∧ e 0 = true ∧ e 1 = true ∧ e 2 = true ∧ e 3 = true ∧ e 4 = true ∧ e 5 = true ∧ e 6 = true ∧ e 7 = true ∧ e 8 = true ∧ e 9 = true ∧ True from hdn 10 q); exact r9
     have h11 : e 11 = false := fls he fun q => by obtain ⟨r10, -, -, -, -, -, -, -, -, -, -, -⟩ := (show e 10 = true ∧ e 0 = true ∧ e 1 = true ∧ e 2 = true ∧ e 3 = true ∧ e 4 = true ∧ e 5 = true ∧ e 6 = true ∧ e 7 = true ∧ e 8 = true ∧ e 9 = true ∧ True from hdn 11 q); obtain ⟨-, -, -, -, -, -, -, -, -, -, r9, -⟩ := (show e 0 = true ∧ e 0 = true ∧ e 1 = true ∧ e 2 = true ∧ e 3 = true ∧ e 4 = true ∧ e 5 = true ∧ e 6 = true ∧ e 7 = true ∧ e 8 = true ∧ e 9 = true ∧ True from hdn 10 r10); exact r9
     have h12 : e 12 = false := fls he fun q => by obtain ⟨r11, -, -, -, -, -, -, -, -, -, -, -, -, -⟩ := (show e 11 = true ∧ e 9 = true ∧ e 9 = true ∧ e 0 = true ∧ e 1 = true ∧ e 2 = true ∧ e 3 = true ∧ e 4 = true ∧ e 5 = true ∧ e 6 = true ∧ e 7 = true ∧ e 8 = true ∧ e 9 = true ∧ True from hdn 12 q); obtain ⟨r10, -, -, -, -, -, -, -, -, -, -, -⟩ := (show e 10 = true ∧ e 0 = true ∧ e 1 = true ∧ e 2 = true ∧ e 3 = true ∧ e 4 = true ∧ e 5 = true ∧ e 6 = true ∧ e 7 = true ∧ e 8 = true ∧ e 9 = true ∧ True from hdn 11 r11); obtain ⟨-, -, -, -, -, -, -, -, -, -, r9, -⟩ := (show e 0 = true ∧ e 0 = true ∧ e 1 = true ∧ e 2 = true ∧ e 3 = true ∧ e 4 = true ∧ e 5 = true ∧ e 6 = true ∧ e 7 = true ∧ e 8 = true ∧ e 9 = true ∧ True from hdn 10 r10); exact r9
     simp only [setE, h1, h2, h3, h4, h5, h6, h7, h8, he, h10, h11, h12, cj_t, cj_f, cjn_t, cjn_f, cb_t, cb_f]
     refine Ap 4 (rowG grG ([]) ((([]) ++ ((l.getD (Int.toNat ((l.getD (Int.toNat k) default).mate)) default).came)) ++ ([(copyR g).1]))) eo59 (V rfl) rfl (V rfl) (fresh_mk ⟨(noId_cj rfl), rfl, rfl, rfl, rfl, rfl, rfl, rfl, rfl, rfl, rfl, rfl, rfl, rfl, Z⟩ rfl rfl) (len_app (([]) ++ ((l.getD (Int.toNat ((l.getD (Int.toNat k) default).mate)) default).came)) ([(copyR g).1])) (by first | (simp only [maxLen, List.length_append, List.length_set, List.length_nil, List.length_cons]; omega) | (simp only [maxLen]; omega)) (by first | (simp only [List.length_append, List.length_set, List.length_nil, List.length_cons]; omega) | (omega)) (app_typed (l := (([]) ++ ((l.getD (Int.toNat ((l.getD (Int.toNat k) default).mate)) default).came))) (m := ([(copyR g).1]))) <| Nt <| We ?_ ?_
     ·exact ⟨val_kc rfl (V rfl), Vj, V rfl, V rfl, V rfl, V rfl, Vj, V rfl, V rfl, V rfl, Vj, Vj, V rfl, V rfl, Z⟩
     ·exact ⟨⟨_, rfl, ⟨rfl, rfl, (An rfl)⟩⟩, ⟨_, rfl, rfl⟩, ⟨_, rfl, rfl⟩, Z⟩
    ·intro e hdn he hdp
     obtain ⟨h0, -, h1, h2, h3, h4, h5, h6, h7, h8, h9, -⟩ := (show e 0 = true ∧ e 0 = true ∧ e 1 = true ∧ e 2 = true ∧ e 3 = true ∧ e 4 = true ∧ e 5 = true ∧ e 6 = true ∧ e 7 = true ∧ e 8 = true ∧ e 9 = true ∧ True from hdp)
     have h12 : e 12 = false := fls he fun q => by obtain ⟨r11, -, -, -, -, -, -, -, -, -, -, -, -, -⟩ := (show e 11 = true ∧ e 9 = true ∧ e 9 = true ∧ e 0 = true ∧ e 1 = true ∧ e 2 = true ∧ e 3 = true ∧ e 4 = true ∧ e 5 = true ∧ e 6 = true ∧ e 7 = true ∧ e 8 = true ∧ e 9 = true ∧ True from hdn 12 q); obtain ⟨r10, -, -, -, -, -, -, -, -, -, -, -⟩ := (show e 10 = true ∧ e 0 = true ∧ e 1 = true ∧ e 2 = true ∧ e 3 = true ∧ e 4 = true ∧ e 5 = true ∧ e 6 = true ∧ e 7 = true ∧ e 8 = true ∧ e 9 = true ∧ True from hdn 11 r11); exact r10
     simp only [setE, h0, h1, h2, h3, h4, h5, h6, h7, h8, h9, he, h12, cj_t, cj_f, cjn_t, cjn_f, cb_t, cb_f]
     refine U (q_nilO (V rfl)) <| Nt <| We ?_ ?_
     ·exact ⟨V rfl, Vj, V rfl, V rfl, V rfl, V rfl, Vj, V rfl, V rfl, V rfl, V rfl, V rfl, V rfl, V rfl, Z⟩
     ·exact ⟨⟨_, rfl, ⟨rfl, rfl, (An rfl)⟩⟩, ⟨_, rfl, rfl⟩, ⟨_, rfl, rfl⟩, Z⟩
    ·intro e hdn he hdp
     obtain ⟨h10, h0, h1, h2, h3, h4, h5, h6, h7, h8, h9, -⟩ := (show e 10 = true ∧ e 0 = true ∧ e 1 = true ∧ e 2 = true ∧ e 3 = true ∧ e 4 = true ∧ e 5 = true ∧ e 6 = true ∧ e 7 = true ∧ e 8 = true ∧ e 9 = true ∧ True from hdp)
     have h12 : e 12 = false := fls he fun q => by obtain ⟨r11, -, -, -, -, -, -, -, -, -, -, -, -, -⟩ := (show e 11 = true ∧ e 9 = true ∧ e 9 = true ∧ e 0 = true ∧ e 1 = true ∧ e 2 = true ∧ e 3 = true ∧ e 4 = true ∧ e 5 = true ∧ e 6 = true ∧ e 7 = true ∧ e 8 = true ∧ e 9 = true ∧ True from hdn 12 q); exact r11
     simp only [setE, h0, h1, h2, h3, h4, h5, h6, h7, h8, h9, h10, he, h12, cj_t, cj_f, cjn_t, cjn_f, cb_t, cb_f]
     refine U (FlO _ _ (V rfl) Un71 rfl 0 Sz59) <| Nt <| We ?_ ?_
     ·exact ⟨V rfl, Vj, V rfl, V rfl, V rfl, V rfl, Vj, V rfl, V rfl, V rfl, V rfl, V rfl, V rfl, V rfl, Z⟩
     ·exact ⟨⟨_, rfl, ⟨rfl, rfl, (An rfl)⟩⟩, ⟨_, rfl, rfl⟩, ⟨_, rfl, rfl⟩, Z⟩
    ·intro e hdn he hdp
     obtain ⟨h11, h9, -, h0, h1, h2, h3, h4, h5, h6, h7, h8, -, -⟩ := (show e 11 = true ∧ e 9 = true ∧ e 9 = true ∧ e 0 = true ∧ e 1 = true ∧ e 2 = true ∧ e 3 = true ∧ e 4 = true ∧ e 5 = true ∧ e 6 = true ∧ e 7 = true ∧ e 8 = true ∧ e 9 = true ∧ True from hdp)
     obtain ⟨h10, -, -, -, -, -, -, -, -, -, -, -⟩ := (show e 10 = true ∧ e 0 = true ∧ e 1 = true ∧ e 2 = true ∧ e 3 = true ∧ e 4 = true ∧ e 5 = true ∧ e 6 = true ∧ e 7 = true ∧ e 8 = true ∧ e 9 = true ∧ True from hdn 11 h11)
     simp only [setE, h0, h1, h2, h3, h4, h5, h6, h7, h8, h9, h10, h11, he, cj_t, cj_f, cjn_t, cjn_f, cb_t, cb_f]
     refine FzT 4 rfl <| ?_
     have hidx0 : Int.toNat ((l.getD (Int.toNat k) default).mate) < l.length := by first | omega | (simp; omega)
     refine StO (rowG ptCell default (l.set (Int.toNat ((l.getD (Int.toNat k) default).mate)) ({ (l.getD (Int.toNat ((l.getD (Int.toNat k) default).mate)) default) with came := (([]) ++ ((l.getD (Int.toNat ((l.getD (Int.toNat k) default).mate)) default).came)) ++ ([(copyR g).1]) }))) (V rfl) rfl (V rfl) rfl rfl Sz59 (by decide) (show l.length = (l.set (Int.toNat ((l.getD (Int.toNat k) default).mate)) ({ (l.getD (Int.toNat ((l.getD (Int.toNat k) default).mate)) default) with came := (([]) ++ ((l.getD (Int.toNat ((l.getD (Int.toNat k) default).mate)) default).came)) ++ ([(copyR g).1]) })).length from List.length_set.symm) (set_at hidx0 rfl) (set_typed hidx0 fun t ht hne => match t, ht, hne with | 0, _, _ => rfl | 1, _, _ => rfl | 2, _, _ => rfl | 3, _, hne => absurd rfl hne | 4, _, _ => rfl) <| Nt <| We ?_ ?_
     ·exact ⟨V rfl, Vj, V rfl, V rfl, V rfl, V rfl, Vj, V rfl, V rfl, Vj, V rfl, V rfl, V rfl, V rfl, Z⟩
     ·exact ⟨⟨_, rfl, ⟨rfl, rfl, (An rfl)⟩⟩, ⟨_, rfl, rfl⟩, Z⟩
    ·intro e he
     have h0 := he 0 (by decide)
     have h1 := he 1 (by decide)
     have h2 := he 2 (by decide)
     have h3 := he 3 (by decide)
     have h4 := he 4 (by decide)
     have h5 := he 5 (by decide)
     have h6 := he 6 (by decide)
     have h7 := he 7 (by decide)
     have h8 := he 8 (by decide)
     have h9 := he 9 (by decide)
     have h10 := he 10 (by decide)
     have h11 := he 11 (by decide)
     have h12 := he 12 (by decide)
     show Weak _ ⟨[(36, cj (e 0) (SV.oe 1000 5 (Int.toNat ((l.getD (Int.toNat k) default).mate)) 0)), (37, cj (e 1) (cjn (e 6) (SV.own 2))), (38, cj (e 2) (SV.oe 1000 5 (Int.toNat ((l.getD (Int.toNat k) default).mate)) 0)), (39, cj (e 3) (SV.oe 1000 5 (Int.toNat ((l.getD (Int.toNat k) default).mate)) 0)), (40, cj (e 4) (SV.oe 1000 5 (Int.toNat ((l.getD (Int.toNat k) default).mate)) 3)), (41, cj (e 5) (gsRow ((l.getD (Int.toNat ((l.getD (Int.toNat k) default).mate)) default).came))), (42, cj (e 6) (cjn (e 9) (SV.own 3))), (43, cj (e 7) (SV.agg 1 (fun zi => (grG ((copyR g).1)) (0 + zi)))), (44, cj (e 8) (gsRow ([(copyR g).1]))), (45, cj (e 9) (cjn (e 12) (SV.own 4))), (46, cj (e 10) (SV.oe 1000 5 (Int.toNat ((l.getD (Int.toNat k) default).mate)) 0)), (47, cj (e 11) (SV.oe 1000 5 (Int.toNat ((l.getD (Int.toNat k) default).mate)) 3)), (5, SV.bp 1 0), (7, SV.oe 1000 5 (Int.toNat ((l.getD (Int.toNat k) default).mate)) 0)], (cb (e 1) (cb (e 6) (cb (e 9) (cb (e 12) [(1, Own.box 1 (grG ((copyR g).1)) 35), (1000, ownOf ptCell 5 default (l.set (Int.toNat ((l.getD (Int.toNat k) default).mate)) ({ (l.getD (Int.toNat ((l.getD (Int.toNat k) default).mate)) default) with came := (([]) ++ ((l.getD (Int.toNat ((l.getD (Int.toNat k) default).mate)) default).came)) ++ ([(copyR g).1]) })) 71)] [(1, Own.box 1 (grG ((copyR g).1)) 35), (1000, ownOf ptCell 5 default l 71), (4, ownOf grG 1 ([]) ((([]) ++ ((l.getD (Int.toNat ((l.getD (Int.toNat k) default).mate)) default).came)) ++ ([(copyR g).1])) 35)]) (cb (e 12) [] [(1, Own.box 1 (grG ((copyR g).1)) 35), (1000, ownOf ptCell 5 default l 71), (3, ownOf grG 1 ([]) (([]) ++ ((l.getD (Int.toNat ((l.getD (Int.toNat k) default).mate)) default).came)) 35)])) (cb (e 9) (cb (e 12) [] []) (cb (e 12) [] [(1, Own.box 1 (grG ((copyR g).1)) 35), (1000, ownOf ptCell 5 default l 71), (2, ownOf grG 1 ([]) ([]) 35)]))) (cb (e 6) (cb (e 9) (cb (e 12) [] []) (cb (e 12) [] [])) (cb (e 9) (cb (e 12) [] []) (cb (e 12) [] [(1, Own.box 1 (grG ((copyR g).1)) 35), (1000, ownOf ptCell 5 default l 71)]))))⟩ _
     simp only [h0, h1, h2, h3, h4, h5, h6, h7, h8, h9, h10, h11, h12]
     show Weak _ ⟨[(36, SV.oe 1000 5 (Int.toNat ((l.getD (Int.toNat k) default).mate)) 0), (37, SV.junk), (38, SV.oe 1000 5 (Int.toNat ((l.getD (Int.toNat k) default).mate)) 0), (39, SV.oe 1000 5 (Int.toNat ((l.getD (Int.toNat k) default).mate)) 0), (40, SV.oe 1000 5 (Int.toNat ((l.getD (Int.toNat k) default).mate)) 3), (41, gsRow ((l.getD (Int.toNat ((l.getD (Int.toNat k) default).mate)) default).came)), (42, SV.junk), (43, SV.agg 1 (fun zi => (grG ((copyR g).1)) (0 + zi))), (44, gsRow ([(copyR g).1])), (45, SV.junk), (46, SV.oe 1000 5 (Int.toNat ((l.getD (Int.toNat k) default).mate)) 0), (47, SV.oe 1000 5 (Int.toNat ((l.getD (Int.toNat k) default).mate)) 3), (5, SV.bp 1 0), (7, SV.oe 1000 5 (Int.toNat ((l.getD (Int.toNat k) default).mate)) 0)], [(1, Own.box 1 (grG ((copyR g).1)) 35), (1000, ownOf ptCell 5 default (l.set (Int.toNat ((l.getD (Int.toNat k) default).mate)) ({ (l.getD (Int.toNat ((l.getD (Int.toNat k) default).mate)) default) with came := (([]) ++ ((l.getD (Int.toNat ((l.getD (Int.toNat k) default).mate)) default).came)) ++ ([(copyR g).1]) })) 71)]⟩ _
     refine We ?_ ?_
     ·exact ⟨V rfl, V rfl, V rfl, V rfl, V rfl, Va (V rfl) (An rfl), V rfl, V rfl, V rfl, V rfl, V rfl, Z⟩
     ·exact ⟨⟨_, rfl, ⟨rfl, rfl, (An rfl)⟩⟩, ⟨_, rfl, rfl⟩, Z⟩
    exact Sq <| Rq <| O (As K) <| Nq <| c_ownE 1000 ((doPush l k g).1) rfl (by rw [doPush, if_neg (not_not_intro hc1s), if_neg (ff hc2), if_neg hc3s]) <| Rx <| M1 rfl (V rfl) (by exact ⟨⟨_, rfl, rfl⟩, Z⟩) (by show iv (0) = iv ((doPush l k g).2); rw [doPush, if_neg (not_not_intro hc1s), if_neg (ff hc2), if_neg hc3s])

/-- glasshouse/glasshouseref.PortShut$1 -/
theorem doShut_ct (l : List Pt) (k : Int) (hk : 0 ≤ k ∧ k < (l.length : Int)) : CtM Try.prog 81 [SV.own 1000, elB [iv (k)] 0] [(1000, ownOf ptCell 5 default l 71)] (iv (0)) [(1000, ownOf ptCell 5 default (shutL l (Int.toNat k)) 71)] := by
 refine CmO 12 Try.func81 rfl rfl rfl fun E => Sq <| Rq <| O (As K) <| Nq <| Sq <| c_rd (fun e => ⟨[(4, cj (e 0) (SV.own 1000)), (5, cj (e 1) (iv (k))), (6, cj (e 2) (SV.own 1000)), (7, cj (e 3) (iv (k))), (8, cj (e 4) (SV.oe 1000 5 (Int.toNat k) 0)), (9, cj (e 5) (SV.oe 1000 5 (Int.toNat k) 4)), (10, cj (e 7) (SV.oe 1000 5 (Int.toNat k) 0)), (11, cj (e 8) (SV.oe 1000 5 (Int.toNat k) 3)), (0, SV.own 1000), (1, elB [iv (k)] 0)], (cb (e 6) (cb (e 9) [(1000, ownOf ptCell 5 default ((l.set (Int.toNat k) ({ (l.getD (Int.toNat k) default) with shut := true })).set (Int.toNat k) ({ ((l.set (Int.toNat k) ({ (l.getD (Int.toNat k) default) with shut := true })).getD (Int.toNat k) default) with came := [] })) 71)] [(1000, ownOf ptCell 5 default (l.set (Int.toNat k) ({ (l.getD (Int.toNat k) default) with shut := true })) 71)]) (cb (e 9) [] [(1000, ownOf ptCell 5 default l 71)]))⟩) ⟨[(4, SV.own 1000), (5, iv (k)), (6, SV.own 1000), (7, iv (k)), (8, SV.oe 1000 5 (Int.toNat k) 0), (9, SV.oe 1000 5 (Int.toNat k) 4), (10, SV.oe 1000 5 (Int.toNat k) 0), (11, SV.oe 1000 5 (Int.toNat k) 3), (0, SV.own 1000), (1, elB [iv (k)] 0)], [(1000, ownOf ptCell 5 default ((l.set (Int.toNat k) ({ (l.getD (Int.toNat k) default) with shut := true })).set (Int.toNat k) ({ ((l.set (Int.toNat k) ({ (l.getD (Int.toNat k) default) with shut := true })).getD (Int.toNat k) default) with came := [] })) 71)]⟩ (by kernel_rfl) (by kernel_rfl) ?_ ⟨?_, ?_, ?_, ?_, ?_, ?_, ?_, ?_, ?_, ?_, Z⟩ ?_ ?_
 ·show Weak _ _ ⟨[(4, SV.junk), (5, SV.junk), (6, SV.junk), (7, SV.junk), (8, SV.junk), (9, SV.junk), (10, SV.junk), (11, SV.junk), (0, SV.own 1000), (1, elB [iv (k)] 0)], [(1000, ownOf ptCell 5 default l 71)]⟩
  refine We ?_ ?_
  ·exact ⟨Vj, Vj, Vj, Vj, Vj, Vj, Vj, Vj, V rfl, V rfl, Z⟩
  ·exact ⟨⟨_, rfl, rfl⟩, Z⟩
 ·intro e hdn he hdp
  have h6 : e 6 = false := fls he fun q => by obtain ⟨r5, -, -, -⟩ := (show e 5 = true ∧ e 0 = true ∧ e 1 = true ∧ True from hdn 6 q); obtain ⟨r4, -, -, -⟩ := (show e 4 = true ∧ e 0 = true ∧ e 1 = true ∧ True from hdn 5 r5); obtain ⟨r0, -, -, -, -⟩ := (show e 0 = true ∧ e 1 = true ∧ e 0 = true ∧ e 1 = true ∧ True from hdn 4 r4); exact r0
  have h9 : e 9 = false := fls he fun q => by obtain ⟨r8, -, -, -, -, -, -, -, -, -⟩ := (show e 8 = true ∧ e 6 = true ∧ e 0 = true ∧ e 1 = true ∧ e 2 = true ∧ e 3 = true ∧ e 4 = true ∧ e 5 = true ∧ e 6 = true ∧ True from hdn 9 q); obtain ⟨r7, -, -, -, -, -, -, -, -⟩ := (show e 7 = true ∧ e 0 = true ∧ e 1 = true ∧ e 2 = true ∧ e 3 = true ∧ e 4 = true ∧ e 5 = true ∧ e 6 = true ∧ True from hdn 8 r8); obtain ⟨-, -, -, -, -, -, -, -, r6, -⟩ := (show e 2 = true ∧ e 3 = true ∧ e 0 = true ∧ e 1 = true ∧ e 2 = true ∧ e 3 = true ∧ e 4 = true ∧ e 5 = true ∧ e 6 = true ∧ True from hdn 7 r7); obtain ⟨r5, -, -, -⟩ := (show e 5 = true ∧ e 0 = true ∧ e 1 = true ∧ True from hdn 6 r6); obtain ⟨r4, -, -, -⟩ := (show e 4 = true ∧ e 0 = true ∧ e 1 = true ∧ True from hdn 5 r5); obtain ⟨r0, -, -, -, -⟩ := (show e 0 = true ∧ e 1 = true ∧ e 0 = true ∧ e 1 = true ∧ True from hdn 4 r4); exact r0
  simp only [setE, he, h6, h9, cj_t, cj_f, cjn_t, cjn_f, cb_t, cb_f]
  refine U (Mv (V rfl)) <| Nt <| We ?_ ?_
  ·exact ⟨V rfl, V rfl, V rfl, V rfl, V rfl, V rfl, V rfl, V rfl, V rfl, V rfl, Z⟩
  ·exact ⟨⟨_, rfl, rfl⟩, Z⟩
 ·intro e hdn he hdp
  have h6 : e 6 = false := fls he fun q => by obtain ⟨r5, -, -, -⟩ := (show e 5 = true ∧ e 0 = true ∧ e 1 = true ∧ True from hdn 6 q); obtain ⟨r4, -, -, -⟩ := (show e 4 = true ∧ e 0 = true ∧ e 1 = true ∧ True from hdn 5 r5); obtain ⟨-, r1, -, -, -⟩ := (show e 0 = true ∧ e 1 = true ∧ e 0 = true ∧ e 1 = true ∧ True from hdn 4 r4); exact r1
  have h9 : e 9 = false := fls he fun q => by obtain ⟨r8, -, -, -, -, -, -, -, -, -⟩ := (show e 8 = true ∧ e 6 = true ∧ e 0 = true ∧ e 1 = true ∧ e 2 = true ∧ e 3 = true ∧ e 4 = true ∧ e 5 = true ∧ e 6 = true ∧ True from hdn 9 q); obtain ⟨r7, -, -, -, -, -, -, -, -⟩ := (show e 7 = true ∧ e 0 = true ∧ e 1 = true ∧ e 2 = true ∧ e 3 = true ∧ e 4 = true ∧ e 5 = true ∧ e 6 = true ∧ True from hdn 8 r8); obtain ⟨-, -, -, -, -, -, -, -, r6, -⟩ := (show e 2 = true ∧ e 3 = true ∧ e 0 = true ∧ e 1 = true ∧ e 2 = true ∧ e 3 = true ∧ e 4 = true ∧ e 5 = true ∧ e 6 = true ∧ True from hdn 7 r7); obtain ⟨r5, -, -, -⟩ := (show e 5 = true ∧ e 0 = true ∧ e 1 = true ∧ True from hdn 6 r6); obtain ⟨r4, -, -, -⟩ := (show e 4 = true ∧ e 0 = true ∧ e 1 = true ∧ True from hdn 5 r5); obtain ⟨-, r1, -, -, -⟩ := (show e 0 = true ∧ e 1 = true ∧ e 0 = true ∧ e 1 = true ∧ True from hdn 4 r4); exact r1
  simp only [setE, he, h6, h9, cj_t, cj_f, cjn_t, cjn_f, cb_t, cb_f]
  refine U (Ld (V rfl) Ga3 (by show 0 < 1; decide)) <| Nt <| We ?_ ?_
  ·exact ⟨V rfl, V rfl, V rfl, V rfl, V rfl, V rfl, V rfl, V rfl, V rfl, V rfl, Z⟩
  ·exact ⟨⟨_, rfl, rfl⟩, Z⟩
 ·intro e hdn he hdp
  have h9 : e 9 = false := fls he fun q => by obtain ⟨r8, -, -, -, -, -, -, -, -, -⟩ := (show e 8 = true ∧ e 6 = true ∧ e 0 = true ∧ e 1 = true ∧ e 2 = true ∧ e 3 = true ∧ e 4 = true ∧ e 5 = true ∧ e 6 = true ∧ True from hdn 9 q); obtain ⟨r7, -, -, -, -, -, -, -, -⟩ := (show e 7 = true ∧ e 0 = true ∧ e 1 = true ∧ e 2 = true ∧ e 3 = true ∧ e 4 = true ∧ e 5 = true ∧ e 6 = true ∧ True from hdn 8 r8); obtain ⟨r2, -, -, -, -, -, -, -, -, -⟩ := (show e 2 = true ∧ e 3 = true ∧ e 0 = true ∧ e 1 = true ∧ e 2 = true ∧ e 3 = true ∧ e 4 = true ∧ e 5 = true ∧ e 6 = true ∧ True from hdn 7 r7); exact r2
  simp only [setE, he, h9, cj_t, cj_f, cjn_t, cjn_f, cb_t, cb_f]
  exact U (Mv (V rfl)) <| Nt <| weakS ⟨V rfl, V rfl, V rfl, V rfl, V rfl, V rfl, V rfl, V rfl, V rfl, V rfl, Z⟩
 ·intro e hdn he hdp
  have h9 : e 9 = false := fls he fun q => by obtain ⟨r8, -, -, -, -, -, -, -, -, -⟩ := (show e 8 = true ∧ e 6 = true ∧ e 0 = true ∧ e 1 = true ∧ e 2 = true ∧ e 3 = true ∧ e 4 = true ∧ e 5 = true ∧ e 6 = true ∧ True from hdn 9 q); obtain ⟨r7, -, -, -, -, -, -, -, -⟩ := (show e 7 = true ∧ e 0 = true ∧ e 1 = true ∧ e 2 = true ∧ e 3 = true ∧ e 4 = true ∧ e 5 = true ∧ e 6 = true ∧ True from hdn 8 r8); obtain ⟨-, r3, -, -, -, -, -, -, -, -⟩ := (show e 2 = true ∧ e 3 = true ∧ e 0 = true ∧ e 1 = true ∧ e 2 = true ∧ e 3 = true ∧ e 4 = true ∧ e 5 = true ∧ e 6 = true ∧ True from hdn 7 r7); exact r3
  simp only [setE, he, h9, cj_t, cj_f, cjn_t, cjn_f, cb_t, cb_f]
  exact U (Ld (V rfl) Ga3 (by show 0 < 1; decide)) <| Nt <| weakS ⟨V rfl, V rfl, V rfl, V rfl, V rfl, V rfl, V rfl, V rfl, V rfl, V rfl, Z⟩
 ·intro e hdn he hdp
  obtain ⟨h0, h1, -, -, -⟩ := (show e 0 = true ∧ e 1 = true ∧ e 0 = true ∧ e 1 = true ∧ True from hdp)
  have h6 : e 6 = false := fls he fun q => by obtain ⟨r5, -, -, -⟩ := (show e 5 = true ∧ e 0 = true ∧ e 1 = true ∧ True from hdn 6 q); obtain ⟨r4, -, -, -⟩ := (show e 4 = true ∧ e 0 = true ∧ e 1 = true ∧ True from hdn 5 r5); exact r4
  have h9 : e 9 = false := fls he fun q => by obtain ⟨r8, -, -, -, -, -, -, -, -, -⟩ := (show e 8 = true ∧ e 6 = true ∧ e 0 = true ∧ e 1 = true ∧ e 2 = true ∧ e 3 = true ∧ e 4 = true ∧ e 5 = true ∧ e 6 = true ∧ True from hdn 9 q); obtain ⟨r7, -, -, -, -, -, -, -, -⟩ := (show e 7 = true ∧ e 0 = true ∧ e 1 = true ∧ e 2 = true ∧ e 3 = true ∧ e 4 = true ∧ e 5 = true ∧ e 6 = true ∧ True from hdn 8 r8); obtain ⟨-, -, -, -, -, -, -, -, r6, -⟩ := (show e 2 = true ∧ e 3 = true ∧ e 0 = true ∧ e 1 = true ∧ e 2 = true ∧ e 3 = true ∧ e 4 = true ∧ e 5 = true ∧ e 6 = true ∧ True from hdn 7 r7); obtain ⟨r5, -, -, -⟩ := (show e 5 = true ∧ e 0 = true ∧ e 1 = true ∧ True from hdn 6 r6); obtain ⟨r4, -, -, -⟩ := (show e 4 = true ∧ e 0 = true ∧ e 1 = true ∧ True from hdn 5 r5); exact r4
  simp only [setE, h0, h1, he, h6, h9, cj_t, cj_f, cjn_t, cjn_f, cb_t, cb_f]
  refine U (IxO (V rfl) rfl (V rfl) ts60 te60 (by omega) (by first | omega | (simp only [List.length_set]; omega))) <| Nt <| We ?_ ?_
  ·exact ⟨V rfl, V rfl, V rfl, V rfl, V rfl, V rfl, V rfl, V rfl, V rfl, V rfl, Z⟩
  ·exact ⟨⟨_, rfl, rfl⟩, Z⟩
 ·intro e hdn he hdp
  obtain ⟨h4, h0, h1, -⟩ := (show e 4 = true ∧ e 0 = true ∧ e 1 = true ∧ True from hdp)
  have h6 : e 6 = false := fls he fun q => by obtain ⟨r5, -, -, -⟩ := (show e 5 = true ∧ e 0 = true ∧ e 1 = true ∧ True from hdn 6 q); exact r5
  have h9 : e 9 = false := fls he fun q => by obtain ⟨r8, -, -, -, -, -, -, -, -, -⟩ := (show e 8 = true ∧ e 6 = true ∧ e 0 = true ∧ e 1 = true ∧ e 2 = true ∧ e 3 = true ∧ e 4 = true ∧ e 5 = true ∧ e 6 = true ∧ True from hdn 9 q); obtain ⟨r7, -, -, -, -, -, -, -, -⟩ := (show e 7 = true ∧ e 0 = true ∧ e 1 = true ∧ e 2 = true ∧ e 3 = true ∧ e 4 = true ∧ e 5 = true ∧ e 6 = true ∧ True from hdn 8 r8); obtain ⟨-, -, -, -, -, -, -, -, r6, -⟩ := (show e 2 = true ∧ e 3 = true ∧ e 0 = true ∧ e 1 = true ∧ e 2 = true ∧ e 3 = true ∧ e 4 = true ∧ e 5 = true ∧ e 6 = true ∧ True from hdn 7 r7); obtain ⟨r5, -, -, -⟩ := (show e 5 = true ∧ e 0 = true ∧ e 1 = true ∧ True from hdn 6 r6); exact r5
  simp only [setE, h0, h1, h4, he, h6, h9, cj_t, cj_f, cjn_t, cjn_f, cb_t, cb_f]
  refine U (FlO _ _ (V rfl) Un71 rfl 0 Sz4) <| Nt <| We ?_ ?_
  ·exact ⟨V rfl, V rfl, V rfl, V rfl, V rfl, V rfl, V rfl, V rfl, V rfl, V rfl, Z⟩
  ·exact ⟨⟨_, rfl, rfl⟩, Z⟩
 ·intro e hdn he hdp
  obtain ⟨h5, h0, h1, -⟩ := (show e 5 = true ∧ e 0 = true ∧ e 1 = true ∧ True from hdp)
  obtain ⟨h4, -, -, -⟩ := (show e 4 = true ∧ e 0 = true ∧ e 1 = true ∧ True from hdn 5 h5)
  have h7 : e 7 = false := fls he fun q => by obtain ⟨-, -, -, -, -, -, -, -, r6, -⟩ := (show e 2 = true ∧ e 3 = true ∧ e 0 = true ∧ e 1 = true ∧ e 2 = true ∧ e 3 = true ∧ e 4 = true ∧ e 5 = true ∧ e 6 = true ∧ True from hdn 7 q); exact r6
  have h8 : e 8 = false := fls he fun q => by obtain ⟨r7, -, -, -, -, -, -, -, -⟩ := (show e 7 = true ∧ e 0 = true ∧ e 1 = true ∧ e 2 = true ∧ e 3 = true ∧ e 4 = true ∧ e 5 = true ∧ e 6 = true ∧ True from hdn 8 q); obtain ⟨-, -, -, -, -, -, -, -, r6, -⟩ := (show e 2 = true ∧ e 3 = true ∧ e 0 = true ∧ e 1 = true ∧ e 2 = true ∧ e 3 = true ∧ e 4 = true ∧ e 5 = true ∧ e 6 = true ∧ True from hdn 7 r7); exact r6
  have h9 : e 9 = false := fls he fun q => by obtain ⟨r8, -, -, -, -, -, -, -, -, -⟩ := (show e 8 = true ∧ e 6 = true ∧ e 0 = true ∧ e 1 = true ∧ e 2 = true ∧ e 3 = true ∧ e 4 = true ∧ e 5 = true ∧ e 6 = true ∧ True from hdn 9 q); obtain ⟨r7, -, -, -, -, -, -, -, -⟩ := (show e 7 = true ∧ e 0 = true ∧ e 1 = true ∧ e 2 = true ∧ e 3 = true ∧ e 4 = true ∧ e 5 = true ∧ e 6 = true ∧ True from hdn 8 r8); obtain ⟨-, -, -, -, -, -, -, -, r6, -⟩ := (show e 2 = true ∧ e 3 = true ∧ e 0 = true ∧ e 1 = true ∧ e 2 = true ∧ e 3 = true ∧ e 4 = true ∧ e 5 = true ∧ e 6 = true ∧ True from hdn 7 r7); exact r6
  simp only [setE, h0, h1, h4, h5, he, h7, h8, h9, cj_t, cj_f, cjn_t, cjn_f, cb_t, cb_f]
  have hidx0 : Int.toNat k < l.length := by first | omega | (simp; omega)
  refine StO (rowG ptCell default (l.set (Int.toNat k) ({ (l.getD (Int.toNat k) default) with shut := true }))) (V rfl) rfl K rfl rfl Sz4 (by decide) (show l.length = (l.set (Int.toNat k) ({ (l.getD (Int.toNat k) default) with shut := true })).length from List.length_set.symm) (set_at hidx0 rfl) (set_typed hidx0 fun t ht hne => match t, ht, hne with | 0, _, _ => rfl | 1, _, _ => rfl | 2, _, _ => rfl | 3, _, _ => rfl | 4, _, hne => absurd rfl hne) <| Nt <| We ?_ ?_
  ·exact ⟨V rfl, V rfl, V rfl, V rfl, V rfl, V rfl, Vj, Vj, V rfl, V rfl, Z⟩
  ·exact ⟨⟨_, rfl, rfl⟩, Z⟩
 ·intro e hdn he hdp
  obtain ⟨h2, h3, h0, h1, -, -, h4, h5, h6, -⟩ := (show e 2 = true ∧ e 3 = true ∧ e 0 = true ∧ e 1 = true ∧ e 2 = true ∧ e 3 = true ∧ e 4 = true ∧ e 5 = true ∧ e 6 = true ∧ True from hdp)
  have h9 : e 9 = false := fls he fun q => by obtain ⟨r8, -, -, -, -, -, -, -, -, -⟩ := (show e 8 = true ∧ e 6 = true ∧ e 0 = true ∧ e 1 = true ∧ e 2 = true ∧ e 3 = true ∧ e 4 = true ∧ e 5 = true ∧ e 6 = true ∧ True from hdn 9 q); obtain ⟨r7, -, -, -, -, -, -, -, -⟩ := (show e 7 = true ∧ e 0 = true ∧ e 1 = true ∧ e 2 = true ∧ e 3 = true ∧ e 4 = true ∧ e 5 = true ∧ e 6 = true ∧ True from hdn 8 r8); exact r7
  simp only [setE, h0, h1, h2, h3, h4, h5, h6, he, h9, cj_t, cj_f, cjn_t, cjn_f, cb_t, cb_f]
  refine U (IxO (V rfl) rfl (V rfl) ts60 te60 (by omega) (by first | omega | (simp only [List.length_set]; omega))) <| Nt <| We ?_ ?_
  ·exact ⟨V rfl, V rfl, V rfl, V rfl, V rfl, V rfl, V rfl, V rfl, V rfl, V rfl, Z⟩
  ·exact ⟨⟨_, rfl, rfl⟩, Z⟩
 ·intro e hdn he hdp
  obtain ⟨h7, h0, h1, h2, h3, h4, h5, h6, -⟩ := (show e 7 = true ∧ e 0 = true ∧ e 1 = true ∧ e 2 = true ∧ e 3 = true ∧ e 4 = true ∧ e 5 = true ∧ e 6 = true ∧ True from hdp)
  have h9 : e 9 = false := fls he fun q => by obtain ⟨r8, -, -, -, -, -, -, -, -, -⟩ := (show e 8 = true ∧ e 6 = true ∧ e 0 = true ∧ e 1 = true ∧ e 2 = true ∧ e 3 = true ∧ e 4 = true ∧ e 5 = true ∧ e 6 = true ∧ True from hdn 9 q); exact r8
  simp only [setE, h0, h1, h2, h3, h4, h5, h6, h7, he, h9, cj_t, cj_f, cjn_t, cjn_f, cb_t, cb_f]
  refine U (FlO _ _ (V rfl) Un71 rfl 0 Sz59) <| Nt <| We ?_ ?_
  ·exact ⟨V rfl, V rfl, V rfl, V rfl, V rfl, V rfl, V rfl, V rfl, V rfl, V rfl, Z⟩
  ·exact ⟨⟨_, rfl, rfl⟩, Z⟩
 ·intro e hdn he hdp
  obtain ⟨h8, h6, h0, h1, h2, h3, h4, h5, -, -⟩ := (show e 8 = true ∧ e 6 = true ∧ e 0 = true ∧ e 1 = true ∧ e 2 = true ∧ e 3 = true ∧ e 4 = true ∧ e 5 = true ∧ e 6 = true ∧ True from hdp)
  obtain ⟨h7, -, -, -, -, -, -, -, -⟩ := (show e 7 = true ∧ e 0 = true ∧ e 1 = true ∧ e 2 = true ∧ e 3 = true ∧ e 4 = true ∧ e 5 = true ∧ e 6 = true ∧ True from hdn 8 h8)
  simp only [setE, h0, h1, h2, h3, h4, h5, h6, h7, h8, he, cj_t, cj_f, cjn_t, cjn_f, cb_t, cb_f]
  have hidx1 : Int.toNat k < (l.set (Int.toNat k) ({ (l.getD (Int.toNat k) default) with shut := true })).length := by first | omega | (simp; omega)
  refine StO (rowG ptCell default ((l.set (Int.toNat k) ({ (l.getD (Int.toNat k) default) with shut := true })).set (Int.toNat k) ({ ((l.set (Int.toNat k) ({ (l.getD (Int.toNat k) default) with shut := true })).getD (Int.toNat k) default) with came := [] }))) (V rfl) rfl Vn rfl rfl Sz59 (by decide) (show (l.set (Int.toNat k) ({ (l.getD (Int.toNat k) default) with shut := true })).length = ((l.set (Int.toNat k) ({ (l.getD (Int.toNat k) default) with shut := true })).set (Int.toNat k) ({ ((l.set (Int.toNat k) ({ (l.getD (Int.toNat k) default) with shut := true })).getD (Int.toNat k) default) with came := [] })).length from List.length_set.symm) (set_at hidx1 rfl) (set_typed hidx1 fun t ht hne => match t, ht, hne with | 0, _, _ => rfl | 1, _, _ => rfl | 2, _, _ => rfl | 3, _, hne => absurd rfl hne | 4, _, _ => rfl) <| Nt <| We ?_ ?_
  ·exact ⟨V rfl, V rfl, V rfl, V rfl, V rfl, V rfl, V rfl, V rfl, V rfl, V rfl, Z⟩
  ·exact ⟨⟨_, rfl, rfl⟩, Z⟩
 ·intro e he
  have h0 := he 0 (by decide)
  have h1 := he 1 (by decide)
  have h2 := he 2 (by decide)
  have h3 := he 3 (by decide)
  have h4 := he 4 (by decide)
  have h5 := he 5 (by decide)
  have h6 := he 6 (by decide)
  have h7 := he 7 (by decide)
  have h8 := he 8 (by decide)
  have h9 := he 9 (by decide)
  show Weak _ ⟨[(4, cj (e 0) (SV.own 1000)), (5, cj (e 1) (iv (k))), (6, cj (e 2) (SV.own 1000)), (7, cj (e 3) (iv (k))), (8, cj (e 4) (SV.oe 1000 5 (Int.toNat k) 0)), (9, cj (e 5) (SV.oe 1000 5 (Int.toNat k) 4)), (10, cj (e 7) (SV.oe 1000 5 (Int.toNat k) 0)), (11, cj (e 8) (SV.oe 1000 5 (Int.toNat k) 3)), (0, SV.own 1000), (1, elB [iv (k)] 0)], (cb (e 6) (cb (e 9) [(1000, ownOf ptCell 5 default ((l.set (Int.toNat k) ({ (l.getD (Int.toNat k) default) with shut := true })).set (Int.toNat k) ({ ((l.set (Int.toNat k) ({ (l.getD (Int.toNat k) default) with shut := true })).getD (Int.toNat k) default) with came := [] })) 71)] [(1000, ownOf ptCell 5 default (l.set (Int.toNat k) ({ (l.getD (Int.toNat k) default) with shut := true })) 71)]) (cb (e 9) [] [(1000, ownOf ptCell 5 default l 71)]))⟩ _
  simp only [h0, h1, h2, h3, h4, h5, h6, h7, h8, h9]
  show Weak _ ⟨[(4, SV.own 1000), (5, iv (k)), (6, SV.own 1000), (7, iv (k)), (8, SV.oe 1000 5 (Int.toNat k) 0), (9, SV.oe 1000 5 (Int.toNat k) 4), (10, SV.oe 1000 5 (Int.toNat k) 0), (11, SV.oe 1000 5 (Int.toNat k) 3), (0, SV.own 1000), (1, elB [iv (k)] 0)], [(1000, ownOf ptCell 5 default ((l.set (Int.toNat k) ({ (l.getD (Int.toNat k) default) with shut := true })).set (Int.toNat k) ({ ((l.set (Int.toNat k) ({ (l.getD (Int.toNat k) default) with shut := true })).getD (Int.toNat k) default) with came := [] })) 71)]⟩ _
  refine We ?_ ?_
  ·exact ⟨V rfl, V rfl, V rfl, V rfl, V rfl, V rfl, V rfl, V rfl, V rfl, V rfl, Z⟩
  ·exact ⟨⟨_, rfl, rfl⟩, Z⟩
 exact Sq <| Rq <| O (As K) <| Nq <| c_ownE 1000 (shutL l (Int.toNat k)) rfl (by rfl) <| Rx <| M1 rfl (V rfl) (by exact ⟨⟨_, rfl, rfl⟩, Z⟩) (by show iv (0) = iv (0); rfl)

end Go.Proofs.Ytghkpailmdlhgaa
