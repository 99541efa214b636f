import Derived.Test.YtmcdamcedemdiaaV1
import Derived.Test.YtmcdamcedemdiaaB2
set_option linter.unusedVariables false
set_option linter.unusedSimpArgs false
namespace Go.Proofs.Ytmcdamcedemdiaa
open Go.RowKit Go.Eng
/-- glasshouse/store.check -/
theorem check_ct (n : Nd) (N : Int) (hk : n.kids.length ≤ 17592186043904) : Ct Try.prog 118 [SV.agg 8 (ndCell n), iv (N)] (iv (nodeErr N n)) := by
 refine CtO 116 Try.func118 rfl rfl rfl fun E => row_lenA 5 (V (s := 0) rfl) rfl rfl fun hl0_5 => Sq <| Rt <| BxA 1 (V rfl) rfl rfl <| U (As K) <| Nt <| Sq <| Sq <| Rq <| O (FlB _ _ (V rfl) Un61 rfl 0 Sz3) <| O (LdB (V rfl) rfl Ga3 (by decide)) <| O (Lt (V rfl) K) <| O (Mv (V rfl)) <| Og (Gn rfl rfl) (fun hg => FlB _ _ (V rfl) Un61 rfl 0 Sz3) <| Og (Gn rfl rfl) (fun hg => LdB (Vg (V rfl) hg) rfl Ga3 (by decide)) <| Og (Gn rfl rfl) (fun hg => Gt (Vg (V rfl) hg) K) <| O (Qr (V rfl) (fun h => Vg (V rfl) (notT h))) <| O (Mv (V rfl)) <| Og (Gn rfl rfl) (fun hg => FlB _ _ (V rfl) Un61 rfl 0 Sz3) <| Og (Gn rfl rfl) (fun hg => LdB (Vg (V rfl) hg) rfl Ga3 (by decide)) <| Og (Gn rfl rfl) (fun hg => Lt (Vg (V rfl) hg) K) <| O (Qr (V rfl) (fun h => Vg (V rfl) (notT h))) <| O (Mv (V rfl)) <| Og (Gn rfl rfl) (fun hg => FlB _ _ (V rfl) Un61 rfl 0 Sz3) <| Og (Gn rfl rfl) (fun hg => LdB (Vg (V rfl) hg) rfl Ga3 (by decide)) <| Og (Gn rfl rfl) (fun hg => Gt (Vg (V rfl) hg) K) <| O (Qr (V rfl) (fun h => Vg (V rfl) (notT h))) <| O (Mv (V rfl)) <| Og (Gn rfl rfl) (fun hg => FlB _ _ (V rfl) Un61 rfl 0 Sz3) <| Og (Gn rfl rfl) (fun hg => LdB (Vg (V rfl) hg) rfl Ga3 (by decide)) <| Og (Gn rfl rfl) (fun hg => Lt (Vg (V rfl) hg) K) <| O (Qr (V rfl) (fun h => Vg (V rfl) (notT h))) <| O (Mv (V rfl)) <| Og (Gn rfl rfl) (fun hg => FlB _ _ (V rfl) Un61 rfl 0 Sz3) <| Og (Gn rfl rfl) (fun hg => LdB (Vg (V rfl) hg) rfl Ga3 (by decide)) <| Og (Gn rfl rfl) (fun hg => Gt (Vg (V rfl) hg) K) <| O (Qr (V rfl) (fun h => Vg (V rfl) (notT h))) <| Nq <| Cd (V rfl) (fun hc1 => ?_) (fun hc1 => ?_)
 ·have hc1s := hc1; try simp only [BL] at hc1s
  exact Sq <| Rq <| O (As K) <| Nq <| Rx <| R1 rfl (V rfl) rfl (by show iv (2) = iv (nodeErr N n); rw [nodeErr_2 hc1])
 ·have hc1s := hc1; try simp only [BL] at hc1s
  refine Sk <| Sq <| Sq <| c_rd (fun e => ⟨[(35, cj (e 0) (SV.bp 1 5)), (36, cj (e 1) (inRow n.kids)), (37, cj (e 2) (cjn (e 8) (SV.own 2))), (38, cj (e 3) (SV.bp 1 4)), (39, cj (e 4) (iv (n.par))), (40, cj (e 5) (SV.bp 1 6)), (41, cj (e 6) (iv (n.host))), (42, cj (e 7) (inRow ([n.par, n.host]))), (43, cj (e 8) (SV.own 3)), (44, cj (e 9) (iv (((n.kids ++ ([n.par, n.host])).length : Int)))), (45, cj (e 10) (iv (0))), (1, iv (N)), (2, SV.bp 1 0)], (cb (e 2) (cb (e 8) [(1, Own.box 8 (ndCell n) 61), (3, ownOf inCell 1 0 (n.kids ++ ([n.par, n.host])) 3)] [(1, Own.box 8 (ndCell n) 61), (2, ownOf inCell 1 0 n.kids 3)]) (cb (e 8) [] [(1, Own.box 8 (ndCell n) 61)]))⟩) ⟨[(35, SV.bp 1 5), (36, inRow n.kids), (38, SV.bp 1 4), (39, iv (n.par)), (40, SV.bp 1 6), (41, iv (n.host)), (42, inRow ([n.par, n.host])), (43, SV.own 3), (44, iv (((n.kids ++ ([n.par, n.host])).length : Int))), (45, iv (0)), (1, iv (N)), (2, SV.bp 1 0)], [(1, Own.box 8 (ndCell n) 61), (3, ownOf inCell 1 0 (n.kids ++ ([n.par, n.host])) 3)]⟩ (by kernel_rfl) (by kernel_rfl) ?_ ⟨?_, ?_, ?_, ?_, ?_, ?_, ?_, ?_, ?_, ?_, ?_, Z⟩ ?_ ?_
  ·show Weak _ _ ⟨[(35, SV.junk), (36, SV.junk), (37, SV.junk), (38, SV.junk), (39, SV.junk), (40, SV.junk), (41, SV.junk), (42, SV.junk), (43, SV.junk), (44, SV.junk), (45, SV.junk), (1, iv (N)), (2, SV.bp 1 0)], [(1, Own.box 8 (ndCell n) 61)]⟩
   refine We ?_ ?_
   ·exact ⟨Vj, Vj, Vj, Vj, Vj, Vj, Vj, Vj, Vj, Vj, Vj, V rfl, V rfl, Z⟩
   ·exact ⟨⟨_, rfl, ⟨rfl, rfl, (An rfl)⟩⟩, Z⟩
  ·intro e hdn he hdp
   have h2 : e 2 = false := fls he fun q => by obtain ⟨r1, -⟩ := (show e 1 = true ∧ True from hdn 2 q); obtain ⟨r0, -⟩ := (show e 0 = true ∧ True from hdn 1 r1); exact r0
   have h8 : e 8 = false := fls he fun q => by obtain ⟨r2, -, -, -⟩ := (show e 2 = true ∧ e 7 = true ∧ e 2 = true ∧ True from hdn 8 q); obtain ⟨r1, -⟩ := (show e 1 = true ∧ True from hdn 2 r2); obtain ⟨r0, -⟩ := (show e 0 = true ∧ True from hdn 1 r1); exact r0
   simp only [setE, he, h2, h8, cj_t, cj_f, cjn_t, cjn_f, cb_t, cb_f]
   refine U (FlB _ _ (V rfl) Un61 rfl 0 Sz33) <| Nt <| We ?_ ?_
   ·exact ⟨V rfl, V rfl, Vj, V rfl, V rfl, V rfl, V rfl, V rfl, Vj, V rfl, V rfl, V rfl, V rfl, Z⟩
   ·exact ⟨⟨_, rfl, ⟨rfl, rfl, (An rfl)⟩⟩, Z⟩
  ·intro e hdn he hdp
   obtain ⟨h0, -⟩ := (show e 0 = true ∧ True from hdp)
   have h2 : e 2 = false := fls he fun q => by obtain ⟨r1, -⟩ := (show e 1 = true ∧ True from hdn 2 q); exact r1
   have h8 : e 8 = false := fls he fun q => by obtain ⟨r2, -, -, -⟩ := (show e 2 = true ∧ e 7 = true ∧ e 2 = true ∧ True from hdn 8 q); obtain ⟨r1, -⟩ := (show e 1 = true ∧ True from hdn 2 r2); exact r1
   simp only [setE, h0, he, h2, h8, cj_t, cj_f, cjn_t, cjn_f, cb_t, cb_f]
   refine U (LdB (V rfl) rfl Ga33 (by decide)) <| Nt <| We ?_ ?_
   ·exact ⟨V rfl, V rfl, Vj, V rfl, V rfl, V rfl, V rfl, V rfl, Vj, V rfl, V rfl, V rfl, V rfl, Z⟩
   ·exact ⟨⟨_, rfl, ⟨rfl, rfl, (An rfl)⟩⟩, Z⟩
  ·intro e hdn he hdp
   obtain ⟨h1, -⟩ := (show e 1 = true ∧ True from hdp)
   obtain ⟨h0, -⟩ := (show e 0 = true ∧ True from hdn 1 h1)
   have h8 : e 8 = false := fls he fun q => by obtain ⟨r2, -, -, -⟩ := (show e 2 = true ∧ e 7 = true ∧ e 2 = true ∧ True from hdn 8 q); exact r2
   simp only [setE, h0, h1, he, h8, cj_t, cj_f, cjn_t, cjn_f, cb_t, cb_f]
   refine CM (cargs := [inRow n.kids]) [] [(0, 2)] en61 (by exact ⟨(V rfl), Z⟩) (clone_ct n.kids (by first | omega | assumption)) (by exact Z) rfl (freshN_cons (fresh_mk ⟨rfl, rfl, rfl, (noId_cj rfl), (noId_cj rfl), (noId_cj rfl), (noId_cj rfl), (noId_cj rfl), rfl, (noId_cj rfl), (noId_cj rfl), rfl, rfl, Z⟩ rfl rfl) rfl rfl) rfl rfl <| Nt <| We ?_ ?_
   ·exact ⟨V rfl, V rfl, V rfl, V rfl, V rfl, V rfl, V rfl, V rfl, Vj, V rfl, V rfl, V rfl, V rfl, Z⟩
   ·exact ⟨⟨_, rfl, ⟨rfl, rfl, (An rfl)⟩⟩, ⟨_, rfl, rfl⟩, Z⟩
  ·intro e hdn he hdp
   have h8 : e 8 = false := fls he fun q => by obtain ⟨-, r7, -, -⟩ := (show e 2 = true ∧ e 7 = true ∧ e 2 = true ∧ True from hdn 8 q); obtain ⟨r4, -, -⟩ := (show e 4 = true ∧ e 6 = true ∧ True from hdn 7 r7); obtain ⟨r3, -⟩ := (show e 3 = true ∧ True from hdn 4 r4); exact r3
   simp only [setE, he, h8, cj_t, cj_f, cjn_t, cjn_f, cb_t, cb_f]
   exact U (FlB _ _ (V rfl) Un61 rfl 0 Sz3) <| Nt <| weakS ⟨V rfl, V rfl, V rfl, V rfl, V rfl, V rfl, V rfl, V rfl, Vj, V rfl, V rfl, V rfl, V rfl, Z⟩
  ·intro e hdn he hdp
   obtain ⟨h3, -⟩ := (show e 3 = true ∧ True from hdp)
   have h8 : e 8 = false := fls he fun q => by obtain ⟨-, r7, -, -⟩ := (show e 2 = true ∧ e 7 = true ∧ e 2 = true ∧ True from hdn 8 q); obtain ⟨r4, -, -⟩ := (show e 4 = true ∧ e 6 = true ∧ True from hdn 7 r7); exact r4
   cases hu2 : e 2
   ·simp only [setE, h3, he, h8, hu2, cj_t, cj_f, cjn_t, cjn_f, cb_t, cb_f]
    refine U (LdB (V rfl) rfl Ga3 (by decide)) <| Nt <| We ?_ ?_
    ·exact ⟨V rfl, V rfl, Vj, V rfl, V rfl, V rfl, V rfl, V rfl, Vj, V rfl, V rfl, V rfl, V rfl, Z⟩
    ·exact ⟨⟨_, rfl, ⟨rfl, rfl, (An rfl)⟩⟩, Z⟩
   ·simp only [setE, h3, he, h8, hu2, cj_t, cj_f, cjn_t, cjn_f, cb_t, cb_f]
    refine U (LdB (V rfl) rfl Ga3 (by decide)) <| Nt <| We ?_ ?_
    ·exact ⟨V rfl, V rfl, V rfl, V rfl, V rfl, V rfl, V rfl, V rfl, Vj, V rfl, V rfl, V rfl, V rfl, Z⟩
    ·exact ⟨⟨_, rfl, ⟨rfl, rfl, (An rfl)⟩⟩, ⟨_, rfl, rfl⟩, Z⟩
  ·intro e hdn he hdp
   have h8 : e 8 = false := fls he fun q => by obtain ⟨-, r7, -, -⟩ := (show e 2 = true ∧ e 7 = true ∧ e 2 = true ∧ True from hdn 8 q); obtain ⟨-, r6, -⟩ := (show e 4 = true ∧ e 6 = true ∧ True from hdn 7 r7); obtain ⟨r5, -⟩ := (show e 5 = true ∧ True from hdn 6 r6); exact r5
   simp only [setE, he, h8, cj_t, cj_f, cjn_t, cjn_f, cb_t, cb_f]
   exact U (FlB _ _ (V rfl) Un61 rfl 0 Sz3) <| Nt <| weakS ⟨V rfl, V rfl, V rfl, V rfl, V rfl, V rfl, V rfl, V rfl, Vj, V rfl, V rfl, V rfl, V rfl, Z⟩
  ·intro e hdn he hdp
   obtain ⟨h5, -⟩ := (show e 5 = true ∧ True from hdp)
   have h8 : e 8 = false := fls he fun q => by obtain ⟨-, r7, -, -⟩ := (show e 2 = true ∧ e 7 = true ∧ e 2 = true ∧ True from hdn 8 q); obtain ⟨-, r6, -⟩ := (show e 4 = true ∧ e 6 = true ∧ True from hdn 7 r7); exact r6
   cases hu2 : e 2
   ·simp only [setE, h5, he, h8, hu2, cj_t, cj_f, cjn_t, cjn_f, cb_t, cb_f]
    refine U (LdB (V rfl) rfl Ga3 (by decide)) <| Nt <| We ?_ ?_
    ·exact ⟨V rfl, V rfl, Vj, V rfl, V rfl, V rfl, V rfl, V rfl, Vj, V rfl, V rfl, V rfl, V rfl, Z⟩
    ·exact ⟨⟨_, rfl, ⟨rfl, rfl, (An rfl)⟩⟩, Z⟩
   ·simp only [setE, h5, he, h8, hu2, cj_t, cj_f, cjn_t, cjn_f, cb_t, cb_f]
    refine U (LdB (V rfl) rfl Ga3 (by decide)) <| Nt <| We ?_ ?_
    ·exact ⟨V rfl, V rfl, V rfl, V rfl, V rfl, V rfl, V rfl, V rfl, Vj, V rfl, V rfl, V rfl, V rfl, Z⟩
    ·exact ⟨⟨_, rfl, ⟨rfl, rfl, (An rfl)⟩⟩, ⟨_, rfl, rfl⟩, Z⟩
  ·intro e hdn he hdp
   obtain ⟨h4, h6, -⟩ := (show e 4 = true ∧ e 6 = true ∧ True from hdp)
   obtain ⟨h5, -⟩ := (show e 5 = true ∧ True from hdn 6 h6)
   obtain ⟨h3, -⟩ := (show e 3 = true ∧ True from hdn 4 h4)
   have h8 : e 8 = false := fls he fun q => by obtain ⟨-, r7, -, -⟩ := (show e 2 = true ∧ e 7 = true ∧ e 2 = true ∧ True from hdn 8 q); exact r7
   simp only [setE, h3, h4, h5, h6, he, h8, cj_t, cj_f, cjn_t, cjn_f, cb_t, cb_f]
   exact Uw (w_bs (n := 2) (zget := fun _ => iv 0) [(fun _ => iv (n.par)), (fun _ => iv (n.host))] (rowG inCell 0 [n.par, n.host]) Un33 Sz3 zero3 (by decide) rfl (by decide) ⟨⟨rfl, .inr ⟨rfl, (V rfl), rfl⟩, rfl⟩, ⟨rfl, .inr ⟨rfl, (V rfl), rfl⟩, rfl⟩, Z⟩ ⟨⟨Z, ⟨Z, rfl⟩⟩, ⟨Z, rfl⟩⟩) <| Nt <| weakS ⟨V rfl, V rfl, V rfl, V rfl, V rfl, V rfl, V rfl, V rfl, Vj, V rfl, V rfl, V rfl, V rfl, Z⟩
  ·intro e hdn he hdp
   obtain ⟨h2, h7, -, -⟩ := (show e 2 = true ∧ e 7 = true ∧ e 2 = true ∧ True from hdp)
   obtain ⟨h4, h6, -⟩ := (show e 4 = true ∧ e 6 = true ∧ True from hdn 7 h7)
   obtain ⟨h5, -⟩ := (show e 5 = true ∧ True from hdn 6 h6)
   obtain ⟨h3, -⟩ := (show e 3 = true ∧ True from hdn 4 h4)
   obtain ⟨h1, -⟩ := (show e 1 = true ∧ True from hdn 2 h2)
   obtain ⟨h0, -⟩ := (show e 0 = true ∧ True from hdn 1 h1)
   simp only [setE, h0, h1, h2, h3, h4, h5, h6, h7, he, cj_t, cj_f, cjn_t, cjn_f, cb_t, cb_f]
   refine Ap 3 (rowG inCell 0 (n.kids ++ ([n.par, n.host]))) eo33 (V rfl) rfl (V rfl) (fresh_mk ⟨rfl, rfl, rfl, rfl, rfl, rfl, rfl, rfl, rfl, (noId_cj rfl), (noId_cj rfl), rfl, rfl, Z⟩ rfl rfl) (len_app n.kids ([n.par, n.host])) (by first | (simp only [maxLen, List.length_append, List.length_set, List.length_nil, List.length_cons]; (have := hk; omega)) | (simp only [maxLen]; (have := hk; omega))) (by first | (simp only [List.length_append, List.length_set, List.length_nil, List.length_cons]; (have := hk; omega)) | ((have := hk; omega))) (app_typed (l := n.kids) (m := ([n.par, n.host]))) <| Nt <| We ?_ ?_
   ·exact ⟨V rfl, V rfl, Vj, V rfl, V rfl, V rfl, V rfl, V rfl, V rfl, val_kc rfl (V rfl), val_kc rfl (V rfl), V rfl, V rfl, Z⟩
   ·exact ⟨⟨_, rfl, ⟨rfl, rfl, (An rfl)⟩⟩, ⟨_, rfl, rfl⟩, Z⟩
  ·intro e hdn he hdp
   obtain ⟨h8, -⟩ := (show e 8 = true ∧ True from hdp)
   obtain ⟨h2, h7, -, -⟩ := (show e 2 = true ∧ e 7 = true ∧ e 2 = true ∧ True from hdn 8 h8)
   obtain ⟨h4, h6, -⟩ := (show e 4 = true ∧ e 6 = true ∧ True from hdn 7 h7)
   obtain ⟨h5, -⟩ := (show e 5 = true ∧ True from hdn 6 h6)
   obtain ⟨h3, -⟩ := (show e 3 = true ∧ True from hdn 4 h4)
   obtain ⟨h1, -⟩ := (show e 1 = true ∧ True from hdn 2 h2)
   obtain ⟨h0, -⟩ := (show e 0 = true ∧ True from hdn 1 h1)
   simp only [setE, h0, h1, h2, h3, h4, h5, h6, h7, h8, he, cj_t, cj_f, cjn_t, cjn_f, cb_t, cb_f]
   refine U (LnO (V rfl) rfl ts33) <| Nt <| We ?_ ?_
   ·exact ⟨V rfl, V rfl, Vj, V rfl, V rfl, V rfl, V rfl, V rfl, V rfl, V rfl, V rfl, V rfl, V rfl, Z⟩
   ·exact ⟨⟨_, rfl, ⟨rfl, rfl, (An rfl)⟩⟩, ⟨_, rfl, rfl⟩, Z⟩
  ·intro e hdn he hdp
   simp only [setE, he, cj_t, cj_f, cjn_t, cjn_f, cb_t, cb_f]
   exact U (Mv K) <| Nt <| weakS ⟨V rfl, V rfl, V rfl, V rfl, V rfl, V rfl, V rfl, V rfl, V rfl, V rfl, V rfl, V rfl, V rfl, Z⟩
  ·intro e he
   have h0 := he 0 (by decide)
   have h1 := he 1 (by decide)
   have h2 := he 2 (by decide)
   have h3 := he 3 (by decide)
   have h4 := he 4 (by decide)
   have h5 := he 5 (by decide)
   have h6 := he 6 (by decide)
   have h7 := he 7 (by decide)
   have h8 := he 8 (by decide)
   have h9 := he 9 (by decide)
   have h10 := he 10 (by decide)
   show Weak _ ⟨[(35, cj (e 0) (SV.bp 1 5)), (36, cj (e 1) (inRow n.kids)), (37, cj (e 2) (cjn (e 8) (SV.own 2))), (38, cj (e 3) (SV.bp 1 4)), (39, cj (e 4) (iv (n.par))), (40, cj (e 5) (SV.bp 1 6)), (41, cj (e 6) (iv (n.host))), (42, cj (e 7) (inRow ([n.par, n.host]))), (43, cj (e 8) (SV.own 3)), (44, cj (e 9) (iv (((n.kids ++ ([n.par, n.host])).length : Int)))), (45, cj (e 10) (iv (0))), (1, iv (N)), (2, SV.bp 1 0)], (cb (e 2) (cb (e 8) [(1, Own.box 8 (ndCell n) 61), (3, ownOf inCell 1 0 (n.kids ++ ([n.par, n.host])) 3)] [(1, Own.box 8 (ndCell n) 61), (2, ownOf inCell 1 0 n.kids 3)]) (cb (e 8) [] [(1, Own.box 8 (ndCell n) 61)]))⟩ _
   simp only [h0, h1, h2, h3, h4, h5, h6, h7, h8, h9, h10]
   show Weak _ ⟨[(35, SV.bp 1 5), (36, inRow n.kids), (37, SV.junk), (38, SV.bp 1 4), (39, iv (n.par)), (40, SV.bp 1 6), (41, iv (n.host)), (42, inRow ([n.par, n.host])), (43, SV.own 3), (44, iv (((n.kids ++ ([n.par, n.host])).length : Int))), (45, iv (0)), (1, iv (N)), (2, SV.bp 1 0)], [(1, Own.box 8 (ndCell n) 61), (3, ownOf inCell 1 0 (n.kids ++ ([n.par, n.host])) 3)]⟩ _
   refine We ?_ ?_
   ·exact ⟨V rfl, V rfl, V rfl, V rfl, V rfl, V rfl, V rfl, V rfl, V rfl, V rfl, V rfl, V rfl, Z⟩
   ·exact ⟨⟨_, rfl, ⟨rfl, rfl, (An rfl)⟩⟩, ⟨_, rfl, rfl⟩, Z⟩
  refine Bo <| Lo (fun (j : Nat) => ⟨[(1, iv (N)), (2, SV.bp 1 0), (43, SV.own 3), (44, iv (((n.kids ++ ([n.par, n.host])).length : Int))), (45, iv ((j : Int)))], [(1, Own.box 8 (ndCell n) 61), (3, ownOf inCell 1 0 (n.kids ++ ([n.par, n.host])) 3)]⟩) (fun (j : Nat) => j ≤ (n.kids ++ [n.par, n.host]).length ∧ ∀ q, q < j → whoBad N ((n.kids ++ [n.par, n.host]).getD q 0) = false) (fun (j : Nat) => (n.kids ++ [n.par, n.host]).length - j) 0 (by show 0 ≤ (n.kids ++ [n.par, n.host]).length ∧ ∀ q, q < 0 → whoBad N ((n.kids ++ [n.par, n.host]).getD q 0) = false; exact ⟨Nat.zero_le _, fun q hq => absurd hq (Nat.not_lt_zero _)⟩) (We (ow := [(1, Own.box 8 (ndCell n) 61), (3, ownOf inCell 1 0 (n.kids ++ ([n.par, n.host])) 3)]) (Vs rfl) (by exact ⟨⟨_, rfl, rfl, rfl, (An rfl)⟩, ⟨_, rfl, rfl⟩, Z⟩)) <| ?_
  ·rintro j hI1
   have hJ1 : j ≤ (n.kids ++ [n.par, n.host]).length ∧ ∀ q, q < j → whoBad N ((n.kids ++ [n.par, n.host]).getD q 0) = false := hI1
   have hj1 := hJ1.1
   have hall := hJ1.2
   refine Sq <| Rq <| O (Lt (V rfl) (V rfl)) <| Nq <| Sq <| Cd (V rfl) (fun hc2 => ?_) (fun hc2 => ?_)
   ·have hc2s := hc2; try simp only [BL] at hc2s
    refine Sk <| Sq <| Bo <| Sq <| Rq <| O (IOn (i := j) (V rfl) rfl (V rfl) ts33 te33 (by clear hall hJ1 hI1; omega)) <| O (LdO (V rfl) rfl Ga3 (by decide)) <| O (As (V rfl)) <| Nq <| Sq <| Rq <| O (Mv (V rfl)) <| O (Lt (V rfl) K) <| O (Mv (V rfl)) <| Og (Gn rfl rfl) (fun hg => Mv (V rfl)) <| Og (Gn rfl rfl) (fun hg => Mv (V rfl)) <| Og (Gn rfl rfl) (fun hg => Ge (Vg (V rfl) hg) (Vg (V rfl) hg)) <| O (Qr (V rfl) (fun h => Vg (V rfl) (notT h))) <| Nq <| Cd (V rfl) (fun hc3 => ?_) (fun hc3 => ?_)
    ·have hc3s := hc3; try simp only [BL] at hc3s
     exact Sq <| Rq <| O (As K) <| Nq <| Rx <| R1 rfl (V rfl) rfl (by show iv (4) = iv (nodeErr N n); rw [nodeErr_4 hc1 (mem_getD (by clear hall hJ1 hI1; omega)) hc3])
    ·have hc3s := hc3; try simp only [BL] at hc3s
     exact Sk <| Rq <| O (Ad (V rfl) K (by clear hall hJ1 hI1; simp only [List.length_append, List.length_cons, List.length_nil] at *; omega)) <| O (Mv (V rfl)) <| Nq <| Nx (j + 1) (by show (j + 1) ≤ (n.kids ++ [n.par, n.host]).length ∧ ∀ q, q < (j + 1) → whoBad N ((n.kids ++ [n.par, n.host]).getD q 0) = false; exact ⟨by clear hall hJ1 hI1; omega, idxF_s hall hc3⟩) (by show (n.kids ++ [n.par, n.host]).length - (j + 1) < (n.kids ++ [n.par, n.host]).length - j; clear hall hJ1 hI1; omega) (We (ow := [(1, Own.box 8 (ndCell n) 61), (3, ownOf inCell 1 0 (n.kids ++ ([n.par, n.host])) 3)]) (Vs rfl) (by exact ⟨⟨_, rfl, rfl, rfl, (An rfl)⟩, ⟨_, rfl, rfl⟩, Z⟩))
   ·have hc2s := hc2; try simp only [BL] at hc2s
    have hw := who_all hall (by clear hall hJ1 hI1; omega)
    refine Ex <| Sq <| Sq <| Rq <| O (FlB _ _ (V rfl) Un61 rfl 0 Sz4) <| O (LdB (V rfl) rfl Ga4 (by decide)) <| O (Qo (V rfl)) <| O (Mv (V rfl)) <| Og (Gy rfl rfl) (fun hg => FlB _ _ (V rfl) Un61 rfl 0 Sz3) <| Og (Gy rfl rfl) (fun hg => LdB (Vg (V rfl) hg) rfl Ga3 (by decide)) <| Og (Gy rfl rfl) (fun hg => Qn (Vg (V rfl) hg) K) <| Og (Gy rfl rfl) (fun hg => Mv (Vg (V rfl) hg)) <| Og (Gyn rfl rfl) (fun hg => FlB _ _ (V rfl) Un61 rfl 0 Sz3) <| Og (Gyn rfl rfl) (fun hg => LdB (Vg (V rfl) hg) rfl Ga3 (by decide)) <| Og (Gyn rfl rfl) (fun hg => Qn (Vg (V rfl) hg) K) <| Og (Gy rfl rfl) (fun hg => Qr (Vg (V rfl) hg) (fun h => Vg (V rfl) (andI hg (notT h)))) <| Og (Gy rfl rfl) (fun hg => Mv (Vg (V rfl) hg)) <| Og (Gyn rfl rfl) (fun hg => FlB _ _ (V rfl) Un61 rfl 0 Sz3) <| Og (Gyn rfl rfl) (fun hg => LdB (Vg (V rfl) hg) rfl Ga3 (by decide)) <| Og (Gyn rfl rfl) (fun hg => Qn (Vg (V rfl) hg) K) <| Og (Gy rfl rfl) (fun hg => Qr (Vg (V rfl) hg) (fun h => Vg (V rfl) (andI hg (notT h)))) <| Og (Gy rfl rfl) (fun hg => Mv (Vg (V rfl) hg)) <| Og (Gyn rfl rfl) (fun hg => FlB _ _ (V rfl) Un61 rfl 0 Sz3) <| Og (Gyn rfl rfl) (fun hg => LdB (Vg (V rfl) hg) rfl Ga3 (by decide)) <| Og (Gyn rfl rfl) (fun hg => Qn (Vg (V rfl) hg) K) <| Og (Gy rfl rfl) (fun hg => Qr (Vg (V rfl) hg) (fun h => Vg (V rfl) (andI hg (notT h)))) <| Og (Gy rfl rfl) (fun hg => Mv (Vg (V rfl) hg)) <| Og (Gyn rfl rfl) (fun hg => FlB _ _ (V rfl) Un61 rfl 0 Sz4) <| Og (Gyn rfl rfl) (fun hg => LdB (Vg (V rfl) hg) rfl Ga4 (by decide)) <| Og (Gy rfl rfl) (fun hg => Qr (Vg (V rfl) hg) (fun h => Vg (V rfl) (andI hg (notT h)))) <| Og (Gy rfl rfl) (fun hg => Mv (Vg (V rfl) hg)) <| Og (Gyn rfl rfl) (fun hg => FlB _ _ (V rfl) Un61 rfl 0 Sz33) <| Og (Gyn rfl rfl) (fun hg => LdB (Vg (V rfl) hg) rfl Ga33 (by decide)) <| Og (Gyn rfl rfl) (fun hg => Ln (Vg (V rfl) hg) ts33) <| Og (Gyn rfl rfl) (fun hg => Gt (Vg (V rfl) hg) K) <| Og (Gy rfl rfl) (fun hg => Qr (Vg (V rfl) hg) (fun h => Vg (V rfl) (andI hg (notT h)))) <| O (Qa (V rfl) (fun h => Vg (V rfl) h)) <| O (Mv (V rfl)) <| Og (Gn rfl rfl) (fun hg => FlB _ _ (V rfl) Un61 rfl 0 Sz4) <| Og (Gn rfl rfl) (fun hg => LdB (Vg (V rfl) hg) rfl Ga4 (by decide)) <| ?_
    refine Og (Gn rfl rfl) (fun hg => Mv (Vg (V rfl) hg)) <| Og (Gyy rfl rfl) (fun hg => FlB _ _ (V rfl) Un61 rfl 0 Sz3) <| Og (Gyy rfl rfl) (fun hg => LdB (Vg (V rfl) hg) rfl Ga3 (by decide)) <| Og (Gyy rfl rfl) (fun hg => Ql (Vg (V rfl) hg) K) <| Og (Gn rfl rfl) (fun hg => Qa (Vg (V rfl) hg) (fun h => Vg (V rfl) (andI hg h))) <| O (Qr (V rfl) (fun h => Vg (V rfl) (notT h))) <| Nq <| Cd (V rfl) (fun hc4 => ?_) (fun hc4 => ?_)
    ·have hc4s := hc4; try simp only [BL] at hc4s
     have hw := who_all hall (by clear hall hJ1 hI1; omega)
     exact Sq <| Rq <| O (As K) <| Nq <| Rx <| R1 rfl (V rfl) rfl (by show iv (3) = iv (nodeErr N n); rw [nodeErr_3 hc1 hw hc4])
    ·have hc4s := hc4; try simp only [BL] at hc4s
     refine Sk <| Sq <| Sq <| Rq <| O (FlB _ _ (V rfl) Un61 rfl 0 Sz3) <| O (LdB (V rfl) rfl Ga3 (by decide)) <| O (Lt (V rfl) K) <| O (Mv (V rfl)) <| Og (Gy rfl rfl) (fun hg => FlB _ _ (V rfl) Un61 rfl 0 Sz4) <| Og (Gy rfl rfl) (fun hg => LdB (Vg (V rfl) hg) rfl Ga4 (by decide)) <| O (Qa (V rfl) (fun h => Vg (V rfl) h)) <| O (Mv (V rfl)) <| Og (Gn rfl rfl) (fun hg => FlB _ _ (V rfl) Un61 rfl 0 Sz3) <| Og (Gn rfl rfl) (fun hg => LdB (Vg (V rfl) hg) rfl Ga3 (by decide)) <| Og (Gn rfl rfl) (fun hg => Ge (Vg (V rfl) hg) K) <| Og (Gn rfl rfl) (fun hg => Mv (Vg (V rfl) hg)) <| Og (Gyy rfl rfl) (fun hg => FlB _ _ (V rfl) Un61 rfl 0 Sz3) <| Og (Gyy rfl rfl) (fun hg => LdB (Vg (V rfl) hg) rfl Ga3 (by decide)) <| Og (Gyy rfl rfl) (fun hg => Ge (Vg (V rfl) hg) K) <| Og (Gn rfl rfl) (fun hg => Qa (Vg (V rfl) hg) (fun h => Vg (V rfl) (andI hg h))) <| O (Qr (V rfl) (fun h => Vg (V rfl) (notT h))) <| Nq <| Cd (V rfl) (fun hc5 => ?_) (fun hc5 => ?_)
     ·have hc5s := hc5; try simp only [BL] at hc5s
      exact Sq <| Rq <| O (As K) <| Nq <| Rx <| R1 rfl (V rfl) rfl (by show iv (3) = iv (nodeErr N n); rw [nodeErr_3' hc1 hw hc5])
     ·have hc5s := hc5; try simp only [BL] at hc5s
      exact Sk <| Sq <| Rq <| O (As K) <| Nq <| Rx <| R1 rfl (V rfl) rfl (by show iv (0) = iv (nodeErr N n); rw [nodeErr_0 hc1 hw hc4 hc5])

end Go.Proofs.Ytmcdamcedemdiaa
