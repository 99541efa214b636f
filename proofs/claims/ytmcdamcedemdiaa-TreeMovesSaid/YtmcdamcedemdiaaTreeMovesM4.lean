/- What the proof of TreeMoves rests on, part 4: the engine, the walks, the plain laws. -/
import Derived.Test.YtmcdamcedemdiaaTreeMovesM3
set_option linter.unusedVariables false
set_option linter.unusedSimpArgs false
namespace Go.Proofs.Ytmcdamcedemdiaa
open Go.RowKit Go.Eng
theorem insert_ct (l : List Nd) (p c : Hd) (ah : List Hd) (hb : ∀ n ∈ l, n.kids.length ≤ 17592186043904) : Ct Try.prog 56 [SV.agg 1 (stG l), SV.agg 2 (hdCell p), SV.agg 2 (hdCell c), hdRow ah] (sv2 (SV.agg 1 (stG (insSt l p c ah).1)) (iv (insSt l p c ah).2)) := by
 refine CtO 124 Try.func56 rfl rfl rfl fun E => row_lenA 0 (V (s := 0) rfl) rfl rfl fun hl0_0 => Rl (V (s := 3) rfl) fun hl3 => Sq <| Rt <| BxA 1 (V rfl) rfl rfl <| BxA 2 (V rfl) rfl rfl <| BxA 3 (V rfl) rfl rfl <| Al 4 zero24 rfl rfl <| U (As K) <| Nt <| Sq <| Sq <| Rq <| O (Mv (V rfl)) <| O (Ln (V rfl) ts80) <| O (Gt (V rfl) K) <| Nq <| Cd (V rfl) (fun hc1 => ?_) (fun hc1 => ?_)
 ·have hc1s := hc1; try simp only [BL] at hc1s
  exact Sq <| Rt <| U (Bu [] id (cmpG [SV.v (Value.slice none 0 0)]) zero24 build24 (by exact Z) (by decide) ⟨Z, rfl⟩) <| StA (V rfl) rfl (V rfl) Sz24 <| U (As K) <| Nt <| Rx <| RR2 rfl (rv_aggI (g' := stG ([])) (rv_cell (V rfl) rfl Ga24 Sz24) ⟨Z, In⟩) (rv_tmp (V rfl)) rfl rfl (by show sv2 (SV.agg 1 (stG ([]))) (iv (3)) = sv2 (SV.agg 1 (stG (insSt l p c ah).1)) (iv (insSt l p c ah).2); rw [ins_1 (by omega)])
 ·have hc1s := hc1; try simp only [BL] at hc1s
  refine Sk <| Sq <| Sq <| c_rd (fun e => ⟨[(18, cj (e 0) (SV.agg 1 (fun zi => (stG l) (0 + zi)))), (19, cj (e 1) (SV.agg 2 (fun zi => (hdCell p) (0 + zi)))), (20, cj (e 2) (SV.agg 2 (fun zi => (hdCell c) (0 + zi)))), (21, cj (e 3) (cjn (e 5) (SV.own 5))), (22, cj (e 4) (hdRow ah)), (23, cj (e 5) (SV.own 6)), (24, cj (e 6) (iv (firstSt l (([⟨p.pl, p.use⟩, ⟨c.pl, c.use⟩]) ++ ah)))), (10, cj (e 7) (iv (firstSt l (([⟨p.pl, p.use⟩, ⟨c.pl, c.use⟩]) ++ ah)))), (3, hdRow ah), (4, SV.bp 1 0), (5, SV.bp 2 0), (6, SV.bp 3 0), (8, SV.bp 4 0)], (cb (e 3) (cb (e 5) [(1, Own.box 1 (stG l) 24), (2, Own.box 2 (hdCell p) 26), (3, Own.box 2 (hdCell c) 26), (4, Own.box 1 (cmpG [SV.v (Value.slice none 0 0)]) 24), (6, ownOf hdCell 2 default (([⟨p.pl, p.use⟩, ⟨c.pl, c.use⟩]) ++ ah) 26)] [(1, Own.box 1 (stG l) 24), (2, Own.box 2 (hdCell p) 26), (3, Own.box 2 (hdCell c) 26), (4, Own.box 1 (cmpG [SV.v (Value.slice none 0 0)]) 24), (5, ownOf hdCell 2 default ([⟨p.pl, p.use⟩, ⟨c.pl, c.use⟩]) 26)]) (cb (e 5) [] [(1, Own.box 1 (stG l) 24), (2, Own.box 2 (hdCell p) 26), (3, Own.box 2 (hdCell c) 26), (4, Own.box 1 (cmpG [SV.v (Value.slice none 0 0)]) 24)]))⟩) ⟨[(18, SV.agg 1 (fun zi => (stG l) (0 + zi))), (19, SV.agg 2 (fun zi => (hdCell p) (0 + zi))), (20, SV.agg 2 (fun zi => (hdCell c) (0 + zi))), (22, hdRow ah), (23, SV.own 6), (24, iv (firstSt l (([⟨p.pl, p.use⟩, ⟨c.pl, c.use⟩]) ++ ah))), (10, iv (firstSt l (([⟨p.pl, p.use⟩, ⟨c.pl, c.use⟩]) ++ ah))), (3, hdRow ah), (4, SV.bp 1 0), (5, SV.bp 2 0), (6, SV.bp 3 0), (8, SV.bp 4 0)], [(1, Own.box 1 (stG l) 24), (2, Own.box 2 (hdCell p) 26), (3, Own.box 2 (hdCell c) 26), (4, Own.box 1 (cmpG [SV.v (Value.slice none 0 0)]) 24), (6, ownOf hdCell 2 default (([⟨p.pl, p.use⟩, ⟨c.pl, c.use⟩]) ++ ah) 26)]⟩ (by kernel_rfl) (by kernel_rfl) ?_ ⟨?_, ?_, ?_, ?_, ?_, ?_, ?_, ?_, Z⟩ ?_ ?_
  ·show Weak _ _ ⟨[(18, SV.junk), (19, SV.junk), (20, SV.junk), (21, SV.junk), (22, SV.junk), (23, SV.junk), (24, SV.junk), (10, SV.junk), (3, hdRow ah), (4, SV.bp 1 0), (5, SV.bp 2 0), (6, SV.bp 3 0), (8, SV.bp 4 0)], [(1, Own.box 1 (stG l) 24), (2, Own.box 2 (hdCell p) 26), (3, Own.box 2 (hdCell c) 26), (4, Own.box 1 (cmpG [SV.v (Value.slice none 0 0)]) 24)]⟩
   refine We ?_ ?_
   ·exact ⟨Vj, Vj, Vj, Vj, Vj, Vj, Vj, Vj, V rfl, V rfl, V rfl, V rfl, V rfl, Z⟩
   ·exact ⟨⟨_, rfl, ⟨rfl, rfl, (An rfl)⟩⟩, ⟨_, rfl, ⟨rfl, rfl, (An rfl)⟩⟩, ⟨_, rfl, ⟨rfl, rfl, (An rfl)⟩⟩, ⟨_, rfl, ⟨rfl, rfl, (An rfl)⟩⟩, Z⟩
  ·intro e hdn he hdp
   cases hu3 : e 3
   ·have h5 : e 5 = false := fls hu3 fun q => by obtain ⟨r3, -, -⟩ := (show e 3 = true ∧ e 4 = true ∧ True from hdn 5 q); exact r3
    simp only [setE, he, hu3, h5, cj_t, cj_f, cjn_t, cjn_f, cb_t, cb_f]
    refine U (LBA (V rfl) rfl Ga24 Sz24 (by decide)) <| Nt <| We ?_ ?_
    ·exact ⟨V rfl, V rfl, V rfl, Vj, V rfl, Vj, V rfl, V rfl, V rfl, V rfl, V rfl, V rfl, V rfl, Z⟩
    ·exact ⟨⟨_, rfl, ⟨rfl, rfl, (An rfl)⟩⟩, ⟨_, rfl, ⟨rfl, rfl, (An rfl)⟩⟩, ⟨_, rfl, ⟨rfl, rfl, (An rfl)⟩⟩, ⟨_, rfl, ⟨rfl, rfl, (An rfl)⟩⟩, Z⟩
   ·cases hu5 : e 5
    ·simp only [setE, he, hu3, hu5, cj_t, cj_f, cjn_t, cjn_f, cb_t, cb_f]
     refine U (LBA (V rfl) rfl Ga24 Sz24 (by decide)) <| Nt <| We ?_ ?_
     ·exact ⟨V rfl, V rfl, V rfl, V rfl, V rfl, Vj, V rfl, V rfl, V rfl, V rfl, V rfl, V rfl, V rfl, Z⟩
     ·exact ⟨⟨_, rfl, ⟨rfl, rfl, (An rfl)⟩⟩, ⟨_, rfl, ⟨rfl, rfl, (An rfl)⟩⟩, ⟨_, rfl, ⟨rfl, rfl, (An rfl)⟩⟩, ⟨_, rfl, ⟨rfl, rfl, (An rfl)⟩⟩, ⟨_, rfl, rfl⟩, Z⟩
    ·simp only [setE, he, hu3, hu5, cj_t, cj_f, cjn_t, cjn_f, cb_t, cb_f]
     refine U (LBA (V rfl) rfl Ga24 Sz24 (by decide)) <| Nt <| We ?_ ?_
     ·exact ⟨V rfl, V rfl, V rfl, Vj, V rfl, V rfl, V rfl, V rfl, V rfl, V rfl, V rfl, V rfl, V rfl, Z⟩
     ·exact ⟨⟨_, rfl, ⟨rfl, rfl, (An rfl)⟩⟩, ⟨_, rfl, ⟨rfl, rfl, (An rfl)⟩⟩, ⟨_, rfl, ⟨rfl, rfl, (An rfl)⟩⟩, ⟨_, rfl, ⟨rfl, rfl, (An rfl)⟩⟩, ⟨_, rfl, rfl⟩, Z⟩
  ·intro e hdn he hdp
   have h3 : e 3 = false := fls he fun q => by obtain ⟨r1, -, -⟩ := (show e 1 = true ∧ e 2 = true ∧ True from hdn 3 q); exact r1
   have h5 : e 5 = false := fls he fun q => by obtain ⟨r3, -, -⟩ := (show e 3 = true ∧ e 4 = true ∧ True from hdn 5 q); obtain ⟨r1, -, -⟩ := (show e 1 = true ∧ e 2 = true ∧ True from hdn 3 r3); exact r1
   simp only [setE, he, h3, h5, cj_t, cj_f, cjn_t, cjn_f, cb_t, cb_f]
   refine U (LBA (V rfl) rfl Ga26 Sz26 (by decide)) <| Nt <| We ?_ ?_
   ·exact ⟨V rfl, V rfl, V rfl, Vj, V rfl, Vj, V rfl, V rfl, V rfl, V rfl, V rfl, V rfl, V rfl, Z⟩
   ·exact ⟨⟨_, rfl, ⟨rfl, rfl, (An rfl)⟩⟩, ⟨_, rfl, ⟨rfl, rfl, (An rfl)⟩⟩, ⟨_, rfl, ⟨rfl, rfl, (An rfl)⟩⟩, ⟨_, rfl, ⟨rfl, rfl, (An rfl)⟩⟩, Z⟩
  ·intro e hdn he hdp
   have h3 : e 3 = false := fls he fun q => by obtain ⟨-, r2, -⟩ := (show e 1 = true ∧ e 2 = true ∧ True from hdn 3 q); exact r2
   have h5 : e 5 = false := fls he fun q => by obtain ⟨r3, -, -⟩ := (show e 3 = true ∧ e 4 = true ∧ True from hdn 5 q); obtain ⟨-, r2, -⟩ := (show e 1 = true ∧ e 2 = true ∧ True from hdn 3 r3); exact r2
   simp only [setE, he, h3, h5, cj_t, cj_f, cjn_t, cjn_f, cb_t, cb_f]
   refine U (LBA (V rfl) rfl Ga26 Sz26 (by decide)) <| Nt <| We ?_ ?_
   ·exact ⟨V rfl, V rfl, V rfl, Vj, V rfl, Vj, V rfl, V rfl, V rfl, V rfl, V rfl, V rfl, V rfl, Z⟩
   ·exact ⟨⟨_, rfl, ⟨rfl, rfl, (An rfl)⟩⟩, ⟨_, rfl, ⟨rfl, rfl, (An rfl)⟩⟩, ⟨_, rfl, ⟨rfl, rfl, (An rfl)⟩⟩, ⟨_, rfl, ⟨rfl, rfl, (An rfl)⟩⟩, Z⟩
  ·intro e hdn he hdp
   obtain ⟨h1, h2, -⟩ := (show e 1 = true ∧ e 2 = true ∧ True from hdp)
   have h5 : e 5 = false := fls he fun q => by obtain ⟨r3, -, -⟩ := (show e 3 = true ∧ e 4 = true ∧ True from hdn 5 q); exact r3
   simp only [setE, h1, h2, he, h5, cj_t, cj_f, cjn_t, cjn_f, cb_t, cb_f]
   refine t_bsO 5 (n := 2) (zget := cmpG [iv (0), iv (0)]) [(fun zi => (hdCell p) (0 + zi)), (fun zi => (hdCell c) (0 + zi))] (rowG hdCell default [⟨p.pl, p.use⟩, ⟨c.pl, c.use⟩]) Un80 Sz26 zero26 (by decide) (by decide) rfl (by decide) ⟨⟨rfl, .inl (V rfl), rfl⟩, ⟨rfl, .inl (V rfl), rfl⟩, Z⟩ ⟨⟨Z, ⟨⟨Z, rfl⟩, rfl⟩⟩, ⟨⟨Z, rfl⟩, rfl⟩⟩ (fresh_mk ⟨(noId_cj rfl), rfl, rfl, rfl, (noId_cj rfl), rfl, (noId_cj rfl), (noId_cj rfl), rfl, rfl, rfl, rfl, rfl, Z⟩ rfl rfl) <| Nt <| We ?_ ?_
   ·exact ⟨V rfl, V rfl, V rfl, V rfl, V rfl, Vj, V rfl, V rfl, V rfl, V rfl, V rfl, V rfl, V rfl, Z⟩
   ·exact ⟨⟨_, rfl, ⟨rfl, rfl, (An rfl)⟩⟩, ⟨_, rfl, ⟨rfl, rfl, (An rfl)⟩⟩, ⟨_, rfl, ⟨rfl, rfl, (An rfl)⟩⟩, ⟨_, rfl, ⟨rfl, rfl, (An rfl)⟩⟩, ⟨_, rfl, rfl⟩, Z⟩
  ·intro e hdn he hdp
   have h5 : e 5 = false := fls he fun q => by obtain ⟨-, r4, -⟩ := (show e 3 = true ∧ e 4 = true ∧ True from hdn 5 q); exact r4
   simp only [setE, he, h5, cj_t, cj_f, cjn_t, cjn_f, cb_t, cb_f]
   exact U (Mv (V rfl)) <| Nt <| weakS ⟨V rfl, V rfl, V rfl, V rfl, V rfl, Vj, V rfl, V rfl, V rfl, V rfl, V rfl, V rfl, V rfl, Z⟩
  ·intro e hdn he hdp
   obtain ⟨h3, h4, -⟩ := (show e 3 = true ∧ e 4 = true ∧ True from hdp)
   obtain ⟨h1, h2, -⟩ := (show e 1 = true ∧ e 2 = true ∧ True from hdn 3 h3)
   simp only [setE, h1, h2, h3, h4, he, cj_t, cj_f, cjn_t, cjn_f, cb_t, cb_f]
   refine Ap 6 (rowG hdCell default (([⟨p.pl, p.use⟩, ⟨c.pl, c.use⟩]) ++ ah)) eo80 (V rfl) rfl (V rfl) (fresh_mk ⟨(noId_cj rfl), rfl, rfl, rfl, rfl, rfl, (noId_cj rfl), (noId_cj rfl), rfl, rfl, rfl, rfl, rfl, Z⟩ rfl rfl) (len_app ([⟨p.pl, p.use⟩, ⟨c.pl, c.use⟩]) ah) (by first | (simp only [maxLen, List.length_append, List.length_set, List.length_nil, List.length_cons]; omega) | (simp only [maxLen]; omega)) (by first | (simp only [List.length_append, List.length_set, List.length_nil, List.length_cons]; omega) | (omega)) (app_typed (l := ([⟨p.pl, p.use⟩, ⟨c.pl, c.use⟩])) (m := ah)) <| Nt <| We ?_ ?_
   ·exact ⟨val_kc rfl (V rfl), V rfl, V rfl, Vj, V rfl, V rfl, val_kc rfl (V rfl), val_kc rfl (V rfl), V rfl, V rfl, V rfl, V rfl, V rfl, Z⟩
   ·exact ⟨⟨_, rfl, ⟨rfl, rfl, (An rfl)⟩⟩, ⟨_, rfl, ⟨rfl, rfl, (An rfl)⟩⟩, ⟨_, rfl, ⟨rfl, rfl, (An rfl)⟩⟩, ⟨_, rfl, ⟨rfl, rfl, (An rfl)⟩⟩, ⟨_, rfl, rfl⟩, Z⟩
  ·intro e hdn he hdp
   obtain ⟨h0, h5, -, -⟩ := (show e 0 = true ∧ e 5 = true ∧ e 5 = true ∧ True from hdp)
   obtain ⟨h3, h4, -⟩ := (show e 3 = true ∧ e 4 = true ∧ True from hdn 5 h5)
   obtain ⟨h1, h2, -⟩ := (show e 1 = true ∧ e 2 = true ∧ True from hdn 3 h3)
   simp only [setE, h0, h1, h2, h3, h4, h5, he, cj_t, cj_f, cjn_t, cjn_f, cb_t, cb_f]
   refine CTb en125 (by exact ⟨(vb_ro (Vi (g' := stG l) (V rfl) ⟨Z, Ir⟩) rfl), (vb_own (V rfl) rfl), Z⟩) (both_ct l (([⟨p.pl, p.use⟩, ⟨c.pl, c.use⟩]) ++ ah) (by first | assumption | exact kb_nil | exact kb_of (by assumption))) <| Nt <| We ?_ ?_
   ·exact ⟨V rfl, V rfl, V rfl, Vj, V rfl, V rfl, V rfl, V rfl, V rfl, V rfl, V rfl, V rfl, V rfl, Z⟩
   ·exact ⟨⟨_, rfl, ⟨rfl, rfl, (An rfl)⟩⟩, ⟨_, rfl, ⟨rfl, rfl, (An rfl)⟩⟩, ⟨_, rfl, ⟨rfl, rfl, (An rfl)⟩⟩, ⟨_, rfl, ⟨rfl, rfl, (An rfl)⟩⟩, ⟨_, rfl, rfl⟩, Z⟩
  ·intro e hdn he hdp
   obtain ⟨h6, -, h0, h1, h2, h3, h4, h5, -, -⟩ := (show e 6 = true ∧ e 6 = true ∧ e 0 = true ∧ e 1 = true ∧ e 2 = true ∧ e 3 = true ∧ e 4 = true ∧ e 5 = true ∧ e 6 = true ∧ True from hdp)
   simp only [setE, h0, h1, h2, h3, h4, h5, h6, he, cj_t, cj_f, cjn_t, cjn_f, cb_t, cb_f]
   refine U (As (V rfl)) <| Nt <| We ?_ ?_
   ·exact ⟨V rfl, V rfl, V rfl, Vj, V rfl, V rfl, V rfl, V rfl, V rfl, V rfl, V rfl, V rfl, V rfl, Z⟩
   ·exact ⟨⟨_, rfl, ⟨rfl, rfl, (An rfl)⟩⟩, ⟨_, rfl, ⟨rfl, rfl, (An rfl)⟩⟩, ⟨_, rfl, ⟨rfl, rfl, (An rfl)⟩⟩, ⟨_, rfl, ⟨rfl, rfl, (An rfl)⟩⟩, ⟨_, rfl, rfl⟩, Z⟩
  ·intro e he
   have h0 := he 0 (by decide)
   have h1 := he 1 (by decide)
   have h2 := he 2 (by decide)
   have h3 := he 3 (by decide)
   have h4 := he 4 (by decide)
   have h5 := he 5 (by decide)
   have h6 := he 6 (by decide)
   have h7 := he 7 (by decide)
   show Weak _ ⟨[(18, cj (e 0) (SV.agg 1 (fun zi => (stG l) (0 + zi)))), (19, cj (e 1) (SV.agg 2 (fun zi => (hdCell p) (0 + zi)))), (20, cj (e 2) (SV.agg 2 (fun zi => (hdCell c) (0 + zi)))), (21, cj (e 3) (cjn (e 5) (SV.own 5))), (22, cj (e 4) (hdRow ah)), (23, cj (e 5) (SV.own 6)), (24, cj (e 6) (iv (firstSt l (([⟨p.pl, p.use⟩, ⟨c.pl, c.use⟩]) ++ ah)))), (10, cj (e 7) (iv (firstSt l (([⟨p.pl, p.use⟩, ⟨c.pl, c.use⟩]) ++ ah)))), (3, hdRow ah), (4, SV.bp 1 0), (5, SV.bp 2 0), (6, SV.bp 3 0), (8, SV.bp 4 0)], (cb (e 3) (cb (e 5) [(1, Own.box 1 (stG l) 24), (2, Own.box 2 (hdCell p) 26), (3, Own.box 2 (hdCell c) 26), (4, Own.box 1 (cmpG [SV.v (Value.slice none 0 0)]) 24), (6, ownOf hdCell 2 default (([⟨p.pl, p.use⟩, ⟨c.pl, c.use⟩]) ++ ah) 26)] [(1, Own.box 1 (stG l) 24), (2, Own.box 2 (hdCell p) 26), (3, Own.box 2 (hdCell c) 26), (4, Own.box 1 (cmpG [SV.v (Value.slice none 0 0)]) 24), (5, ownOf hdCell 2 default ([⟨p.pl, p.use⟩, ⟨c.pl, c.use⟩]) 26)]) (cb (e 5) [] [(1, Own.box 1 (stG l) 24), (2, Own.box 2 (hdCell p) 26), (3, Own.box 2 (hdCell c) 26), (4, Own.box 1 (cmpG [SV.v (Value.slice none 0 0)]) 24)]))⟩ _
   simp only [h0, h1, h2, h3, h4, h5, h6, h7]
   show Weak _ ⟨[(18, SV.agg 1 (fun zi => (stG l) (0 + zi))), (19, SV.agg 2 (fun zi => (hdCell p) (0 + zi))), (20, SV.agg 2 (fun zi => (hdCell c) (0 + zi))), (21, SV.junk), (22, hdRow ah), (23, SV.own 6), (24, iv (firstSt l (([⟨p.pl, p.use⟩, ⟨c.pl, c.use⟩]) ++ ah))), (10, iv (firstSt l (([⟨p.pl, p.use⟩, ⟨c.pl, c.use⟩]) ++ ah))), (3, hdRow ah), (4, SV.bp 1 0), (5, SV.bp 2 0), (6, SV.bp 3 0), (8, SV.bp 4 0)], [(1, Own.box 1 (stG l) 24), (2, Own.box 2 (hdCell p) 26), (3, Own.box 2 (hdCell c) 26), (4, Own.box 1 (cmpG [SV.v (Value.slice none 0 0)]) 24), (6, ownOf hdCell 2 default (([⟨p.pl, p.use⟩, ⟨c.pl, c.use⟩]) ++ ah) 26)]⟩ _
   refine We ?_ ?_
   ·exact ⟨Va (V rfl) (An rfl), Va (V rfl) (An rfl), Va (V rfl) (An rfl), V rfl, V rfl, V rfl, V rfl, V rfl, V rfl, V rfl, V rfl, V rfl, Z⟩
   ·exact ⟨⟨_, rfl, ⟨rfl, rfl, (An rfl)⟩⟩, ⟨_, rfl, ⟨rfl, rfl, (An rfl)⟩⟩, ⟨_, rfl, ⟨rfl, rfl, (An rfl)⟩⟩, ⟨_, rfl, ⟨rfl, rfl, (An rfl)⟩⟩, ⟨_, rfl, rfl⟩, Z⟩
  refine Sq <| Rq <| O (Mv (V rfl)) <| O (Qn (V rfl) K) <| Nq <| Cd (V rfl) (fun hc2 => ?_) (fun hc2 => ?_)
  ·have hc2s := hc2; try simp only [BL] at hc2s
   exact Sq <| Rt <| U (Bu [] id (cmpG [SV.v (Value.slice none 0 0)]) zero24 build24 (by exact Z) (by decide) ⟨Z, rfl⟩) <| U (Mv (V rfl)) <| StA (V rfl) rfl (V rfl) Sz24 <| U (As (V rfl)) <| Nt <| Rx <| RR2 rfl (rv_aggI (g' := stG ([])) (rv_cell (V rfl) rfl Ga24 Sz24) ⟨Z, In⟩) (rv_tmp (V rfl)) rfl rfl (by show sv2 (SV.agg 1 (stG ([]))) (iv (firstSt l (([⟨p.pl, p.use⟩, ⟨c.pl, c.use⟩]) ++ ah))) = sv2 (SV.agg 1 (stG (insSt l p c ah).1)) (iv (insSt l p c ah).2); rw [ins_2 (by omega) hc2s])
  ·have hc2s := hc2; try simp only [BL] at hc2s
   have KK := insOk_of (p := p) (c := c) hc2s
   have Kp := KK.pr
   have Kc := KK.cr
   have Ka := KK.ar
   have h24 := checkSt_len KK.ok
   have hc0 := KK.ok
   have hkf : ∀ i, i < l.length → (l.getD i default).kids.length ≤ 24 := fun i hi => kids_few KK.ok hi
   refine Sk <| Sq <| Rqd (by kernel_rfl) (by kernel_rfl) <| O (FlB _ _ (V rfl) Un26 rfl 0 Sz3) <| O (LdB (V rfl) rfl Ga3 (by decide)) <| O (FlB _ _ (V rfl) Un26 rfl 0 Sz3) <| O (LdB (V rfl) rfl Ga3 (by decide)) <| O (As (V rfl)) <| O (As (V rfl)) <| Nq <| Sq <| Sq <| Rq <| O (FlB _ _ (V rfl) Un24 rfl 0 Sz22) <| O (LdB (V rfl) rfl Ga22 (by decide)) <| O (Mv (V rfl)) <| O (Ix (V rfl) (V rfl) ts22 te22 (by omega) (by first | omega | (simp only [List.length_set]; omega))) <| O (Fl _ _ (V rfl) Un61 rfl 0 Sz3) <| O (Ld (V rfl) Ga3 (by decide)) <| O (Ge (V rfl) K) <| O (Mv (V rfl)) <| Og (Gn rfl rfl) (fun hg => LBA (V rfl) rfl Ga24 Sz24 (by decide)) <| Og (Gn rfl rfl) (fun hg => Mv (V rfl)) <| Og (Gn rfl rfl) (fun hg => Mv (V rfl)) <| CQg (Gn rfl rfl) en126 (fun hg => (by exact ⟨⟨(Vi (g' := stG l) (Vg (V rfl) hg) ⟨Z, Ir⟩), rfl⟩, ⟨(Vg (V rfl) hg), rfl⟩, ⟨(Vg (V rfl) hg), rfl⟩, Z⟩)) (fun hg => under_ct l p.pl c.pl (by assumption) (by first | assumption | omega)) <| O (Qr (V rfl) (fun h => Vg (V rfl) (notT h))) <| Nq <| Cd (V rfl) (fun hc3 => ?_) (fun hc3 => ?_)
   ·have hc3s := hc3; try simp only [BL] at hc3s
    exact Sq <| Rt <| U (Bu [] id (cmpG [SV.v (Value.slice none 0 0)]) zero24 build24 (by exact Z) (by decide) ⟨Z, rfl⟩) <| StA (V rfl) rfl (V rfl) Sz24 <| U (As K) <| Nt <| Rx <| RR2 rfl (rv_aggI (g' := stG ([])) (rv_cell (V rfl) rfl Ga24 Sz24) ⟨Z, In⟩) (rv_tmp (V rfl)) rfl rfl (by show sv2 (SV.agg 1 (stG ([]))) (iv (6)) = sv2 (SV.agg 1 (stG (insSt l p c ah).1)) (iv (insSt l p c ah).2); rw [ins_3 (by omega) hc2s hc3])
   ·have hc3s := hc3; try simp only [BL] at hc3s
    have hq3 : insBad l p c = false := hc3
    have hbf := bad_f hq3
    refine Sk <| Sq <| Sq <| Rqd (by kernel_rfl) (by kernel_rfl) <| O (Mv (V rfl)) <| O (Ln (V rfl) ts80) <| O (Gt (V rfl) K) <| O (Mv (V rfl)) <| Og (Gy rfl rfl) (fun hg => FlB _ _ (V rfl) Un24 rfl 0 Sz22) <| Og (Gy rfl rfl) (fun hg => LdB (Vg (V rfl) hg) rfl Ga22 (by decide)) <| Og (Gy rfl rfl) (fun hg => Mv (V rfl)) <| Og (Gy rfl rfl) (fun hg => Ix (Vg (V rfl) hg) K ts80 te80 (by omega) (by have hq := hg; simp only [BL] at hq; omega)) <| Og (Gy rfl rfl) (fun hg => Fl _ _ (Vg (V rfl) hg) Un26 rfl 0 Sz3) <| Og (Gy rfl rfl) (fun hg => Ld (Vg (V rfl) hg) Ga3 (by decide)) <| Og (Gy rfl rfl) (fun hg => Ix (Vg (V rfl) hg) (Vg (V rfl) hg) ts22 te22 (by have hq := hg; simp only [BL] at hq; have hka : 0 ≤ (ah.getD (Int.toNat 0) default).pl ∧ (ah.getD (Int.toNat 0) default).pl < (l.length : Int) := Ka (by omega); omega) (by have hq := hg; simp only [BL] at hq; have hka : 0 ≤ (ah.getD (Int.toNat 0) default).pl ∧ (ah.getD (Int.toNat 0) default).pl < (l.length : Int) := Ka (by omega); omega)) <| Og (Gy rfl rfl) (fun hg => Fl _ _ (Vg (V rfl) hg) Un61 rfl 0 Sz3) <| Og (Gy rfl rfl) (fun hg => Ld (Vg (V rfl) hg) Ga3 (by decide)) <| Og (Gy rfl rfl) (fun hg => Mv (V rfl)) <| Og (Gy rfl rfl) (fun hg => Qn (Vg (V rfl) hg) (Vg (V rfl) hg)) <| O (Qa (V rfl) (fun h => Vg (V rfl) h)) <| Nq <| Cd (V rfl) (fun hc4 => ?_) (fun hc4 => ?_)
    ·have hc4s := hc4; try simp only [BL] at hc4s
     exact Sq <| Rt <| U (Bu [] id (cmpG [SV.v (Value.slice none 0 0)]) zero24 build24 (by exact Z) (by decide) ⟨Z, rfl⟩) <| StA (V rfl) rfl (V rfl) Sz24 <| U (As K) <| Nt <| Rx <| RR2 rfl (rv_aggI (g' := stG ([])) (rv_cell (V rfl) rfl Ga24 Sz24) ⟨Z, In⟩) (rv_tmp (V rfl)) rfl rfl (by show sv2 (SV.agg 1 (stG ([]))) (iv (6)) = sv2 (SV.agg 1 (stG (insSt l p c ah).1)) (iv (insSt l p c ah).2); rw [ins_4 (by omega) hc2s hq3 ⟨by omega, hc4s.2⟩])
    ·have hc4s := hc4; try simp only [BL] at hc4s
     have hq4 : ¬ (0 < ah.length ∧ (l.getD (hd0 ah).pl.toNat default).par ≠ p.pl) := fun q => by rw [show hd0 ah = ah.getD 0 default from rfl] at q; rcases hc4s with e | e; exact e (by omega); exact q.2 e
     refine Sk <| Sq <| Sq <| Rq <| O (Mv (V rfl)) <| O (Ln (V rfl) ts80) <| O (Gt (V rfl) K) <| O (Mv (V rfl)) <| Og (Gy rfl rfl) (fun hg => Mv (V rfl)) <| Og (Gy rfl rfl) (fun hg => Ix (Vg (V rfl) hg) K ts80 te80 (by omega) (by have hq := hg; simp only [BL] at hq; omega)) <| Og (Gy rfl rfl) (fun hg => Fl _ _ (Vg (V rfl) hg) Un26 rfl 0 Sz3) <| Og (Gy rfl rfl) (fun hg => Ld (Vg (V rfl) hg) Ga3 (by decide)) <| Og (Gy rfl rfl) (fun hg => Mv (V rfl)) <| Og (Gy rfl rfl) (fun hg => Ql (Vg (V rfl) hg) (Vg (V rfl) hg)) <| O (Qa (V rfl) (fun h => Vg (V rfl) h)) <| Nq <| Cd (V rfl) (fun hc5 => ?_) (fun hc5 => ?_)
     ·have hc5s := hc5; try simp only [BL] at hc5s
      exact Sq <| Rt <| U (LBA (V rfl) rfl Ga24 Sz24 (by decide)) <| CM (cargs := [SV.agg 1 (stG l)]) [] [(0, 7)] en115 (mv0 (by exact ⟨⟨(Vi (g' := stG l) (V rfl) ⟨Z, Ir⟩), rfl⟩, Z⟩)) (copyU_ct l (by omega) (by assumption)) (by exact Z) rfl rfl rfl rfl <| StA (V rfl) rfl (V rfl) Sz24 <| U (As K) <| Nt <| Tc (turn_uAT 7 rfl rfl (fun _ => rfl)) <| FzC 7 rfl <| Rx <| RR2 rfl (rv_aggI (g' := stG l) (rv_cell (V rfl) rfl Ga24 Sz24) ⟨Z, Ir⟩) (rv_tmp (V rfl)) rfl rfl (by show sv2 (SV.agg 1 (stG l)) (iv (0)) = sv2 (SV.agg 1 (stG (insSt l p c ah).1)) (iv (insSt l p c ah).2); rw [ins_5 (by omega) hc2s hq3 hq4 ⟨by omega, hc5s.2⟩])
     ·have hc5s := hc5; try simp only [BL] at hc5s
      have hq5 : ¬ (0 < ah.length ∧ (hd0 ah).pl = c.pl) := fun q => by rcases hc5s with e | e; exact e (by omega); exact e q.2
      have hol := out_len l c.pl
      have hko := kids_few (out_ok KK) (i := Int.toNat p.pl) (by omega)
      refine Sk <| Sq <| Rt <| U (LBA (V rfl) rfl Ga24 Sz24 (by decide)) <| CM (cargs := [SV.agg 1 (stG l)]) [] [(0, 8)] en115 (mv0 (by exact ⟨⟨(Vi (g' := stG l) (V rfl) ⟨Z, Ir⟩), rfl⟩, Z⟩)) (copyU_ct l (by omega) (by assumption)) (by exact Z) rfl rfl rfl rfl <| StA (V rfl) rfl (V rfl) Sz24 <| Nt <| Sq <| Rt <| U (Mv (V rfl)) <| CM (cargs := [SV.bp 1000 0, iv (c.pl)]) [(1000, 1), (1001, 8)] [(0, 9)] en127 (by exact ⟨(V rfl), (V rfl), Z⟩) (out_ct l c.pl (by assumption) (by assumption)) (by exact ⟨⟨_, rfl, ⟨rfl, rfl, (An rfl)⟩⟩, ⟨_, rfl, rfl⟩, Z⟩) rfl rfl rfl rfl <| Nt <| Sq <| Tc (turn_splitT 9 (Int.toNat p.pl) 10 rfl (by omega) rfl rfl) <| Rq <| O (FlB _ _ (V rfl) Un24 rfl 0 Sz22) <| O (LdB (V rfl) rfl Ga22 (by decide)) <| O (Mv (V rfl)) <| O (q_idxU (V rfl) rfl (V rfl) ts22 te22 (by omega) (by first | omega | (simp only [List.length_set]; omega))) <| O (FlO _ _ (V rfl) Un61 rfl 0 Sz33) <| O (LdU (V rfl) rfl Ga33 (by decide) uat_hole) <| O (LnO (V rfl) rfl ts33) <| O (As (V rfl)) <| Nq <| Sq <| Sq <| Rq <| O (Mv (V rfl)) <| O (Ln (V rfl) ts80) <| O (Gt (V rfl) K) <| Nq <| Cd (V rfl) (fun hc6 => ?_) (fun hc6 => ?_)
      ·have hc6s := hc6; try simp only [BL] at hc6s
       have hah : 0 < ah.length := by omega
       have hpos := pos_le KK hq4 hq5 hah
       have hposA : 0 ≤ idxI ((outSt l c.pl).getD (Int.toNat p.pl) default).kids (ah.getD 0 default).pl ∧ idxI ((outSt l c.pl).getD (Int.toNat p.pl) default).kids (ah.getD 0 default).pl < (((outSt l c.pl).getD (Int.toNat p.pl) default).kids.length : Int) := hpos
       have hpos : 0 ≤ idxI ((outSt l c.pl).getD (Int.toNat p.pl) default).kids (ah.getD (Int.toNat 0) default).pl ∧ idxI ((outSt l c.pl).getD (Int.toNat p.pl) default).kids (ah.getD (Int.toNat 0) default).pl < (((outSt l c.pl).getD (Int.toNat p.pl) default).kids.length : Int) := hpos
       refine Rqd (by kernel_rfl) (by kernel_rfl) <| O (FlB _ _ (V rfl) Un24 rfl 0 Sz22) <| O (LdB (V rfl) rfl Ga22 (by decide)) <| O (Mv (V rfl)) <| O (q_idxU (V rfl) rfl (V rfl) ts22 te22 (by omega) (by first | omega | (simp only [List.length_set]; omega))) <| O (FlO _ _ (V rfl) Un61 rfl 0 Sz33) <| O (LdU (V rfl) rfl Ga33 (by decide) uat_hole) <| O (Mv (V rfl)) <| O (Ix (V rfl) K ts80 te80 (by omega) (by first | omega | (simp only [List.length_set]; omega))) <| O (Fl _ _ (V rfl) Un26 rfl 0 Sz3) <| O (Ld (V rfl) Ga3 (by decide)) <| CQb en62 (by exact ⟨(vb_own (V rfl) rfl), (vb_ro (V rfl) rfl), Z⟩) (index_ct (Nd.kids ((outSt l c.pl).getD (Int.toNat p.pl) default)) ((ah.getD 0 default).pl)) <| O (As (V rfl)) <| Nq <| Sq <| c_rd (fun e => ⟨[(102, cj (e 0) (SV.bp 1 0)), (103, cj (e 1) (SV.own 9)), (104, cj (e 2) (iv (p.pl))), (105, cj (e 3) (SV.bp 1 0)), (106, cj (e 4) (SV.own 9)), (107, cj (e 5) (iv (p.pl))), (108, cj (e 6) (SV.oe 9 8 (Int.toNat p.pl) 0)), (109, cj (e 7) (SV.oe 9 8 (Int.toNat p.pl) 5)), (110, cj (e 8) (SV.own 10)), (111, cj (e 9) (iv (idxI (Nd.kids ((outSt l c.pl).getD (Int.toNat p.pl) default)) ((ah.getD 0 default).pl)))), (112, cj (e 10) (iv (c.pl))), (113, cj (e 11) (inRow ([c.pl]))), (114, cj (e 12) (SV.own 11)), (115, cj (e 13) (SV.oe 9 8 (Int.toNat p.pl) 0)), (116, cj (e 14) (SV.oe 9 8 (Int.toNat p.pl) 5)), (4, SV.bp 1 0), (8, SV.bp 4 0), (11, iv (p.pl)), (12, iv (c.pl)), (13, iv (idxI (Nd.kids ((outSt l c.pl).getD (Int.toNat p.pl) default)) ((ah.getD 0 default).pl)))], (cb (e 12) (cb (e 15) [(1, Own.box 1 (fun zt => SV.renm (rn [(1000, 1), (1001, 8), (0, 9)]) ((cmpG [SV.own 0]) zt)) 24), (4, Own.box 1 (cmpG [SV.v (Value.slice none 0 0)]) 24), (9, urowOf ndCell 8 default (outSt l c.pl) 61 5 Nd.kids inCell 1 0 3 l.length (some (Int.toNat p.pl, SV.own 11))), (11, ownOf inCell 1 0 ((Nd.kids ((outSt l c.pl).getD (Int.toNat p.pl) default)).take (Int.toNat (idxI (Nd.kids ((outSt l c.pl).getD (Int.toNat p.pl) default)) ((ah.getD 0 default).pl))) ++ ([c.pl]) ++ (Nd.kids ((outSt l c.pl).getD (Int.toNat p.pl) default)).drop (Int.toNat (idxI (Nd.kids ((outSt l c.pl).getD (Int.toNat p.pl) default)) ((ah.getD 0 default).pl)))) 3)] [(1, Own.box 1 (fun zt => SV.renm (rn [(1000, 1), (1001, 8), (0, 9)]) ((cmpG [SV.own 0]) zt)) 24), (4, Own.box 1 (cmpG [SV.v (Value.slice none 0 0)]) 24), (9, urowOf ndCell 8 default (outSt l c.pl) 61 5 Nd.kids inCell 1 0 3 l.length (some (Int.toNat p.pl, SV.own 10))), (11, ownOf inCell 1 0 ((Nd.kids ((outSt l c.pl).getD (Int.toNat p.pl) default)).take (Int.toNat (idxI (Nd.kids ((outSt l c.pl).getD (Int.toNat p.pl) default)) ((ah.getD 0 default).pl))) ++ ([c.pl]) ++ (Nd.kids ((outSt l c.pl).getD (Int.toNat p.pl) default)).drop (Int.toNat (idxI (Nd.kids ((outSt l c.pl).getD (Int.toNat p.pl) default)) ((ah.getD 0 default).pl)))) 3)]) (cb (e 15) [] [(1, Own.box 1 (fun zt => SV.renm (rn [(1000, 1), (1001, 8), (0, 9)]) ((cmpG [SV.own 0]) zt)) 24), (4, Own.box 1 (cmpG [SV.v (Value.slice none 0 0)]) 24), (9, urowOf ndCell 8 default (outSt l c.pl) 61 5 Nd.kids inCell 1 0 3 l.length (some (Int.toNat p.pl, SV.own 10))), (10, ownOf inCell 1 0 (Nd.kids ((outSt l c.pl).getD (Int.toNat p.pl) default)) 3)]))⟩) ⟨[(102, SV.bp 1 0), (103, SV.own 9), (104, iv (p.pl)), (105, SV.bp 1 0), (106, SV.own 9), (107, iv (p.pl)), (108, SV.oe 9 8 (Int.toNat p.pl) 0), (109, SV.oe 9 8 (Int.toNat p.pl) 5), (110, SV.own 10), (111, iv (idxI (Nd.kids ((outSt l c.pl).getD (Int.toNat p.pl) default)) ((ah.getD 0 default).pl))), (112, iv (c.pl)), (113, inRow ([c.pl])), (114, SV.own 11), (115, SV.oe 9 8 (Int.toNat p.pl) 0), (116, SV.oe 9 8 (Int.toNat p.pl) 5), (4, SV.bp 1 0), (8, SV.bp 4 0), (11, iv (p.pl)), (12, iv (c.pl)), (13, iv (idxI (Nd.kids ((outSt l c.pl).getD (Int.toNat p.pl) default)) ((ah.getD 0 default).pl)))], [(1, Own.box 1 (fun zt => SV.renm (rn [(1000, 1), (1001, 8), (0, 9)]) ((cmpG [SV.own 0]) zt)) 24), (4, Own.box 1 (cmpG [SV.v (Value.slice none 0 0)]) 24), (9, urowOf ndCell 8 default (outSt l c.pl) 61 5 Nd.kids inCell 1 0 3 l.length (some (Int.toNat p.pl, SV.own 11))), (11, ownOf inCell 1 0 ((Nd.kids ((outSt l c.pl).getD (Int.toNat p.pl) default)).take (Int.toNat (idxI (Nd.kids ((outSt l c.pl).getD (Int.toNat p.pl) default)) ((ah.getD 0 default).pl))) ++ ([c.pl]) ++ (Nd.kids ((outSt l c.pl).getD (Int.toNat p.pl) default)).drop (Int.toNat (idxI (Nd.kids ((outSt l c.pl).getD (Int.toNat p.pl) default)) ((ah.getD 0 default).pl)))) 3)]⟩ (by kernel_rfl) (by kernel_rfl) ?_ ⟨?_, ?_, ?_, ?_, ?_, ?_, ?_, ?_, ?_, ?_, ?_, ?_, ?_, ?_, ?_, ?_, Z⟩ ?_ ?_
       ·show Weak _ _ ⟨[(102, SV.junk), (103, SV.junk), (104, SV.junk), (105, SV.junk), (106, SV.junk), (107, SV.junk), (108, SV.junk), (109, SV.junk), (110, SV.junk), (111, SV.junk), (112, SV.junk), (113, SV.junk), (114, SV.junk), (115, SV.junk), (116, SV.junk), (4, SV.bp 1 0), (8, SV.bp 4 0), (11, iv (p.pl)), (12, iv (c.pl)), (13, iv (idxI (Nd.kids ((outSt l c.pl).getD (Int.toNat p.pl) default)) ((ah.getD 0 default).pl)))], [(1, Own.box 1 (fun zt => SV.renm (rn [(1000, 1), (1001, 8), (0, 9)]) ((cmpG [SV.own 0]) zt)) 24), (4, Own.box 1 (cmpG [SV.v (Value.slice none 0 0)]) 24), (9, urowOf ndCell 8 default (outSt l c.pl) 61 5 Nd.kids inCell 1 0 3 l.length (some (Int.toNat p.pl, SV.own 10))), (10, ownOf inCell 1 0 (Nd.kids ((outSt l c.pl).getD (Int.toNat p.pl) default)) 3)]⟩
        refine We ?_ ?_
        ·exact ⟨Vj, Vj, Vj, Vj, Vj, Vj, Vj, Vj, Vj, Vj, Vj, Vj, Vj, Vj, Vj, V rfl, V rfl, V rfl, V rfl, V rfl, Z⟩
        ·exact ⟨⟨_, rfl, ⟨rfl, rfl, (An rfl)⟩⟩, ⟨_, rfl, ⟨rfl, rfl, (An rfl)⟩⟩, ⟨_, rfl, rfl⟩, ⟨_, rfl, rfl⟩, Z⟩
       ·intro e hdn he hdp
        have h15 : e 15 = false := fls he fun q => by obtain ⟨r14, -, -, -, -, -, -, -, -, -, -, -, -, -, -, -, -⟩ := (show e 14 = true ∧ e 12 = true ∧ e 12 = true ∧ e 0 = true ∧ e 1 = true ∧ e 2 = true ∧ e 3 = true ∧ e 4 = true ∧ e 5 = true ∧ e 6 = true ∧ e 7 = true ∧ e 8 = true ∧ e 9 = true ∧ e 10 = true ∧ e 11 = true ∧ e 12 = true ∧ True from hdn 15 q); obtain ⟨r13, -, -, -, -, -, -, -, -, -, -, -, -, -, -⟩ := (show e 13 = true ∧ e 0 = true ∧ e 1 = true ∧ e 2 = true ∧ e 3 = true ∧ e 4 = true ∧ e 5 = true ∧ e 6 = true ∧ e 7 = true ∧ e 8 = true ∧ e 9 = true ∧ e 10 = true ∧ e 11 = true ∧ e 12 = true ∧ True from hdn 14 r14); obtain ⟨r1, -, -, -, -, -, -, -, -, -, -, -, -, -, -, -⟩ := (show e 1 = true ∧ e 2 = true ∧ e 0 = true ∧ e 1 = true ∧ e 2 = true ∧ e 3 = true ∧ e 4 = true ∧ e 5 = true ∧ e 6 = true ∧ e 7 = true ∧ e 8 = true ∧ e 9 = true ∧ e 10 = true ∧ e 11 = true ∧ e 12 = true ∧ True from hdn 13 r13); obtain ⟨r0, -⟩ := (show e 0 = true ∧ True from hdn 1 r1); exact r0
        simp only [setE, he, h15, cj_t, cj_f, cjn_t, cjn_f, cb_t, cb_f]
        exact U (FlB _ _ (V rfl) Un24 rfl 0 Sz22) <| Nt <| weakS ⟨V rfl, V rfl, V rfl, V rfl, V rfl, V rfl, V rfl, V rfl, V rfl, V rfl, V rfl, V rfl, V rfl, V rfl, V rfl, V rfl, V rfl, V rfl, V rfl, V rfl, Z⟩
       ·intro e hdn he hdp
        obtain ⟨h0, -⟩ := (show e 0 = true ∧ True from hdp)
        have h15 : e 15 = false := fls he fun q => by obtain ⟨r14, -, -, -, -, -, -, -, -, -, -, -, -, -, -, -, -⟩ := (show e 14 = true ∧ e 12 = true ∧ e 12 = true ∧ e 0 = true ∧ e 1 = true ∧ e 2 = true ∧ e 3 = true ∧ e 4 = true ∧ e 5 = true ∧ e 6 = true ∧ e 7 = true ∧ e 8 = true ∧ e 9 = true ∧ e 10 = true ∧ e 11 = true ∧ e 12 = true ∧ True from hdn 15 q); obtain ⟨r13, -, -, -, -, -, -, -, -, -, -, -, -, -, -⟩ := (show e 13 = true ∧ e 0 = true ∧ e 1 = true ∧ e 2 = true ∧ e 3 = true ∧ e 4 = true ∧ e 5 = true ∧ e 6 = true ∧ e 7 = true ∧ e 8 = true ∧ e 9 = true ∧ e 10 = true ∧ e 11 = true ∧ e 12 = true ∧ True from hdn 14 r14); obtain ⟨r1, -, -, -, -, -, -, -, -, -, -, -, -, -, -, -⟩ := (show e 1 = true ∧ e 2 = true ∧ e 0 = true ∧ e 1 = true ∧ e 2 = true ∧ e 3 = true ∧ e 4 = true ∧ e 5 = true ∧ e 6 = true ∧ e 7 = true ∧ e 8 = true ∧ e 9 = true ∧ e 10 = true ∧ e 11 = true ∧ e 12 = true ∧ True from hdn 13 r13); exact r1
        cases hu12 : e 12
        ·simp only [setE, h0, he, h15, hu12, cj_t, cj_f, cjn_t, cjn_f, cb_t, cb_f]
         refine U (LdB (V rfl) rfl Ga22 (by decide)) <| Nt <| We ?_ ?_
         ·exact ⟨V rfl, V rfl, V rfl, V rfl, V rfl, V rfl, V rfl, V rfl, V rfl, V rfl, V rfl, V rfl, Vj, V rfl, V rfl, V rfl, V rfl, V rfl, V rfl, V rfl, Z⟩
         ·exact ⟨⟨_, rfl, ⟨rfl, rfl, (An rfl)⟩⟩, ⟨_, rfl, ⟨rfl, rfl, (An rfl)⟩⟩, ⟨_, rfl, rfl⟩, ⟨_, rfl, rfl⟩, Z⟩
        ·simp only [setE, h0, he, h15, hu12, cj_t, cj_f, cjn_t, cjn_f, cb_t, cb_f]
         refine U (LdB (V rfl) rfl Ga22 (by decide)) <| Nt <| We ?_ ?_
         ·exact ⟨V rfl, V rfl, V rfl, V rfl, V rfl, V rfl, V rfl, V rfl, V rfl, V rfl, V rfl, V rfl, V rfl, V rfl, V rfl, V rfl, V rfl, V rfl, V rfl, V rfl, Z⟩
         ·exact ⟨⟨_, rfl, ⟨rfl, rfl, (An rfl)⟩⟩, ⟨_, rfl, ⟨rfl, rfl, (An rfl)⟩⟩, ⟨_, rfl, rfl⟩, ⟨_, rfl, rfl⟩, Z⟩
       ·intro e hdn he hdp
        have h15 : e 15 = false := fls he fun q => by obtain ⟨r14, -, -, -, -, -, -, -, -, -, -, -, -, -, -, -, -⟩ := (show e 14 = true ∧ e 12 = true ∧ e 12 = true ∧ e 0 = true ∧ e 1 = true ∧ e 2 = true ∧ e 3 = true ∧ e 4 = true ∧ e 5 = true ∧ e 6 = true ∧ e 7 = true ∧ e 8 = true ∧ e 9 = true ∧ e 10 = true ∧ e 11 = true ∧ e 12 = true ∧ True from hdn 15 q); obtain ⟨r13, -, -, -, -, -, -, -, -, -, -, -, -, -, -⟩ := (show e 13 = true ∧ e 0 = true ∧ e 1 = true ∧ e 2 = true ∧ e 3 = true ∧ e 4 = true ∧ e 5 = true ∧ e 6 = true ∧ e 7 = true ∧ e 8 = true ∧ e 9 = true ∧ e 10 = true ∧ e 11 = true ∧ e 12 = true ∧ True from hdn 14 r14); obtain ⟨-, r2, -, -, -, -, -, -, -, -, -, -, -, -, -, -⟩ := (show e 1 = true ∧ e 2 = true ∧ e 0 = true ∧ e 1 = true ∧ e 2 = true ∧ e 3 = true ∧ e 4 = true ∧ e 5 = true ∧ e 6 = true ∧ e 7 = true ∧ e 8 = true ∧ e 9 = true ∧ e 10 = true ∧ e 11 = true ∧ e 12 = true ∧ True from hdn 13 r13); exact r2
        simp only [setE, he, h15, cj_t, cj_f, cjn_t, cjn_f, cb_t, cb_f]
        exact U (Mv (V rfl)) <| Nt <| weakS ⟨V rfl, V rfl, V rfl, V rfl, V rfl, V rfl, V rfl, V rfl, V rfl, V rfl, V rfl, V rfl, V rfl, V rfl, V rfl, V rfl, V rfl, V rfl, V rfl, V rfl, Z⟩
       ·intro e hdn he hdp
        have h12 : e 12 = false := fls he fun q => by obtain ⟨r8, -, -, -⟩ := (show e 8 = true ∧ e 9 = true ∧ e 11 = true ∧ True from hdn 12 q); obtain ⟨r7, -⟩ := (show e 7 = true ∧ True from hdn 8 r8); obtain ⟨r6, -⟩ := (show e 6 = true ∧ True from hdn 7 r7); obtain ⟨r4, -, -⟩ := (show e 4 = true ∧ e 5 = true ∧ True from hdn 6 r6); obtain ⟨r3, -⟩ := (show e 3 = true ∧ True from hdn 4 r4); exact r3
        have h15 : e 15 = false := fls he fun q => by obtain ⟨r14, -, -, -, -, -, -, -, -, -, -, -, -, -, -, -, -⟩ := (show e 14 = true ∧ e 12 = true ∧ e 12 = true ∧ e 0 = true ∧ e 1 = true ∧ e 2 = true ∧ e 3 = true ∧ e 4 = true ∧ e 5 = true ∧ e 6 = true ∧ e 7 = true ∧ e 8 = true ∧ e 9 = true ∧ e 10 = true ∧ e 11 = true ∧ e 12 = true ∧ True from hdn 15 q); obtain ⟨r13, -, -, -, -, -, -, -, -, -, -, -, -, -, -⟩ := (show e 13 = true ∧ e 0 = true ∧ e 1 = true ∧ e 2 = true ∧ e 3 = true ∧ e 4 = true ∧ e 5 = true ∧ e 6 = true ∧ e 7 = true ∧ e 8 = true ∧ e 9 = true ∧ e 10 = true ∧ e 11 = true ∧ e 12 = true ∧ True from hdn 14 r14); obtain ⟨-, -, -, -, -, -, -, -, -, -, -, -, -, -, r12, -⟩ := (show e 1 = true ∧ e 2 = true ∧ e 0 = true ∧ e 1 = true ∧ e 2 = true ∧ e 3 = true ∧ e 4 = true ∧ e 5 = true ∧ e 6 = true ∧ e 7 = true ∧ e 8 = true ∧ e 9 = true ∧ e 10 = true ∧ e 11 = true ∧ e 12 = true ∧ True from hdn 13 r13); obtain ⟨r8, -, -, -⟩ := (show e 8 = true ∧ e 9 = true ∧ e 11 = true ∧ True from hdn 12 r12); obtain ⟨r7, -⟩ := (show e 7 = true ∧ True from hdn 8 r8); obtain ⟨r6, -⟩ := (show e 6 = true ∧ True from hdn 7 r7); obtain ⟨r4, -, -⟩ := (show e 4 = true ∧ e 5 = true ∧ True from hdn 6 r6); obtain ⟨r3, -⟩ := (show e 3 = true ∧ True from hdn 4 r4); exact r3
        simp only [setE, he, h12, h15, cj_t, cj_f, cjn_t, cjn_f, cb_t, cb_f]
        refine U (FlB _ _ (V rfl) Un24 rfl 0 Sz22) <| Nt <| We ?_ ?_
        ·exact ⟨V rfl, V rfl, V rfl, V rfl, V rfl, V rfl, V rfl, V rfl, V rfl, V rfl, V rfl, V rfl, Vj, V rfl, V rfl, V rfl, V rfl, V rfl, V rfl, V rfl, Z⟩
        ·exact ⟨⟨_, rfl, ⟨rfl, rfl, (An rfl)⟩⟩, ⟨_, rfl, ⟨rfl, rfl, (An rfl)⟩⟩, ⟨_, rfl, rfl⟩, ⟨_, rfl, rfl⟩, Z⟩
       ·intro e hdn he hdp
        obtain ⟨h3, -⟩ := (show e 3 = true ∧ True from hdp)
        have h12 : e 12 = false := fls he fun q => by obtain ⟨r8, -, -, -⟩ := (show e 8 = true ∧ e 9 = true ∧ e 11 = true ∧ True from hdn 12 q); obtain ⟨r7, -⟩ := (show e 7 = true ∧ True from hdn 8 r8); obtain ⟨r6, -⟩ := (show e 6 = true ∧ True from hdn 7 r7); obtain ⟨r4, -, -⟩ := (show e 4 = true ∧ e 5 = true ∧ True from hdn 6 r6); exact r4
        have h15 : e 15 = false := fls he fun q => by obtain ⟨r14, -, -, -, -, -, -, -, -, -, -, -, -, -, -, -, -⟩ := (show e 14 = true ∧ e 12 = true ∧ e 12 = true ∧ e 0 = true ∧ e 1 = true ∧ e 2 = true ∧ e 3 = true ∧ e 4 = true ∧ e 5 = true ∧ e 6 = true ∧ e 7 = true ∧ e 8 = true ∧ e 9 = true ∧ e 10 = true ∧ e 11 = true ∧ e 12 = true ∧ True from hdn 15 q); obtain ⟨r13, -, -, -, -, -, -, -, -, -, -, -, -, -, -⟩ := (show e 13 = true ∧ e 0 = true ∧ e 1 = true ∧ e 2 = true ∧ e 3 = true ∧ e 4 = true ∧ e 5 = true ∧ e 6 = true ∧ e 7 = true ∧ e 8 = true ∧ e 9 = true ∧ e 10 = true ∧ e 11 = true ∧ e 12 = true ∧ True from hdn 14 r14); obtain ⟨-, -, -, -, -, -, -, -, -, -, -, -, -, -, r12, -⟩ := (show e 1 = true ∧ e 2 = true ∧ e 0 = true ∧ e 1 = true ∧ e 2 = true ∧ e 3 = true ∧ e 4 = true ∧ e 5 = true ∧ e 6 = true ∧ e 7 = true ∧ e 8 = true ∧ e 9 = true ∧ e 10 = true ∧ e 11 = true ∧ e 12 = true ∧ True from hdn 13 r13); obtain ⟨r8, -, -, -⟩ := (show e 8 = true ∧ e 9 = true ∧ e 11 = true ∧ True from hdn 12 r12); obtain ⟨r7, -⟩ := (show e 7 = true ∧ True from hdn 8 r8); obtain ⟨r6, -⟩ := (show e 6 = true ∧ True from hdn 7 r7); obtain ⟨r4, -, -⟩ := (show e 4 = true ∧ e 5 = true ∧ True from hdn 6 r6); exact r4
        simp only [setE, h3, he, h12, h15, cj_t, cj_f, cjn_t, cjn_f, cb_t, cb_f]
        refine U (LdB (V rfl) rfl Ga22 (by decide)) <| Nt <| We ?_ ?_
        ·exact ⟨V rfl, V rfl, V rfl, V rfl, V rfl, V rfl, V rfl, V rfl, V rfl, V rfl, V rfl, V rfl, Vj, V rfl, V rfl, V rfl, V rfl, V rfl, V rfl, V rfl, Z⟩
        ·exact ⟨⟨_, rfl, ⟨rfl, rfl, (An rfl)⟩⟩, ⟨_, rfl, ⟨rfl, rfl, (An rfl)⟩⟩, ⟨_, rfl, rfl⟩, ⟨_, rfl, rfl⟩, Z⟩
       ·intro e hdn he hdp
        have h12 : e 12 = false := fls he fun q => by obtain ⟨r8, -, -, -⟩ := (show e 8 = true ∧ e 9 = true ∧ e 11 = true ∧ True from hdn 12 q); obtain ⟨r7, -⟩ := (show e 7 = true ∧ True from hdn 8 r8); obtain ⟨r6, -⟩ := (show e 6 = true ∧ True from hdn 7 r7); obtain ⟨-, r5, -⟩ := (show e 4 = true ∧ e 5 = true ∧ True from hdn 6 r6); exact r5
        have h15 : e 15 = false := fls he fun q => by obtain ⟨r14, -, -, -, -, -, -, -, -, -, -, -, -, -, -, -, -⟩ := (show e 14 = true ∧ e 12 = true ∧ e 12 = true ∧ e 0 = true ∧ e 1 = true ∧ e 2 = true ∧ e 3 = true ∧ e 4 = true ∧ e 5 = true ∧ e 6 = true ∧ e 7 = true ∧ e 8 = true ∧ e 9 = true ∧ e 10 = true ∧ e 11 = true ∧ e 12 = true ∧ True from hdn 15 q); obtain ⟨r13, -, -, -, -, -, -, -, -, -, -, -, -, -, -⟩ := (show e 13 = true ∧ e 0 = true ∧ e 1 = true ∧ e 2 = true ∧ e 3 = true ∧ e 4 = true ∧ e 5 = true ∧ e 6 = true ∧ e 7 = true ∧ e 8 = true ∧ e 9 = true ∧ e 10 = true ∧ e 11 = true ∧ e 12 = true ∧ True from hdn 14 r14); obtain ⟨-, -, -, -, -, -, -, -, -, -, -, -, -, -, r12, -⟩ := (show e 1 = true ∧ e 2 = true ∧ e 0 = true ∧ e 1 = true ∧ e 2 = true ∧ e 3 = true ∧ e 4 = true ∧ e 5 = true ∧ e 6 = true ∧ e 7 = true ∧ e 8 = true ∧ e 9 = true ∧ e 10 = true ∧ e 11 = true ∧ e 12 = true ∧ True from hdn 13 r13); obtain ⟨r8, -, -, -⟩ := (show e 8 = true ∧ e 9 = true ∧ e 11 = true ∧ True from hdn 12 r12); obtain ⟨r7, -⟩ := (show e 7 = true ∧ True from hdn 8 r8); obtain ⟨r6, -⟩ := (show e 6 = true ∧ True from hdn 7 r7); obtain ⟨-, r5, -⟩ := (show e 4 = true ∧ e 5 = true ∧ True from hdn 6 r6); exact r5
        simp only [setE, he, h12, h15, cj_t, cj_f, cjn_t, cjn_f, cb_t, cb_f]
        refine U (Mv (V rfl)) <| Nt <| We ?_ ?_
        ·exact ⟨V rfl, V rfl, V rfl, V rfl, V rfl, V rfl, V rfl, V rfl, V rfl, V rfl, V rfl, V rfl, Vj, V rfl, V rfl, V rfl, V rfl, V rfl, V rfl, V rfl, Z⟩
        ·exact ⟨⟨_, rfl, ⟨rfl, rfl, (An rfl)⟩⟩, ⟨_, rfl, ⟨rfl, rfl, (An rfl)⟩⟩, ⟨_, rfl, rfl⟩, ⟨_, rfl, rfl⟩, Z⟩
       ·intro e hdn he hdp
        obtain ⟨h4, h5, -⟩ := (show e 4 = true ∧ e 5 = true ∧ True from hdp)
        obtain ⟨h3, -⟩ := (show e 3 = true ∧ True from hdn 4 h4)
        have h12 : e 12 = false := fls he fun q => by obtain ⟨r8, -, -, -⟩ := (show e 8 = true ∧ e 9 = true ∧ e 11 = true ∧ True from hdn 12 q); obtain ⟨r7, -⟩ := (show e 7 = true ∧ True from hdn 8 r8); obtain ⟨r6, -⟩ := (show e 6 = true ∧ True from hdn 7 r7); exact r6
        have h15 : e 15 = false := fls he fun q => by obtain ⟨r14, -, -, -, -, -, -, -, -, -, -, -, -, -, -, -, -⟩ := (show e 14 = true ∧ e 12 = true ∧ e 12 = true ∧ e 0 = true ∧ e 1 = true ∧ e 2 = true ∧ e 3 = true ∧ e 4 = true ∧ e 5 = true ∧ e 6 = true ∧ e 7 = true ∧ e 8 = true ∧ e 9 = true ∧ e 10 = true ∧ e 11 = true ∧ e 12 = true ∧ True from hdn 15 q); obtain ⟨r13, -, -, -, -, -, -, -, -, -, -, -, -, -, -⟩ := (show e 13 = true ∧ e 0 = true ∧ e 1 = true ∧ e 2 = true ∧ e 3 = true ∧ e 4 = true ∧ e 5 = true ∧ e 6 = true ∧ e 7 = true ∧ e 8 = true ∧ e 9 = true ∧ e 10 = true ∧ e 11 = true ∧ e 12 = true ∧ True from hdn 14 r14); obtain ⟨-, -, -, -, -, -, -, -, -, -, -, -, -, -, r12, -⟩ := (show e 1 = true ∧ e 2 = true ∧ e 0 = true ∧ e 1 = true ∧ e 2 = true ∧ e 3 = true ∧ e 4 = true ∧ e 5 = true ∧ e 6 = true ∧ e 7 = true ∧ e 8 = true ∧ e 9 = true ∧ e 10 = true ∧ e 11 = true ∧ e 12 = true ∧ True from hdn 13 r13); obtain ⟨r8, -, -, -⟩ := (show e 8 = true ∧ e 9 = true ∧ e 11 = true ∧ True from hdn 12 r12); obtain ⟨r7, -⟩ := (show e 7 = true ∧ True from hdn 8 r8); obtain ⟨r6, -⟩ := (show e 6 = true ∧ True from hdn 7 r7); exact r6
        simp only [setE, h3, h4, h5, he, h12, h15, cj_t, cj_f, cjn_t, cjn_f, cb_t, cb_f]
        refine U (q_idxU (V rfl) rfl (V rfl) ts22 te22 (by omega) (by first | omega | (simp only [List.length_set]; omega))) <| Nt <| We ?_ ?_
        ·exact ⟨V rfl, V rfl, V rfl, V rfl, V rfl, V rfl, V rfl, V rfl, V rfl, V rfl, V rfl, V rfl, Vj, V rfl, V rfl, V rfl, V rfl, V rfl, V rfl, V rfl, Z⟩
        ·exact ⟨⟨_, rfl, ⟨rfl, rfl, (An rfl)⟩⟩, ⟨_, rfl, ⟨rfl, rfl, (An rfl)⟩⟩, ⟨_, rfl, rfl⟩, ⟨_, rfl, rfl⟩, Z⟩
       ·intro e hdn he hdp
        obtain ⟨h6, -⟩ := (show e 6 = true ∧ True from hdp)
        obtain ⟨h4, h5, -⟩ := (show e 4 = true ∧ e 5 = true ∧ True from hdn 6 h6)
        obtain ⟨h3, -⟩ := (show e 3 = true ∧ True from hdn 4 h4)
        have h12 : e 12 = false := fls he fun q => by obtain ⟨r8, -, -, -⟩ := (show e 8 = true ∧ e 9 = true ∧ e 11 = true ∧ True from hdn 12 q); obtain ⟨r7, -⟩ := (show e 7 = true ∧ True from hdn 8 r8); exact r7
        have h15 : e 15 = false := fls he fun q => by obtain ⟨r14, -, -, -, -, -, -, -, -, -, -, -, -, -, -, -, -⟩ := (show e 14 = true ∧ e 12 = true ∧ e 12 = true ∧ e 0 = true ∧ e 1 = true ∧ e 2 = true ∧ e 3 = true ∧ e 4 = true ∧ e 5 = true ∧ e 6 = true ∧ e 7 = true ∧ e 8 = true ∧ e 9 = true ∧ e 10 = true ∧ e 11 = true ∧ e 12 = true ∧ True from hdn 15 q); obtain ⟨r13, -, -, -, -, -, -, -, -, -, -, -, -, -, -⟩ := (show e 13 = true ∧ e 0 = true ∧ e 1 = true ∧ e 2 = true ∧ e 3 = true ∧ e 4 = true ∧ e 5 = true ∧ e 6 = true ∧ e 7 = true ∧ e 8 = true ∧ e 9 = true ∧ e 10 = true ∧ e 11 = true ∧ e 12 = true ∧ True from hdn 14 r14); obtain ⟨-, -, -, -, -, -, -, -, -, -, -, -, -, -, r12, -⟩ := (show e 1 = true ∧ e 2 = true ∧ e 0 = true ∧ e 1 = true ∧ e 2 = true ∧ e 3 = true ∧ e 4 = true ∧ e 5 = true ∧ e 6 = true ∧ e 7 = true ∧ e 8 = true ∧ e 9 = true ∧ e 10 = true ∧ e 11 = true ∧ e 12 = true ∧ True from hdn 13 r13); obtain ⟨r8, -, -, -⟩ := (show e 8 = true ∧ e 9 = true ∧ e 11 = true ∧ True from hdn 12 r12); obtain ⟨r7, -⟩ := (show e 7 = true ∧ True from hdn 8 r8); exact r7
        simp only [setE, h3, h4, h5, h6, he, h12, h15, cj_t, cj_f, cjn_t, cjn_f, cb_t, cb_f]
        refine U (FlO _ _ (V rfl) Un61 rfl 0 Sz33) <| Nt <| We ?_ ?_
        ·exact ⟨V rfl, V rfl, V rfl, V rfl, V rfl, V rfl, V rfl, V rfl, V rfl, V rfl, V rfl, V rfl, Vj, V rfl, V rfl, V rfl, V rfl, V rfl, V rfl, V rfl, Z⟩
        ·exact ⟨⟨_, rfl, ⟨rfl, rfl, (An rfl)⟩⟩, ⟨_, rfl, ⟨rfl, rfl, (An rfl)⟩⟩, ⟨_, rfl, rfl⟩, ⟨_, rfl, rfl⟩, Z⟩
       ·intro e hdn he hdp
        obtain ⟨h7, -⟩ := (show e 7 = true ∧ True from hdp)
        obtain ⟨h6, -⟩ := (show e 6 = true ∧ True from hdn 7 h7)
        obtain ⟨h4, h5, -⟩ := (show e 4 = true ∧ e 5 = true ∧ True from hdn 6 h6)
        obtain ⟨h3, -⟩ := (show e 3 = true ∧ True from hdn 4 h4)
        have h12 : e 12 = false := fls he fun q => by obtain ⟨r8, -, -, -⟩ := (show e 8 = true ∧ e 9 = true ∧ e 11 = true ∧ True from hdn 12 q); exact r8
        have h15 : e 15 = false := fls he fun q => by obtain ⟨r14, -, -, -, -, -, -, -, -, -, -, -, -, -, -, -, -⟩ := (show e 14 = true ∧ e 12 = true ∧ e 12 = true ∧ e 0 = true ∧ e 1 = true ∧ e 2 = true ∧ e 3 = true ∧ e 4 = true ∧ e 5 = true ∧ e 6 = true ∧ e 7 = true ∧ e 8 = true ∧ e 9 = true ∧ e 10 = true ∧ e 11 = true ∧ e 12 = true ∧ True from hdn 15 q); obtain ⟨r13, -, -, -, -, -, -, -, -, -, -, -, -, -, -⟩ := (show e 13 = true ∧ e 0 = true ∧ e 1 = true ∧ e 2 = true ∧ e 3 = true ∧ e 4 = true ∧ e 5 = true ∧ e 6 = true ∧ e 7 = true ∧ e 8 = true ∧ e 9 = true ∧ e 10 = true ∧ e 11 = true ∧ e 12 = true ∧ True from hdn 14 r14); obtain ⟨-, -, -, -, -, -, -, -, -, -, -, -, -, -, r12, -⟩ := (show e 1 = true ∧ e 2 = true ∧ e 0 = true ∧ e 1 = true ∧ e 2 = true ∧ e 3 = true ∧ e 4 = true ∧ e 5 = true ∧ e 6 = true ∧ e 7 = true ∧ e 8 = true ∧ e 9 = true ∧ e 10 = true ∧ e 11 = true ∧ e 12 = true ∧ True from hdn 13 r13); obtain ⟨r8, -, -, -⟩ := (show e 8 = true ∧ e 9 = true ∧ e 11 = true ∧ True from hdn 12 r12); exact r8
        simp only [setE, h3, h4, h5, h6, h7, he, h12, h15, cj_t, cj_f, cjn_t, cjn_f, cb_t, cb_f]
        refine U (LdU (V rfl) rfl Ga33 (by decide) uat_hole) <| Nt <| We ?_ ?_
        ·exact ⟨V rfl, V rfl, V rfl, V rfl, V rfl, V rfl, V rfl, V rfl, V rfl, V rfl, V rfl, V rfl, Vj, V rfl, V rfl, V rfl, V rfl, V rfl, V rfl, V rfl, Z⟩
        ·exact ⟨⟨_, rfl, ⟨rfl, rfl, (An rfl)⟩⟩, ⟨_, rfl, ⟨rfl, rfl, (An rfl)⟩⟩, ⟨_, rfl, rfl⟩, ⟨_, rfl, rfl⟩, Z⟩
       ·intro e hdn he hdp
        have h12 : e 12 = false := fls he fun q => by obtain ⟨-, r9, -, -⟩ := (show e 8 = true ∧ e 9 = true ∧ e 11 = true ∧ True from hdn 12 q); exact r9
        have h15 : e 15 = false := fls he fun q => by obtain ⟨r14, -, -, -, -, -, -, -, -, -, -, -, -, -, -, -, -⟩ := (show e 14 = true ∧ e 12 = true ∧ e 12 = true ∧ e 0 = true ∧ e 1 = true ∧ e 2 = true ∧ e 3 = true ∧ e 4 = true ∧ e 5 = true ∧ e 6 = true ∧ e 7 = true ∧ e 8 = true ∧ e 9 = true ∧ e 10 = true ∧ e 11 = true ∧ e 12 = true ∧ True from hdn 15 q); obtain ⟨r13, -, -, -, -, -, -, -, -, -, -, -, -, -, -⟩ := (show e 13 = true ∧ e 0 = true ∧ e 1 = true ∧ e 2 = true ∧ e 3 = true ∧ e 4 = true ∧ e 5 = true ∧ e 6 = true ∧ e 7 = true ∧ e 8 = true ∧ e 9 = true ∧ e 10 = true ∧ e 11 = true ∧ e 12 = true ∧ True from hdn 14 r14); obtain ⟨-, -, -, -, -, -, -, -, -, -, -, -, -, -, r12, -⟩ := (show e 1 = true ∧ e 2 = true ∧ e 0 = true ∧ e 1 = true ∧ e 2 = true ∧ e 3 = true ∧ e 4 = true ∧ e 5 = true ∧ e 6 = true ∧ e 7 = true ∧ e 8 = true ∧ e 9 = true ∧ e 10 = true ∧ e 11 = true ∧ e 12 = true ∧ True from hdn 13 r13); obtain ⟨-, r9, -, -⟩ := (show e 8 = true ∧ e 9 = true ∧ e 11 = true ∧ True from hdn 12 r12); exact r9
        simp only [setE, he, h12, h15, cj_t, cj_f, cjn_t, cjn_f, cb_t, cb_f]
        refine U (Mv (V rfl)) <| Nt <| We ?_ ?_
        ·exact ⟨V rfl, V rfl, V rfl, V rfl, V rfl, V rfl, V rfl, V rfl, V rfl, V rfl, V rfl, V rfl, Vj, V rfl, V rfl, V rfl, V rfl, V rfl, V rfl, V rfl, Z⟩
        ·exact ⟨⟨_, rfl, ⟨rfl, rfl, (An rfl)⟩⟩, ⟨_, rfl, ⟨rfl, rfl, (An rfl)⟩⟩, ⟨_, rfl, rfl⟩, ⟨_, rfl, rfl⟩, Z⟩
       ·intro e hdn he hdp
        have h12 : e 12 = false := fls he fun q => by obtain ⟨-, -, r11, -⟩ := (show e 8 = true ∧ e 9 = true ∧ e 11 = true ∧ True from hdn 12 q); obtain ⟨r10, -⟩ := (show e 10 = true ∧ True from hdn 11 r11); exact r10
        have h15 : e 15 = false := fls he fun q => by obtain ⟨r14, -, -, -, -, -, -, -, -, -, -, -, -, -, -, -, -⟩ := (show e 14 = true ∧ e 12 = true ∧ e 12 = true ∧ e 0 = true ∧ e 1 = true ∧ e 2 = true ∧ e 3 = true ∧ e 4 = true ∧ e 5 = true ∧ e 6 = true ∧ e 7 = true ∧ e 8 = true ∧ e 9 = true ∧ e 10 = true ∧ e 11 = true ∧ e 12 = true ∧ True from hdn 15 q); obtain ⟨r13, -, -, -, -, -, -, -, -, -, -, -, -, -, -⟩ := (show e 13 = true ∧ e 0 = true ∧ e 1 = true ∧ e 2 = true ∧ e 3 = true ∧ e 4 = true ∧ e 5 = true ∧ e 6 = true ∧ e 7 = true ∧ e 8 = true ∧ e 9 = true ∧ e 10 = true ∧ e 11 = true ∧ e 12 = true ∧ True from hdn 14 r14); obtain ⟨-, -, -, -, -, -, -, -, -, -, -, -, -, -, r12, -⟩ := (show e 1 = true ∧ e 2 = true ∧ e 0 = true ∧ e 1 = true ∧ e 2 = true ∧ e 3 = true ∧ e 4 = true ∧ e 5 = true ∧ e 6 = true ∧ e 7 = true ∧ e 8 = true ∧ e 9 = true ∧ e 10 = true ∧ e 11 = true ∧ e 12 = true ∧ True from hdn 13 r13); obtain ⟨-, -, r11, -⟩ := (show e 8 = true ∧ e 9 = true ∧ e 11 = true ∧ True from hdn 12 r12); obtain ⟨r10, -⟩ := (show e 10 = true ∧ True from hdn 11 r11); exact r10
        simp only [setE, he, h12, h15, cj_t, cj_f, cjn_t, cjn_f, cb_t, cb_f]
        refine U (Mv (V rfl)) <| Nt <| We ?_ ?_
        ·exact ⟨V rfl, V rfl, V rfl, V rfl, V rfl, V rfl, V rfl, V rfl, V rfl, V rfl, V rfl, V rfl, Vj, V rfl, V rfl, V rfl, V rfl, V rfl, V rfl, V rfl, Z⟩
        ·exact ⟨⟨_, rfl, ⟨rfl, rfl, (An rfl)⟩⟩, ⟨_, rfl, ⟨rfl, rfl, (An rfl)⟩⟩, ⟨_, rfl, rfl⟩, ⟨_, rfl, rfl⟩, Z⟩
       ·intro e hdn he hdp
        obtain ⟨h10, -⟩ := (show e 10 = true ∧ True from hdp)
        have h12 : e 12 = false := fls he fun q => by obtain ⟨-, -, r11, -⟩ := (show e 8 = true ∧ e 9 = true ∧ e 11 = true ∧ True from hdn 12 q); exact r11
        have h15 : e 15 = false := fls he fun q => by obtain ⟨r14, -, -, -, -, -, -, -, -, -, -, -, -, -, -, -, -⟩ := (show e 14 = true ∧ e 12 = true ∧ e 12 = true ∧ e 0 = true ∧ e 1 = true ∧ e 2 = true ∧ e 3 = true ∧ e 4 = true ∧ e 5 = true ∧ e 6 = true ∧ e 7 = true ∧ e 8 = true ∧ e 9 = true ∧ e 10 = true ∧ e 11 = true ∧ e 12 = true ∧ True from hdn 15 q); obtain ⟨r13, -, -, -, -, -, -, -, -, -, -, -, -, -, -⟩ := (show e 13 = true ∧ e 0 = true ∧ e 1 = true ∧ e 2 = true ∧ e 3 = true ∧ e 4 = true ∧ e 5 = true ∧ e 6 = true ∧ e 7 = true ∧ e 8 = true ∧ e 9 = true ∧ e 10 = true ∧ e 11 = true ∧ e 12 = true ∧ True from hdn 14 r14); obtain ⟨-, -, -, -, -, -, -, -, -, -, -, -, -, -, r12, -⟩ := (show e 1 = true ∧ e 2 = true ∧ e 0 = true ∧ e 1 = true ∧ e 2 = true ∧ e 3 = true ∧ e 4 = true ∧ e 5 = true ∧ e 6 = true ∧ e 7 = true ∧ e 8 = true ∧ e 9 = true ∧ e 10 = true ∧ e 11 = true ∧ e 12 = true ∧ True from hdn 13 r13); obtain ⟨-, -, r11, -⟩ := (show e 8 = true ∧ e 9 = true ∧ e 11 = true ∧ True from hdn 12 r12); exact r11
        simp only [setE, h10, he, h12, h15, cj_t, cj_f, cjn_t, cjn_f, cb_t, cb_f]
        refine Uw (w_bs (n := 1) (zget := fun _ => iv 0) [(fun _ => iv (c.pl))] (rowG inCell 0 [c.pl]) Un33 Sz3 zero3 (by decide) rfl (by decide) ⟨⟨rfl, .inr ⟨rfl, (V rfl), rfl⟩, rfl⟩, Z⟩ ⟨Z, ⟨Z, rfl⟩⟩) <| Nt <| We ?_ ?_
        ·exact ⟨V rfl, V rfl, V rfl, V rfl, V rfl, V rfl, V rfl, V rfl, V rfl, V rfl, V rfl, V rfl, Vj, V rfl, V rfl, V rfl, V rfl, V rfl, V rfl, V rfl, Z⟩
        ·exact ⟨⟨_, rfl, ⟨rfl, rfl, (An rfl)⟩⟩, ⟨_, rfl, ⟨rfl, rfl, (An rfl)⟩⟩, ⟨_, rfl, rfl⟩, ⟨_, rfl, rfl⟩, Z⟩
       ·intro e hdn he hdp
        obtain ⟨h8, h9, h11, -⟩ := (show e 8 = true ∧ e 9 = true ∧ e 11 = true ∧ True from hdp)
        obtain ⟨h10, -⟩ := (show e 10 = true ∧ True from hdn 11 h11)
        obtain ⟨h7, -⟩ := (show e 7 = true ∧ True from hdn 8 h8)
        obtain ⟨h6, -⟩ := (show e 6 = true ∧ True from hdn 7 h7)
        obtain ⟨h4, h5, -⟩ := (show e 4 = true ∧ e 5 = true ∧ True from hdn 6 h6)
        obtain ⟨h3, -⟩ := (show e 3 = true ∧ True from hdn 4 h4)
        have h13 : e 13 = false := fls he fun q => by obtain ⟨-, -, -, -, -, -, -, -, -, -, -, -, -, -, r12, -⟩ := (show e 1 = true ∧ e 2 = true ∧ e 0 = true ∧ e 1 = true ∧ e 2 = true ∧ e 3 = true ∧ e 4 = true ∧ e 5 = true ∧ e 6 = true ∧ e 7 = true ∧ e 8 = true ∧ e 9 = true ∧ e 10 = true ∧ e 11 = true ∧ e 12 = true ∧ True from hdn 13 q); exact r12
        have h14 : e 14 = false := fls he fun q => by obtain ⟨r13, -, -, -, -, -, -, -, -, -, -, -, -, -, -⟩ := (show e 13 = true ∧ e 0 = true ∧ e 1 = true ∧ e 2 = true ∧ e 3 = true ∧ e 4 = true ∧ e 5 = true ∧ e 6 = true ∧ e 7 = true ∧ e 8 = true ∧ e 9 = true ∧ e 10 = true ∧ e 11 = true ∧ e 12 = true ∧ True from hdn 14 q); obtain ⟨-, -, -, -, -, -, -, -, -, -, -, -, -, -, r12, -⟩ := (show e 1 = true ∧ e 2 = true ∧ e 0 = true ∧ e 1 = true ∧ e 2 = true ∧ e 3 = true ∧ e 4 = true ∧ e 5 = true ∧ e 6 = true ∧ e 7 = true ∧ e 8 = true ∧ e 9 = true ∧ e 10 = true ∧ e 11 = true ∧ e 12 = true ∧ True from hdn 13 r13); exact r12
        have h15 : e 15 = false := fls he fun q => by obtain ⟨r14, -, -, -, -, -, -, -, -, -, -, -, -, -, -, -, -⟩ := (show e 14 = true ∧ e 12 = true ∧ e 12 = true ∧ e 0 = true ∧ e 1 = true ∧ e 2 = true ∧ e 3 = true ∧ e 4 = true ∧ e 5 = true ∧ e 6 = true ∧ e 7 = true ∧ e 8 = true ∧ e 9 = true ∧ e 10 = true ∧ e 11 = true ∧ e 12 = true ∧ True from hdn 15 q); obtain ⟨r13, -, -, -, -, -, -, -, -, -, -, -, -, -, -⟩ := (show e 13 = true ∧ e 0 = true ∧ e 1 = true ∧ e 2 = true ∧ e 3 = true ∧ e 4 = true ∧ e 5 = true ∧ e 6 = true ∧ e 7 = true ∧ e 8 = true ∧ e 9 = true ∧ e 10 = true ∧ e 11 = true ∧ e 12 = true ∧ True from hdn 14 r14); obtain ⟨-, -, -, -, -, -, -, -, -, -, -, -, -, -, r12, -⟩ := (show e 1 = true ∧ e 2 = true ∧ e 0 = true ∧ e 1 = true ∧ e 2 = true ∧ e 3 = true ∧ e 4 = true ∧ e 5 = true ∧ e 6 = true ∧ e 7 = true ∧ e 8 = true ∧ e 9 = true ∧ e 10 = true ∧ e 11 = true ∧ e 12 = true ∧ True from hdn 13 r13); exact r12
        simp only [setE, h3, h4, h5, h6, h7, h8, h9, h10, h11, he, h13, h14, h15, cj_t, cj_f, cjn_t, cjn_f, cb_t, cb_f]
        refine CM (cargs := [SV.own 1000, iv (idxI (Nd.kids ((outSt l c.pl).getD (Int.toNat p.pl) default)) ((ah.getD 0 default).pl)), inRow ([c.pl])]) [(1000, 10)] [(0, 11)] en98 (by exact ⟨(V rfl), (V rfl), (V rfl), Z⟩) (insI_ct (Nd.kids ((outSt l c.pl).getD (Int.toNat p.pl) default)) ([c.pl]) (idxI (Nd.kids ((outSt l c.pl).getD (Int.toNat p.pl) default)) ((ah.getD 0 default).pl)) (by first | omega | assumption) (by first | omega | (simp only [List.length_cons, List.length_nil]; omega) | assumption)) (by exact ⟨⟨_, rfl, rfl⟩, Z⟩) rfl (freshN_cons (fresh_mk ⟨(noId_cj rfl), (noId_cj rfl), (noId_cj rfl), rfl, rfl, rfl, rfl, rfl, rfl, rfl, rfl, rfl, rfl, rfl, rfl, rfl, rfl, rfl, rfl, rfl, Z⟩ rfl rfl) rfl rfl) rfl rfl <| Nt <| We ?_ ?_
        ·exact ⟨V rfl, V rfl, V rfl, V rfl, V rfl, V rfl, V rfl, V rfl, V rfl, V rfl, V rfl, V rfl, V rfl, Vj, Vj, V rfl, V rfl, V rfl, V rfl, V rfl, Z⟩
        ·exact ⟨⟨_, rfl, ⟨rfl, rfl, (An rfl)⟩⟩, ⟨_, rfl, ⟨rfl, rfl, (An rfl)⟩⟩, ⟨_, rfl, rfl⟩, ⟨_, rfl, rfl⟩, Z⟩
       ·intro e hdn he hdp
        obtain ⟨h1, h2, h0, -, -, h3, h4, h5, h6, h7, h8, h9, h10, h11, h12, -⟩ := (show e 1 = true ∧ e 2 = true ∧ e 0 = true ∧ e 1 = true ∧ e 2 = true ∧ e 3 = true ∧ e 4 = true ∧ e 5 = true ∧ e 6 = true ∧ e 7 = true ∧ e 8 = true ∧ e 9 = true ∧ e 10 = true ∧ e 11 = true ∧ e 12 = true ∧ True from hdp)
        have h15 : e 15 = false := fls he fun q => by obtain ⟨r14, -, -, -, -, -, -, -, -, -, -, -, -, -, -, -, -⟩ := (show e 14 = true ∧ e 12 = true ∧ e 12 = true ∧ e 0 = true ∧ e 1 = true ∧ e 2 = true ∧ e 3 = true ∧ e 4 = true ∧ e 5 = true ∧ e 6 = true ∧ e 7 = true ∧ e 8 = true ∧ e 9 = true ∧ e 10 = true ∧ e 11 = true ∧ e 12 = true ∧ True from hdn 15 q); obtain ⟨r13, -, -, -, -, -, -, -, -, -, -, -, -, -, -⟩ := (show e 13 = true ∧ e 0 = true ∧ e 1 = true ∧ e 2 = true ∧ e 3 = true ∧ e 4 = true ∧ e 5 = true ∧ e 6 = true ∧ e 7 = true ∧ e 8 = true ∧ e 9 = true ∧ e 10 = true ∧ e 11 = true ∧ e 12 = true ∧ True from hdn 14 r14); exact r13
        simp only [setE, h0, h1, h2, h3, h4, h5, h6, h7, h8, h9, h10, h11, h12, he, h15, cj_t, cj_f, cjn_t, cjn_f, cb_t, cb_f]
        refine U (q_idxU (V rfl) rfl (V rfl) ts22 te22 (by omega) (by first | omega | (simp only [List.length_set]; omega))) <| Nt <| We ?_ ?_
        ·exact ⟨V rfl, V rfl, V rfl, V rfl, V rfl, V rfl, V rfl, V rfl, V rfl, V rfl, V rfl, V rfl, V rfl, V rfl, V rfl, V rfl, V rfl, V rfl, V rfl, V rfl, Z⟩
        ·exact ⟨⟨_, rfl, ⟨rfl, rfl, (An rfl)⟩⟩, ⟨_, rfl, ⟨rfl, rfl, (An rfl)⟩⟩, ⟨_, rfl, rfl⟩, ⟨_, rfl, rfl⟩, Z⟩
       ·intro e hdn he hdp
        obtain ⟨h13, h0, h1, h2, h3, h4, h5, h6, h7, h8, h9, h10, h11, h12, -⟩ := (show e 13 = true ∧ e 0 = true ∧ e 1 = true ∧ e 2 = true ∧ e 3 = true ∧ e 4 = true ∧ e 5 = true ∧ e 6 = true ∧ e 7 = true ∧ e 8 = true ∧ e 9 = true ∧ e 10 = true ∧ e 11 = true ∧ e 12 = true ∧ True from hdp)
        have h15 : e 15 = false := fls he fun q => by obtain ⟨r14, -, -, -, -, -, -, -, -, -, -, -, -, -, -, -, -⟩ := (show e 14 = true ∧ e 12 = true ∧ e 12 = true ∧ e 0 = true ∧ e 1 = true ∧ e 2 = true ∧ e 3 = true ∧ e 4 = true ∧ e 5 = true ∧ e 6 = true ∧ e 7 = true ∧ e 8 = true ∧ e 9 = true ∧ e 10 = true ∧ e 11 = true ∧ e 12 = true ∧ True from hdn 15 q); exact r14
        simp only [setE, h0, h1, h2, h3, h4, h5, h6, h7, h8, h9, h10, h11, h12, h13, he, h15, cj_t, cj_f, cjn_t, cjn_f, cb_t, cb_f]
        refine U (FlO _ _ (V rfl) Un61 rfl 0 Sz33) <| Nt <| We ?_ ?_
        ·exact ⟨V rfl, V rfl, V rfl, V rfl, V rfl, V rfl, V rfl, V rfl, V rfl, V rfl, V rfl, V rfl, V rfl, V rfl, V rfl, V rfl, V rfl, V rfl, V rfl, V rfl, Z⟩
        ·exact ⟨⟨_, rfl, ⟨rfl, rfl, (An rfl)⟩⟩, ⟨_, rfl, ⟨rfl, rfl, (An rfl)⟩⟩, ⟨_, rfl, rfl⟩, ⟨_, rfl, rfl⟩, Z⟩
       ·intro e hdn he hdp
        obtain ⟨h14, h12, -, h0, h1, h2, h3, h4, h5, h6, h7, h8, h9, h10, h11, -, -⟩ := (show e 14 = true ∧ e 12 = true ∧ e 12 = true ∧ e 0 = true ∧ e 1 = true ∧ e 2 = true ∧ e 3 = true ∧ e 4 = true ∧ e 5 = true ∧ e 6 = true ∧ e 7 = true ∧ e 8 = true ∧ e 9 = true ∧ e 10 = true ∧ e 11 = true ∧ e 12 = true ∧ True from hdp)
        obtain ⟨h13, -, -, -, -, -, -, -, -, -, -, -, -, -, -⟩ := (show e 13 = true ∧ e 0 = true ∧ e 1 = true ∧ e 2 = true ∧ e 3 = true ∧ e 4 = true ∧ e 5 = true ∧ e 6 = true ∧ e 7 = true ∧ e 8 = true ∧ e 9 = true ∧ e 10 = true ∧ e 11 = true ∧ e 12 = true ∧ True from hdn 14 h14)
        simp only [setE, h0, h1, h2, h3, h4, h5, h6, h7, h8, h9, h10, h11, h12, h13, h14, he, cj_t, cj_f, cjn_t, cjn_f, cb_t, cb_f]
        refine t_stH (V rfl) rfl (V rfl) (one_own rfl) Sz33 (by decide) (.inl rfl) <| Nt <| We ?_ ?_
        ·exact ⟨V rfl, V rfl, V rfl, V rfl, V rfl, V rfl, V rfl, V rfl, V rfl, V rfl, V rfl, V rfl, V rfl, V rfl, V rfl, V rfl, V rfl, V rfl, V rfl, V rfl, Z⟩
        ·exact ⟨⟨_, rfl, ⟨rfl, rfl, (An rfl)⟩⟩, ⟨_, rfl, ⟨rfl, rfl, (An rfl)⟩⟩, ⟨_, rfl, rfl⟩, ⟨_, rfl, rfl⟩, Z⟩
       ·intro e he
        have h0 := he 0 (by decide)
        have h1 := he 1 (by decide)
        have h2 := he 2 (by decide)
        have h3 := he 3 (by decide)
        have h4 := he 4 (by decide)
        have h5 := he 5 (by decide)
        have h6 := he 6 (by decide)
        have h7 := he 7 (by decide)
        have h8 := he 8 (by decide)
        have h9 := he 9 (by decide)
        have h10 := he 10 (by decide)
        have h11 := he 11 (by decide)
        have h12 := he 12 (by decide)
        have h13 := he 13 (by decide)
        have h14 := he 14 (by decide)
        have h15 := he 15 (by decide)
        show Weak _ ⟨[(102, cj (e 0) (SV.bp 1 0)), (103, cj (e 1) (SV.own 9)), (104, cj (e 2) (iv (p.pl))), (105, cj (e 3) (SV.bp 1 0)), (106, cj (e 4) (SV.own 9)), (107, cj (e 5) (iv (p.pl))), (108, cj (e 6) (SV.oe 9 8 (Int.toNat p.pl) 0)), (109, cj (e 7) (SV.oe 9 8 (Int.toNat p.pl) 5)), (110, cj (e 8) (SV.own 10)), (111, cj (e 9) (iv (idxI (Nd.kids ((outSt l c.pl).getD (Int.toNat p.pl) default)) ((ah.getD 0 default).pl)))), (112, cj (e 10) (iv (c.pl))), (113, cj (e 11) (inRow ([c.pl]))), (114, cj (e 12) (SV.own 11)), (115, cj (e 13) (SV.oe 9 8 (Int.toNat p.pl) 0)), (116, cj (e 14) (SV.oe 9 8 (Int.toNat p.pl) 5)), (4, SV.bp 1 0), (8, SV.bp 4 0), (11, iv (p.pl)), (12, iv (c.pl)), (13, iv (idxI (Nd.kids ((outSt l c.pl).getD (Int.toNat p.pl) default)) ((ah.getD 0 default).pl)))], (cb (e 12) (cb (e 15) [(1, Own.box 1 (fun zt => SV.renm (rn [(1000, 1), (1001, 8), (0, 9)]) ((cmpG [SV.own 0]) zt)) 24), (4, Own.box 1 (cmpG [SV.v (Value.slice none 0 0)]) 24), (9, urowOf ndCell 8 default (outSt l c.pl) 61 5 Nd.kids inCell 1 0 3 l.length (some (Int.toNat p.pl, SV.own 11))), (11, ownOf inCell 1 0 ((Nd.kids ((outSt l c.pl).getD (Int.toNat p.pl) default)).take (Int.toNat (idxI (Nd.kids ((outSt l c.pl).getD (Int.toNat p.pl) default)) ((ah.getD 0 default).pl))) ++ ([c.pl]) ++ (Nd.kids ((outSt l c.pl).getD (Int.toNat p.pl) default)).drop (Int.toNat (idxI (Nd.kids ((outSt l c.pl).getD (Int.toNat p.pl) default)) ((ah.getD 0 default).pl)))) 3)] [(1, Own.box 1 (fun zt => SV.renm (rn [(1000, 1), (1001, 8), (0, 9)]) ((cmpG [SV.own 0]) zt)) 24), (4, Own.box 1 (cmpG [SV.v (Value.slice none 0 0)]) 24), (9, urowOf ndCell 8 default (outSt l c.pl) 61 5 Nd.kids inCell 1 0 3 l.length (some (Int.toNat p.pl, SV.own 10))), (11, ownOf inCell 1 0 ((Nd.kids ((outSt l c.pl).getD (Int.toNat p.pl) default)).take (Int.toNat (idxI (Nd.kids ((outSt l c.pl).getD (Int.toNat p.pl) default)) ((ah.getD 0 default).pl))) ++ ([c.pl]) ++ (Nd.kids ((outSt l c.pl).getD (Int.toNat p.pl) default)).drop (Int.toNat (idxI (Nd.kids ((outSt l c.pl).getD (Int.toNat p.pl) default)) ((ah.getD 0 default).pl)))) 3)]) (cb (e 15) [] [(1, Own.box 1 (fun zt => SV.renm (rn [(1000, 1), (1001, 8), (0, 9)]) ((cmpG [SV.own 0]) zt)) 24), (4, Own.box 1 (cmpG [SV.v (Value.slice none 0 0)]) 24), (9, urowOf ndCell 8 default (outSt l c.pl) 61 5 Nd.kids inCell 1 0 3 l.length (some (Int.toNat p.pl, SV.own 10))), (10, ownOf inCell 1 0 (Nd.kids ((outSt l c.pl).getD (Int.toNat p.pl) default)) 3)]))⟩ _
        simp only [h0, h1, h2, h3, h4, h5, h6, h7, h8, h9, h10, h11, h12, h13, h14, h15]
        show Weak _ ⟨[(102, SV.bp 1 0), (103, SV.own 9), (104, iv (p.pl)), (105, SV.bp 1 0), (106, SV.own 9), (107, iv (p.pl)), (108, SV.oe 9 8 (Int.toNat p.pl) 0), (109, SV.oe 9 8 (Int.toNat p.pl) 5), (110, SV.own 10), (111, iv (idxI (Nd.kids ((outSt l c.pl).getD (Int.toNat p.pl) default)) ((ah.getD 0 default).pl))), (112, iv (c.pl)), (113, inRow ([c.pl])), (114, SV.own 11), (115, SV.oe 9 8 (Int.toNat p.pl) 0), (116, SV.oe 9 8 (Int.toNat p.pl) 5), (4, SV.bp 1 0), (8, SV.bp 4 0), (11, iv (p.pl)), (12, iv (c.pl)), (13, iv (idxI (Nd.kids ((outSt l c.pl).getD (Int.toNat p.pl) default)) ((ah.getD 0 default).pl)))], [(1, Own.box 1 (fun zt => SV.renm (rn [(1000, 1), (1001, 8), (0, 9)]) ((cmpG [SV.own 0]) zt)) 24), (4, Own.box 1 (cmpG [SV.v (Value.slice none 0 0)]) 24), (9, urowOf ndCell 8 default (outSt l c.pl) 61 5 Nd.kids inCell 1 0 3 l.length (some (Int.toNat p.pl, SV.own 11))), (11, ownOf inCell 1 0 ((Nd.kids ((outSt l c.pl).getD (Int.toNat p.pl) default)).take (Int.toNat (idxI (Nd.kids ((outSt l c.pl).getD (Int.toNat p.pl) default)) ((ah.getD 0 default).pl))) ++ ([c.pl]) ++ (Nd.kids ((outSt l c.pl).getD (Int.toNat p.pl) default)).drop (Int.toNat (idxI (Nd.kids ((outSt l c.pl).getD (Int.toNat p.pl) default)) ((ah.getD 0 default).pl)))) 3)]⟩ _
        refine We ?_ ?_
        ·exact ⟨V rfl, V rfl, V rfl, V rfl, V rfl, V rfl, V rfl, V rfl, V rfl, V rfl, V rfl, V rfl, V rfl, V rfl, V rfl, V rfl, V rfl, V rfl, V rfl, V rfl, Z⟩
        ·exact ⟨⟨_, rfl, ⟨rfl, rfl, (An rfl)⟩⟩, ⟨_, rfl, ⟨rfl, rfl, (An rfl)⟩⟩, ⟨_, rfl, rfl⟩, ⟨_, rfl, rfl⟩, Z⟩
       exact Sq <| Tc (turn_joinT 9 (Int.toNat p.pl) 11 l.length ({ ((outSt l c.pl).getD (Int.toNat p.pl) default) with kids := (Nd.kids ((outSt l c.pl).getD (Int.toNat p.pl) default)).take (Int.toNat (idxI (Nd.kids ((outSt l c.pl).getD (Int.toNat p.pl) default)) ((ah.getD 0 default).pl))) ++ ([c.pl]) ++ (Nd.kids ((outSt l c.pl).getD (Int.toNat p.pl) default)).drop (Int.toNat (idxI (Nd.kids ((outSt l c.pl).getD (Int.toNat p.pl) default)) ((ah.getD 0 default).pl))) }) rfl rfl rfl (by first | omega | (simp only [List.length_set]; omega)) (by omega) (by rw [if_pos (by omega)]) rfl rfl (fun t ht hne => match t, ht, hne with | 0, _, _ => rfl | 1, _, _ => rfl | 2, _, _ => rfl | 3, _, _ => rfl | 4, _, _ => rfl | 5, _, hne => absurd rfl hne | 6, _, _ => rfl | 7, _, _ => rfl) rfl) <| Rt <| U (FlB _ _ (V rfl) Un24 rfl 0 Sz22) <| U (LdB (V rfl) rfl Ga22 (by decide)) <| U (Mv (V rfl)) <| U (Mv (V rfl)) <| U (q_idxU (V rfl) rfl (V rfl) ts22 te22 (by omega) (by first | omega | (simp only [List.length_set]; omega))) <| U (FlO _ _ (V rfl) Un61 rfl 0 Sz3) <| t_stUT ({ (((outSt l c.pl).set (Int.toNat p.pl) ({ ((outSt l c.pl).getD (Int.toNat p.pl) default) with kids := (Nd.kids ((outSt l c.pl).getD (Int.toNat p.pl) default)).take (Int.toNat (idxI (Nd.kids ((outSt l c.pl).getD (Int.toNat p.pl) default)) ((ah.getD 0 default).pl))) ++ ([c.pl]) ++ (Nd.kids ((outSt l c.pl).getD (Int.toNat p.pl) default)).drop (Int.toNat (idxI (Nd.kids ((outSt l c.pl).getD (Int.toNat p.pl) default)) ((ah.getD 0 default).pl))) })).getD (Int.toNat c.pl) default) with par := p.pl }) (V rfl) rfl (V rfl) rfl rfl Sz3 (by decide) (by decide) (by first | omega | (simp only [List.length_set]; omega)) rfl (fun t ht hne => match t, ht, hne with | 0, _, _ => rfl | 1, _, _ => rfl | 2, _, _ => rfl | 3, _, _ => rfl | 4, _, hne => absurd rfl hne | 5, _, _ => rfl | 6, _, _ => rfl | 7, _, _ => rfl) rfl <| Nt <| Sq <| Rt <| U (LBA (V rfl) rfl Ga24 Sz24 (by decide)) <| StA (V rfl) rfl (V rfl) Sz24 <| U (As K) <| Nt <| Tc (turn_uAT 9 rfl rfl (fun _ => rfl)) <| FzC 9 rfl <| Rx <| RR2 rfl (rv_aggI (g' := stG (((outSt l c.pl).set (Int.toNat p.pl) ({ ((outSt l c.pl).getD (Int.toNat p.pl) default) with kids := (Nd.kids ((outSt l c.pl).getD (Int.toNat p.pl) default)).take (Int.toNat (idxI (Nd.kids ((outSt l c.pl).getD (Int.toNat p.pl) default)) ((ah.getD 0 default).pl))) ++ ([c.pl]) ++ (Nd.kids ((outSt l c.pl).getD (Int.toNat p.pl) default)).drop (Int.toNat (idxI (Nd.kids ((outSt l c.pl).getD (Int.toNat p.pl) default)) ((ah.getD 0 default).pl))) })).set (Int.toNat c.pl) ({ (((outSt l c.pl).set (Int.toNat p.pl) ({ ((outSt l c.pl).getD (Int.toNat p.pl) default) with kids := (Nd.kids ((outSt l c.pl).getD (Int.toNat p.pl) default)).take (Int.toNat (idxI (Nd.kids ((outSt l c.pl).getD (Int.toNat p.pl) default)) ((ah.getD 0 default).pl))) ++ ([c.pl]) ++ (Nd.kids ((outSt l c.pl).getD (Int.toNat p.pl) default)).drop (Int.toNat (idxI (Nd.kids ((outSt l c.pl).getD (Int.toNat p.pl) default)) ((ah.getD 0 default).pl))) })).getD (Int.toNat c.pl) default) with par := p.pl }))) (rv_cell (V rfl) rfl Ga24 Sz24) ⟨Z, Ir⟩) (rv_tmp (V rfl)) rfl rfl (by show sv2 (SV.agg 1 (stG (((outSt l c.pl).set (Int.toNat p.pl) ({ ((outSt l c.pl).getD (Int.toNat p.pl) default) with kids := (Nd.kids ((outSt l c.pl).getD (Int.toNat p.pl) default)).take (Int.toNat (idxI (Nd.kids ((outSt l c.pl).getD (Int.toNat p.pl) default)) ((ah.getD 0 default).pl))) ++ ([c.pl]) ++ (Nd.kids ((outSt l c.pl).getD (Int.toNat p.pl) default)).drop (Int.toNat (idxI (Nd.kids ((outSt l c.pl).getD (Int.toNat p.pl) default)) ((ah.getD 0 default).pl))) })).set (Int.toNat c.pl) ({ (((outSt l c.pl).set (Int.toNat p.pl) ({ ((outSt l c.pl).getD (Int.toNat p.pl) default) with kids := (Nd.kids ((outSt l c.pl).getD (Int.toNat p.pl) default)).take (Int.toNat (idxI (Nd.kids ((outSt l c.pl).getD (Int.toNat p.pl) default)) ((ah.getD 0 default).pl))) ++ ([c.pl]) ++ (Nd.kids ((outSt l c.pl).getD (Int.toNat p.pl) default)).drop (Int.toNat (idxI (Nd.kids ((outSt l c.pl).getD (Int.toNat p.pl) default)) ((ah.getD 0 default).pl))) })).getD (Int.toNat c.pl) default) with par := p.pl })))) (iv (0)) = sv2 (SV.agg 1 (stG (insSt l p c ah).1)) (iv (insSt l p c ah).2); rw [ins_6 (by omega) hc2s hq3 hq4 hq5, insPos, if_pos hah]; rfl)
      ·have hc6s := hc6; try simp only [BL] at hc6s
       refine Sk <| Sq <| c_rd (fun e => ⟨[(102, cj (e 0) (SV.bp 1 0)), (103, cj (e 1) (SV.own 9)), (104, cj (e 2) (iv (p.pl))), (105, cj (e 3) (SV.bp 1 0)), (106, cj (e 4) (SV.own 9)), (107, cj (e 5) (iv (p.pl))), (108, cj (e 6) (SV.oe 9 8 (Int.toNat p.pl) 0)), (109, cj (e 7) (SV.oe 9 8 (Int.toNat p.pl) 5)), (110, cj (e 8) (SV.own 10)), (111, cj (e 9) (iv (((Nd.kids ((outSt l c.pl).getD (Int.toNat p.pl) default)).length : Int)))), (112, cj (e 10) (iv (c.pl))), (113, cj (e 11) (inRow ([c.pl]))), (114, cj (e 12) (SV.own 12)), (115, cj (e 13) (SV.oe 9 8 (Int.toNat p.pl) 0)), (116, cj (e 14) (SV.oe 9 8 (Int.toNat p.pl) 5)), (4, SV.bp 1 0), (8, SV.bp 4 0), (11, iv (p.pl)), (12, iv (c.pl)), (13, iv (((Nd.kids ((outSt l c.pl).getD (Int.toNat p.pl) default)).length : Int)))], (cb (e 12) (cb (e 15) [(1, Own.box 1 (fun zt => SV.renm (rn [(1000, 1), (1001, 8), (0, 9)]) ((cmpG [SV.own 0]) zt)) 24), (4, Own.box 1 (cmpG [SV.v (Value.slice none 0 0)]) 24), (9, urowOf ndCell 8 default (outSt l c.pl) 61 5 Nd.kids inCell 1 0 3 l.length (some (Int.toNat p.pl, SV.own 12))), (12, ownOf inCell 1 0 ((Nd.kids ((outSt l c.pl).getD (Int.toNat p.pl) default)).take ((Nd.kids ((outSt l c.pl).getD (Int.toNat p.pl) default)).length) ++ ([c.pl]) ++ (Nd.kids ((outSt l c.pl).getD (Int.toNat p.pl) default)).drop ((Nd.kids ((outSt l c.pl).getD (Int.toNat p.pl) default)).length)) 3)] [(1, Own.box 1 (fun zt => SV.renm (rn [(1000, 1), (1001, 8), (0, 9)]) ((cmpG [SV.own 0]) zt)) 24), (4, Own.box 1 (cmpG [SV.v (Value.slice none 0 0)]) 24), (9, urowOf ndCell 8 default (outSt l c.pl) 61 5 Nd.kids inCell 1 0 3 l.length (some (Int.toNat p.pl, SV.own 10))), (12, ownOf inCell 1 0 ((Nd.kids ((outSt l c.pl).getD (Int.toNat p.pl) default)).take ((Nd.kids ((outSt l c.pl).getD (Int.toNat p.pl) default)).length) ++ ([c.pl]) ++ (Nd.kids ((outSt l c.pl).getD (Int.toNat p.pl) default)).drop ((Nd.kids ((outSt l c.pl).getD (Int.toNat p.pl) default)).length)) 3)]) (cb (e 15) [] [(1, Own.box 1 (fun zt => SV.renm (rn [(1000, 1), (1001, 8), (0, 9)]) ((cmpG [SV.own 0]) zt)) 24), (4, Own.box 1 (cmpG [SV.v (Value.slice none 0 0)]) 24), (9, urowOf ndCell 8 default (outSt l c.pl) 61 5 Nd.kids inCell 1 0 3 l.length (some (Int.toNat p.pl, SV.own 10))), (10, ownOf inCell 1 0 (Nd.kids ((outSt l c.pl).getD (Int.toNat p.pl) default)) 3)]))⟩) ⟨[(102, SV.bp 1 0), (103, SV.own 9), (104, iv (p.pl)), (105, SV.bp 1 0), (106, SV.own 9), (107, iv (p.pl)), (108, SV.oe 9 8 (Int.toNat p.pl) 0), (109, SV.oe 9 8 (Int.toNat p.pl) 5), (110, SV.own 10), (111, iv (((Nd.kids ((outSt l c.pl).getD (Int.toNat p.pl) default)).length : Int))), (112, iv (c.pl)), (113, inRow ([c.pl])), (114, SV.own 12), (115, SV.oe 9 8 (Int.toNat p.pl) 0), (116, SV.oe 9 8 (Int.toNat p.pl) 5), (4, SV.bp 1 0), (8, SV.bp 4 0), (11, iv (p.pl)), (12, iv (c.pl)), (13, iv (((Nd.kids ((outSt l c.pl).getD (Int.toNat p.pl) default)).length : Int)))], [(1, Own.box 1 (fun zt => SV.renm (rn [(1000, 1), (1001, 8), (0, 9)]) ((cmpG [SV.own 0]) zt)) 24), (4, Own.box 1 (cmpG [SV.v (Value.slice none 0 0)]) 24), (9, urowOf ndCell 8 default (outSt l c.pl) 61 5 Nd.kids inCell 1 0 3 l.length (some (Int.toNat p.pl, SV.own 12))), (12, ownOf inCell 1 0 ((Nd.kids ((outSt l c.pl).getD (Int.toNat p.pl) default)).take ((Nd.kids ((outSt l c.pl).getD (Int.toNat p.pl) default)).length) ++ ([c.pl]) ++ (Nd.kids ((outSt l c.pl).getD (Int.toNat p.pl) default)).drop ((Nd.kids ((outSt l c.pl).getD (Int.toNat p.pl) default)).length)) 3)]⟩ (by kernel_rfl) (by kernel_rfl) ?_ ⟨?_, ?_, ?_, ?_, ?_, ?_, ?_, ?_, ?_, ?_, ?_, ?_, ?_, ?_, ?_, ?_, Z⟩ ?_ ?_
       ·show Weak _ _ ⟨[(102, SV.junk), (103, SV.junk), (104, SV.junk), (105, SV.junk), (106, SV.junk), (107, SV.junk), (108, SV.junk), (109, SV.junk), (110, SV.junk), (111, SV.junk), (112, SV.junk), (113, SV.junk), (114, SV.junk), (115, SV.junk), (116, SV.junk), (4, SV.bp 1 0), (8, SV.bp 4 0), (11, iv (p.pl)), (12, iv (c.pl)), (13, iv (((Nd.kids ((outSt l c.pl).getD (Int.toNat p.pl) default)).length : Int)))], [(1, Own.box 1 (fun zt => SV.renm (rn [(1000, 1), (1001, 8), (0, 9)]) ((cmpG [SV.own 0]) zt)) 24), (4, Own.box 1 (cmpG [SV.v (Value.slice none 0 0)]) 24), (9, urowOf ndCell 8 default (outSt l c.pl) 61 5 Nd.kids inCell 1 0 3 l.length (some (Int.toNat p.pl, SV.own 10))), (10, ownOf inCell 1 0 (Nd.kids ((outSt l c.pl).getD (Int.toNat p.pl) default)) 3)]⟩
        refine We ?_ ?_
        ·exact ⟨Vj, Vj, Vj, Vj, Vj, Vj, Vj, Vj, Vj, Vj, Vj, Vj, Vj, Vj, Vj, V rfl, V rfl, V rfl, V rfl, V rfl, Z⟩
        ·exact ⟨⟨_, rfl, ⟨rfl, rfl, (An rfl)⟩⟩, ⟨_, rfl, ⟨rfl, rfl, (An rfl)⟩⟩, ⟨_, rfl, rfl⟩, ⟨_, rfl, rfl⟩, Z⟩
       ·intro e hdn he hdp
        have h15 : e 15 = false := fls he fun q => by obtain ⟨r14, -, -, -, -, -, -, -, -, -, -, -, -, -, -, -, -⟩ := (show e 14 = true ∧ e 12 = true ∧ e 12 = true ∧ e 0 = true ∧ e 1 = true ∧ e 2 = true ∧ e 3 = true ∧ e 4 = true ∧ e 5 = true ∧ e 6 = true ∧ e 7 = true ∧ e 8 = true ∧ e 9 = true ∧ e 10 = true ∧ e 11 = true ∧ e 12 = true ∧ True from hdn 15 q); obtain ⟨r13, -, -, -, -, -, -, -, -, -, -, -, -, -, -⟩ := (show e 13 = true ∧ e 0 = true ∧ e 1 = true ∧ e 2 = true ∧ e 3 = true ∧ e 4 = true ∧ e 5 = true ∧ e 6 = true ∧ e 7 = true ∧ e 8 = true ∧ e 9 = true ∧ e 10 = true ∧ e 11 = true ∧ e 12 = true ∧ True from hdn 14 r14); obtain ⟨r1, -, -, -, -, -, -, -, -, -, -, -, -, -, -, -⟩ := (show e 1 = true ∧ e 2 = true ∧ e 0 = true ∧ e 1 = true ∧ e 2 = true ∧ e 3 = true ∧ e 4 = true ∧ e 5 = true ∧ e 6 = true ∧ e 7 = true ∧ e 8 = true ∧ e 9 = true ∧ e 10 = true ∧ e 11 = true ∧ e 12 = true ∧ True from hdn 13 r13); obtain ⟨r0, -⟩ := (show e 0 = true ∧ True from hdn 1 r1); exact r0
        simp only [setE, he, h15, cj_t, cj_f, cjn_t, cjn_f, cb_t, cb_f]
        exact U (FlB _ _ (V rfl) Un24 rfl 0 Sz22) <| Nt <| weakS ⟨V rfl, V rfl, V rfl, V rfl, V rfl, V rfl, V rfl, V rfl, V rfl, V rfl, V rfl, V rfl, V rfl, V rfl, V rfl, V rfl, V rfl, V rfl, V rfl, V rfl, Z⟩
       ·intro e hdn he hdp
        obtain ⟨h0, -⟩ := (show e 0 = true ∧ True from hdp)
        have h15 : e 15 = false := fls he fun q => by obtain ⟨r14, -, -, -, -, -, -, -, -, -, -, -, -, -, -, -, -⟩ := (show e 14 = true ∧ e 12 = true ∧ e 12 = true ∧ e 0 = true ∧ e 1 = true ∧ e 2 = true ∧ e 3 = true ∧ e 4 = true ∧ e 5 = true ∧ e 6 = true ∧ e 7 = true ∧ e 8 = true ∧ e 9 = true ∧ e 10 = true ∧ e 11 = true ∧ e 12 = true ∧ True from hdn 15 q); obtain ⟨r13, -, -, -, -, -, -, -, -, -, -, -, -, -, -⟩ := (show e 13 = true ∧ e 0 = true ∧ e 1 = true ∧ e 2 = true ∧ e 3 = true ∧ e 4 = true ∧ e 5 = true ∧ e 6 = true ∧ e 7 = true ∧ e 8 = true ∧ e 9 = true ∧ e 10 = true ∧ e 11 = true ∧ e 12 = true ∧ True from hdn 14 r14); obtain ⟨r1, -, -, -, -, -, -, -, -, -, -, -, -, -, -, -⟩ := (show e 1 = true ∧ e 2 = true ∧ e 0 = true ∧ e 1 = true ∧ e 2 = true ∧ e 3 = true ∧ e 4 = true ∧ e 5 = true ∧ e 6 = true ∧ e 7 = true ∧ e 8 = true ∧ e 9 = true ∧ e 10 = true ∧ e 11 = true ∧ e 12 = true ∧ True from hdn 13 r13); exact r1
        cases hu12 : e 12
        ·simp only [setE, h0, he, h15, hu12, cj_t, cj_f, cjn_t, cjn_f, cb_t, cb_f]
         refine U (LdB (V rfl) rfl Ga22 (by decide)) <| Nt <| We ?_ ?_
         ·exact ⟨V rfl, V rfl, V rfl, V rfl, V rfl, V rfl, V rfl, V rfl, V rfl, V rfl, V rfl, V rfl, Vj, V rfl, V rfl, V rfl, V rfl, V rfl, V rfl, V rfl, Z⟩
         ·exact ⟨⟨_, rfl, ⟨rfl, rfl, (An rfl)⟩⟩, ⟨_, rfl, ⟨rfl, rfl, (An rfl)⟩⟩, ⟨_, rfl, rfl⟩, ⟨_, rfl, rfl⟩, Z⟩
        ·simp only [setE, h0, he, h15, hu12, cj_t, cj_f, cjn_t, cjn_f, cb_t, cb_f]
         refine U (LdB (V rfl) rfl Ga22 (by decide)) <| Nt <| We ?_ ?_
         ·exact ⟨V rfl, V rfl, V rfl, V rfl, V rfl, V rfl, V rfl, V rfl, V rfl, V rfl, V rfl, V rfl, V rfl, V rfl, V rfl, V rfl, V rfl, V rfl, V rfl, V rfl, Z⟩
         ·exact ⟨⟨_, rfl, ⟨rfl, rfl, (An rfl)⟩⟩, ⟨_, rfl, ⟨rfl, rfl, (An rfl)⟩⟩, ⟨_, rfl, rfl⟩, ⟨_, rfl, rfl⟩, Z⟩
       ·intro e hdn he hdp
        have h15 : e 15 = false := fls he fun q => by obtain ⟨r14, -, -, -, -, -, -, -, -, -, -, -, -, -, -, -, -⟩ := (show e 14 = true ∧ e 12 = true ∧ e 12 = true ∧ e 0 = true ∧ e 1 = true ∧ e 2 = true ∧ e 3 = true ∧ e 4 = true ∧ e 5 = true ∧ e 6 = true ∧ e 7 = true ∧ e 8 = true ∧ e 9 = true ∧ e 10 = true ∧ e 11 = true ∧ e 12 = true ∧ True from hdn 15 q); obtain ⟨r13, -, -, -, -, -, -, -, -, -, -, -, -, -, -⟩ := (show e 13 = true ∧ e 0 = true ∧ e 1 = true ∧ e 2 = true ∧ e 3 = true ∧ e 4 = true ∧ e 5 = true ∧ e 6 = true ∧ e 7 = true ∧ e 8 = true ∧ e 9 = true ∧ e 10 = true ∧ e 11 = true ∧ e 12 = true ∧ True from hdn 14 r14); obtain ⟨-, r2, -, -, -, -, -, -, -, -, -, -, -, -, -, -⟩ := (show e 1 = true ∧ e 2 = true ∧ e 0 = true ∧ e 1 = true ∧ e 2 = true ∧ e 3 = true ∧ e 4 = true ∧ e 5 = true ∧ e 6 = true ∧ e 7 = true ∧ e 8 = true ∧ e 9 = true ∧ e 10 = true ∧ e 11 = true ∧ e 12 = true ∧ True from hdn 13 r13); exact r2
        simp only [setE, he, h15, cj_t, cj_f, cjn_t, cjn_f, cb_t, cb_f]
        exact U (Mv (V rfl)) <| Nt <| weakS ⟨V rfl, V rfl, V rfl, V rfl, V rfl, V rfl, V rfl, V rfl, V rfl, V rfl, V rfl, V rfl, V rfl, V rfl, V rfl, V rfl, V rfl, V rfl, V rfl, V rfl, Z⟩
       ·intro e hdn he hdp
        have h12 : e 12 = false := fls he fun q => by obtain ⟨r8, -, -, -⟩ := (show e 8 = true ∧ e 9 = true ∧ e 11 = true ∧ True from hdn 12 q); obtain ⟨r7, -⟩ := (show e 7 = true ∧ True from hdn 8 r8); obtain ⟨r6, -⟩ := (show e 6 = true ∧ True from hdn 7 r7); obtain ⟨r4, -, -⟩ := (show e 4 = true ∧ e 5 = true ∧ True from hdn 6 r6); obtain ⟨r3, -⟩ := (show e 3 = true ∧ True from hdn 4 r4); exact r3
        have h15 : e 15 = false := fls he fun q => by obtain ⟨r14, -, -, -, -, -, -, -, -, -, -, -, -, -, -, -, -⟩ := (show e 14 = true ∧ e 12 = true ∧ e 12 = true ∧ e 0 = true ∧ e 1 = true ∧ e 2 = true ∧ e 3 = true ∧ e 4 = true ∧ e 5 = true ∧ e 6 = true ∧ e 7 = true ∧ e 8 = true ∧ e 9 = true ∧ e 10 = true ∧ e 11 = true ∧ e 12 = true ∧ True from hdn 15 q); obtain ⟨r13, -, -, -, -, -, -, -, -, -, -, -, -, -, -⟩ := (show e 13 = true ∧ e 0 = true ∧ e 1 = true ∧ e 2 = true ∧ e 3 = true ∧ e 4 = true ∧ e 5 = true ∧ e 6 = true ∧ e 7 = true ∧ e 8 = true ∧ e 9 = true ∧ e 10 = true ∧ e 11 = true ∧ e 12 = true ∧ True from hdn 14 r14); obtain ⟨-, -, -, -, -, -, -, -, -, -, -, -, -, -, r12, -⟩ := (show e 1 = true ∧ e 2 = true ∧ e 0 = true ∧ e 1 = true ∧ e 2 = true ∧ e 3 = true ∧ e 4 = true ∧ e 5 = true ∧ e 6 = true ∧ e 7 = true ∧ e 8 = true ∧ e 9 = true ∧ e 10 = true ∧ e 11 = true ∧ e 12 = true ∧ True from hdn 13 r13); obtain ⟨r8, -, -, -⟩ := (show e 8 = true ∧ e 9 = true ∧ e 11 = true ∧ True from hdn 12 r12); obtain ⟨r7, -⟩ := (show e 7 = true ∧ True from hdn 8 r8); obtain ⟨r6, -⟩ := (show e 6 = true ∧ True from hdn 7 r7); obtain ⟨r4, -, -⟩ := (show e 4 = true ∧ e 5 = true ∧ True from hdn 6 r6); obtain ⟨r3, -⟩ := (show e 3 = true ∧ True from hdn 4 r4); exact r3
        simp only [setE, he, h12, h15, cj_t, cj_f, cjn_t, cjn_f, cb_t, cb_f]
        refine U (FlB _ _ (V rfl) Un24 rfl 0 Sz22) <| Nt <| We ?_ ?_
        ·exact ⟨V rfl, V rfl, V rfl, V rfl, V rfl, V rfl, V rfl, V rfl, V rfl, V rfl, V rfl, V rfl, Vj, V rfl, V rfl, V rfl, V rfl, V rfl, V rfl, V rfl, Z⟩
        ·exact ⟨⟨_, rfl, ⟨rfl, rfl, (An rfl)⟩⟩, ⟨_, rfl, ⟨rfl, rfl, (An rfl)⟩⟩, ⟨_, rfl, rfl⟩, ⟨_, rfl, rfl⟩, Z⟩
       ·intro e hdn he hdp
        obtain ⟨h3, -⟩ := (show e 3 = true ∧ True from hdp)
        have h12 : e 12 = false := fls he fun q => by obtain ⟨r8, -, -, -⟩ := (show e 8 = true ∧ e 9 = true ∧ e 11 = true ∧ True from hdn 12 q); obtain ⟨r7, -⟩ := (show e 7 = true ∧ True from hdn 8 r8); obtain ⟨r6, -⟩ := (show e 6 = true ∧ True from hdn 7 r7); obtain ⟨r4, -, -⟩ := (show e 4 = true ∧ e 5 = true ∧ True from hdn 6 r6); exact r4
        have h15 : e 15 = false := fls he fun q => by obtain ⟨r14, -, -, -, -, -, -, -, -, -, -, -, -, -, -, -, -⟩ := (show e 14 = true ∧ e 12 = true ∧ e 12 = true ∧ e 0 = true ∧ e 1 = true ∧ e 2 = true ∧ e 3 = true ∧ e 4 = true ∧ e 5 = true ∧ e 6 = true ∧ e 7 = true ∧ e 8 = true ∧ e 9 = true ∧ e 10 = true ∧ e 11 = true ∧ e 12 = true ∧ True from hdn 15 q); obtain ⟨r13, -, -, -, -, -, -, -, -, -, -, -, -, -, -⟩ := (show e 13 = true ∧ e 0 = true ∧ e 1 = true ∧ e 2 = true ∧ e 3 = true ∧ e 4 = true ∧ e 5 = true ∧ e 6 = true ∧ e 7 = true ∧ e 8 = true ∧ e 9 = true ∧ e 10 = true ∧ e 11 = true ∧ e 12 = true ∧ True from hdn 14 r14); obtain ⟨-, -, -, -, -, -, -, -, -, -, -, -, -, -, r12, -⟩ := (show e 1 = true ∧ e 2 = true ∧ e 0 = true ∧ e 1 = true ∧ e 2 = true ∧ e 3 = true ∧ e 4 = true ∧ e 5 = true ∧ e 6 = true ∧ e 7 = true ∧ e 8 = true ∧ e 9 = true ∧ e 10 = true ∧ e 11 = true ∧ e 12 = true ∧ True from hdn 13 r13); obtain ⟨r8, -, -, -⟩ := (show e 8 = true ∧ e 9 = true ∧ e 11 = true ∧ True from hdn 12 r12); obtain ⟨r7, -⟩ := (show e 7 = true ∧ True from hdn 8 r8); obtain ⟨r6, -⟩ := (show e 6 = true ∧ True from hdn 7 r7); obtain ⟨r4, -, -⟩ := (show e 4 = true ∧ e 5 = true ∧ True from hdn 6 r6); exact r4
        simp only [setE, h3, he, h12, h15, cj_t, cj_f, cjn_t, cjn_f, cb_t, cb_f]
        refine U (LdB (V rfl) rfl Ga22 (by decide)) <| Nt <| We ?_ ?_
        ·exact ⟨V rfl, V rfl, V rfl, V rfl, V rfl, V rfl, V rfl, V rfl, V rfl, V rfl, V rfl, V rfl, Vj, V rfl, V rfl, V rfl, V rfl, V rfl, V rfl, V rfl, Z⟩
        ·exact ⟨⟨_, rfl, ⟨rfl, rfl, (An rfl)⟩⟩, ⟨_, rfl, ⟨rfl, rfl, (An rfl)⟩⟩, ⟨_, rfl, rfl⟩, ⟨_, rfl, rfl⟩, Z⟩
       ·intro e hdn he hdp
        have h12 : e 12 = false := fls he fun q => by obtain ⟨r8, -, -, -⟩ := (show e 8 = true ∧ e 9 = true ∧ e 11 = true ∧ True from hdn 12 q); obtain ⟨r7, -⟩ := (show e 7 = true ∧ True from hdn 8 r8); obtain ⟨r6, -⟩ := (show e 6 = true ∧ True from hdn 7 r7); obtain ⟨-, r5, -⟩ := (show e 4 = true ∧ e 5 = true ∧ True from hdn 6 r6); exact r5
        have h15 : e 15 = false := fls he fun q => by obtain ⟨r14, -, -, -, -, -, -, -, -, -, -, -, -, -, -, -, -⟩ := (show e 14 = true ∧ e 12 = true ∧ e 12 = true ∧ e 0 = true ∧ e 1 = true ∧ e 2 = true ∧ e 3 = true ∧ e 4 = true ∧ e 5 = true ∧ e 6 = true ∧ e 7 = true ∧ e 8 = true ∧ e 9 = true ∧ e 10 = true ∧ e 11 = true ∧ e 12 = true ∧ True from hdn 15 q); obtain ⟨r13, -, -, -, -, -, -, -, -, -, -, -, -, -, -⟩ := (show e 13 = true ∧ e 0 = true ∧ e 1 = true ∧ e 2 = true ∧ e 3 = true ∧ e 4 = true ∧ e 5 = true ∧ e 6 = true ∧ e 7 = true ∧ e 8 = true ∧ e 9 = true ∧ e 10 = true ∧ e 11 = true ∧ e 12 = true ∧ True from hdn 14 r14); obtain ⟨-, -, -, -, -, -, -, -, -, -, -, -, -, -, r12, -⟩ := (show e 1 = true ∧ e 2 = true ∧ e 0 = true ∧ e 1 = true ∧ e 2 = true ∧ e 3 = true ∧ e 4 = true ∧ e 5 = true ∧ e 6 = true ∧ e 7 = true ∧ e 8 = true ∧ e 9 = true ∧ e 10 = true ∧ e 11 = true ∧ e 12 = true ∧ True from hdn 13 r13); obtain ⟨r8, -, -, -⟩ := (show e 8 = true ∧ e 9 = true ∧ e 11 = true ∧ True from hdn 12 r12); obtain ⟨r7, -⟩ := (show e 7 = true ∧ True from hdn 8 r8); obtain ⟨r6, -⟩ := (show e 6 = true ∧ True from hdn 7 r7); obtain ⟨-, r5, -⟩ := (show e 4 = true ∧ e 5 = true ∧ True from hdn 6 r6); exact r5
        simp only [setE, he, h12, h15, cj_t, cj_f, cjn_t, cjn_f, cb_t, cb_f]
        refine U (Mv (V rfl)) <| Nt <| We ?_ ?_
        ·exact ⟨V rfl, V rfl, V rfl, V rfl, V rfl, V rfl, V rfl, V rfl, V rfl, V rfl, V rfl, V rfl, Vj, V rfl, V rfl, V rfl, V rfl, V rfl, V rfl, V rfl, Z⟩
        ·exact ⟨⟨_, rfl, ⟨rfl, rfl, (An rfl)⟩⟩, ⟨_, rfl, ⟨rfl, rfl, (An rfl)⟩⟩, ⟨_, rfl, rfl⟩, ⟨_, rfl, rfl⟩, Z⟩
       ·intro e hdn he hdp
        obtain ⟨h4, h5, -⟩ := (show e 4 = true ∧ e 5 = true ∧ True from hdp)
        obtain ⟨h3, -⟩ := (show e 3 = true ∧ True from hdn 4 h4)
        have h12 : e 12 = false := fls he fun q => by obtain ⟨r8, -, -, -⟩ := (show e 8 = true ∧ e 9 = true ∧ e 11 = true ∧ True from hdn 12 q); obtain ⟨r7, -⟩ := (show e 7 = true ∧ True from hdn 8 r8); obtain ⟨r6, -⟩ := (show e 6 = true ∧ True from hdn 7 r7); exact r6
        have h15 : e 15 = false := fls he fun q => by obtain ⟨r14, -, -, -, -, -, -, -, -, -, -, -, -, -, -, -, -⟩ := (show e 14 = true ∧ e 12 = true ∧ e 12 = true ∧ e 0 = true ∧ e 1 = true ∧ e 2 = true ∧ e 3 = true ∧ e 4 = true ∧ e 5 = true ∧ e 6 = true ∧ e 7 = true ∧ e 8 = true ∧ e 9 = true ∧ e 10 = true ∧ e 11 = true ∧ e 12 = true ∧ True from hdn 15 q); obtain ⟨r13, -, -, -, -, -, -, -, -, -, -, -, -, -, -⟩ := (show e 13 = true ∧ e 0 = true ∧ e 1 = true ∧ e 2 = true ∧ e 3 = true ∧ e 4 = true ∧ e 5 = true ∧ e 6 = true ∧ e 7 = true ∧ e 8 = true ∧ e 9 = true ∧ e 10 = true ∧ e 11 = true ∧ e 12 = true ∧ True from hdn 14 r14); obtain ⟨-, -, -, -, -, -, -, -, -, -, -, -, -, -, r12, -⟩ := (show e 1 = true ∧ e 2 = true ∧ e 0 = true ∧ e 1 = true ∧ e 2 = true ∧ e 3 = true ∧ e 4 = true ∧ e 5 = true ∧ e 6 = true ∧ e 7 = true ∧ e 8 = true ∧ e 9 = true ∧ e 10 = true ∧ e 11 = true ∧ e 12 = true ∧ True from hdn 13 r13); obtain ⟨r8, -, -, -⟩ := (show e 8 = true ∧ e 9 = true ∧ e 11 = true ∧ True from hdn 12 r12); obtain ⟨r7, -⟩ := (show e 7 = true ∧ True from hdn 8 r8); obtain ⟨r6, -⟩ := (show e 6 = true ∧ True from hdn 7 r7); exact r6
        simp only [setE, h3, h4, h5, he, h12, h15, cj_t, cj_f, cjn_t, cjn_f, cb_t, cb_f]
        refine U (q_idxU (V rfl) rfl (V rfl) ts22 te22 (by omega) (by first | omega | (simp only [List.length_set]; omega))) <| Nt <| We ?_ ?_
        ·exact ⟨V rfl, V rfl, V rfl, V rfl, V rfl, V rfl, V rfl, V rfl, V rfl, V rfl, V rfl, V rfl, Vj, V rfl, V rfl, V rfl, V rfl, V rfl, V rfl, V rfl, Z⟩
        ·exact ⟨⟨_, rfl, ⟨rfl, rfl, (An rfl)⟩⟩, ⟨_, rfl, ⟨rfl, rfl, (An rfl)⟩⟩, ⟨_, rfl, rfl⟩, ⟨_, rfl, rfl⟩, Z⟩
       ·intro e hdn he hdp
        obtain ⟨h6, -⟩ := (show e 6 = true ∧ True from hdp)
        obtain ⟨h4, h5, -⟩ := (show e 4 = true ∧ e 5 = true ∧ True from hdn 6 h6)
        obtain ⟨h3, -⟩ := (show e 3 = true ∧ True from hdn 4 h4)
        have h12 : e 12 = false := fls he fun q => by obtain ⟨r8, -, -, -⟩ := (show e 8 = true ∧ e 9 = true ∧ e 11 = true ∧ True from hdn 12 q); obtain ⟨r7, -⟩ := (show e 7 = true ∧ True from hdn 8 r8); exact r7
        have h15 : e 15 = false := fls he fun q => by obtain ⟨r14, -, -, -, -, -, -, -, -, -, -, -, -, -, -, -, -⟩ := (show e 14 = true ∧ e 12 = true ∧ e 12 = true ∧ e 0 = true ∧ e 1 = true ∧ e 2 = true ∧ e 3 = true ∧ e 4 = true ∧ e 5 = true ∧ e 6 = true ∧ e 7 = true ∧ e 8 = true ∧ e 9 = true ∧ e 10 = true ∧ e 11 = true ∧ e 12 = true ∧ True from hdn 15 q); obtain ⟨r13, -, -, -, -, -, -, -, -, -, -, -, -, -, -⟩ := (show e 13 = true ∧ e 0 = true ∧ e 1 = true ∧ e 2 = true ∧ e 3 = true ∧ e 4 = true ∧ e 5 = true ∧ e 6 = true ∧ e 7 = true ∧ e 8 = true ∧ e 9 = true ∧ e 10 = true ∧ e 11 = true ∧ e 12 = true ∧ True from hdn 14 r14); obtain ⟨-, -, -, -, -, -, -, -, -, -, -, -, -, -, r12, -⟩ := (show e 1 = true ∧ e 2 = true ∧ e 0 = true ∧ e 1 = true ∧ e 2 = true ∧ e 3 = true ∧ e 4 = true ∧ e 5 = true ∧ e 6 = true ∧ e 7 = true ∧ e 8 = true ∧ e 9 = true ∧ e 10 = true ∧ e 11 = true ∧ e 12 = true ∧ True from hdn 13 r13); obtain ⟨r8, -, -, -⟩ := (show e 8 = true ∧ e 9 = true ∧ e 11 = true ∧ True from hdn 12 r12); obtain ⟨r7, -⟩ := (show e 7 = true ∧ True from hdn 8 r8); exact r7
        simp only [setE, h3, h4, h5, h6, he, h12, h15, cj_t, cj_f, cjn_t, cjn_f, cb_t, cb_f]
        refine U (FlO _ _ (V rfl) Un61 rfl 0 Sz33) <| Nt <| We ?_ ?_
        ·exact ⟨V rfl, V rfl, V rfl, V rfl, V rfl, V rfl, V rfl, V rfl, V rfl, V rfl, V rfl, V rfl, Vj, V rfl, V rfl, V rfl, V rfl, V rfl, V rfl, V rfl, Z⟩
        ·exact ⟨⟨_, rfl, ⟨rfl, rfl, (An rfl)⟩⟩, ⟨_, rfl, ⟨rfl, rfl, (An rfl)⟩⟩, ⟨_, rfl, rfl⟩, ⟨_, rfl, rfl⟩, Z⟩
       ·intro e hdn he hdp
        obtain ⟨h7, -⟩ := (show e 7 = true ∧ True from hdp)
        obtain ⟨h6, -⟩ := (show e 6 = true ∧ True from hdn 7 h7)
        obtain ⟨h4, h5, -⟩ := (show e 4 = true ∧ e 5 = true ∧ True from hdn 6 h6)
        obtain ⟨h3, -⟩ := (show e 3 = true ∧ True from hdn 4 h4)
        have h12 : e 12 = false := fls he fun q => by obtain ⟨r8, -, -, -⟩ := (show e 8 = true ∧ e 9 = true ∧ e 11 = true ∧ True from hdn 12 q); exact r8
        have h15 : e 15 = false := fls he fun q => by obtain ⟨r14, -, -, -, -, -, -, -, -, -, -, -, -, -, -, -, -⟩ := (show e 14 = true ∧ e 12 = true ∧ e 12 = true ∧ e 0 = true ∧ e 1 = true ∧ e 2 = true ∧ e 3 = true ∧ e 4 = true ∧ e 5 = true ∧ e 6 = true ∧ e 7 = true ∧ e 8 = true ∧ e 9 = true ∧ e 10 = true ∧ e 11 = true ∧ e 12 = true ∧ True from hdn 15 q); obtain ⟨r13, -, -, -, -, -, -, -, -, -, -, -, -, -, -⟩ := (show e 13 = true ∧ e 0 = true ∧ e 1 = true ∧ e 2 = true ∧ e 3 = true ∧ e 4 = true ∧ e 5 = true ∧ e 6 = true ∧ e 7 = true ∧ e 8 = true ∧ e 9 = true ∧ e 10 = true ∧ e 11 = true ∧ e 12 = true ∧ True from hdn 14 r14); obtain ⟨-, -, -, -, -, -, -, -, -, -, -, -, -, -, r12, -⟩ := (show e 1 = true ∧ e 2 = true ∧ e 0 = true ∧ e 1 = true ∧ e 2 = true ∧ e 3 = true ∧ e 4 = true ∧ e 5 = true ∧ e 6 = true ∧ e 7 = true ∧ e 8 = true ∧ e 9 = true ∧ e 10 = true ∧ e 11 = true ∧ e 12 = true ∧ True from hdn 13 r13); obtain ⟨r8, -, -, -⟩ := (show e 8 = true ∧ e 9 = true ∧ e 11 = true ∧ True from hdn 12 r12); exact r8
        simp only [setE, h3, h4, h5, h6, h7, he, h12, h15, cj_t, cj_f, cjn_t, cjn_f, cb_t, cb_f]
        refine U (LdU (V rfl) rfl Ga33 (by decide) uat_hole) <| Nt <| We ?_ ?_
        ·exact ⟨V rfl, V rfl, V rfl, V rfl, V rfl, V rfl, V rfl, V rfl, V rfl, V rfl, V rfl, V rfl, Vj, V rfl, V rfl, V rfl, V rfl, V rfl, V rfl, V rfl, Z⟩
        ·exact ⟨⟨_, rfl, ⟨rfl, rfl, (An rfl)⟩⟩, ⟨_, rfl, ⟨rfl, rfl, (An rfl)⟩⟩, ⟨_, rfl, rfl⟩, ⟨_, rfl, rfl⟩, Z⟩
       ·intro e hdn he hdp
        have h12 : e 12 = false := fls he fun q => by obtain ⟨-, r9, -, -⟩ := (show e 8 = true ∧ e 9 = true ∧ e 11 = true ∧ True from hdn 12 q); exact r9
        have h15 : e 15 = false := fls he fun q => by obtain ⟨r14, -, -, -, -, -, -, -, -, -, -, -, -, -, -, -, -⟩ := (show e 14 = true ∧ e 12 = true ∧ e 12 = true ∧ e 0 = true ∧ e 1 = true ∧ e 2 = true ∧ e 3 = true ∧ e 4 = true ∧ e 5 = true ∧ e 6 = true ∧ e 7 = true ∧ e 8 = true ∧ e 9 = true ∧ e 10 = true ∧ e 11 = true ∧ e 12 = true ∧ True from hdn 15 q); obtain ⟨r13, -, -, -, -, -, -, -, -, -, -, -, -, -, -⟩ := (show e 13 = true ∧ e 0 = true ∧ e 1 = true ∧ e 2 = true ∧ e 3 = true ∧ e 4 = true ∧ e 5 = true ∧ e 6 = true ∧ e 7 = true ∧ e 8 = true ∧ e 9 = true ∧ e 10 = true ∧ e 11 = true ∧ e 12 = true ∧ True from hdn 14 r14); obtain ⟨-, -, -, -, -, -, -, -, -, -, -, -, -, -, r12, -⟩ := (show e 1 = true ∧ e 2 = true ∧ e 0 = true ∧ e 1 = true ∧ e 2 = true ∧ e 3 = true ∧ e 4 = true ∧ e 5 = true ∧ e 6 = true ∧ e 7 = true ∧ e 8 = true ∧ e 9 = true ∧ e 10 = true ∧ e 11 = true ∧ e 12 = true ∧ True from hdn 13 r13); obtain ⟨-, r9, -, -⟩ := (show e 8 = true ∧ e 9 = true ∧ e 11 = true ∧ True from hdn 12 r12); exact r9
        simp only [setE, he, h12, h15, cj_t, cj_f, cjn_t, cjn_f, cb_t, cb_f]
        refine U (Mv (V rfl)) <| Nt <| We ?_ ?_
        ·exact ⟨V rfl, V rfl, V rfl, V rfl, V rfl, V rfl, V rfl, V rfl, V rfl, V rfl, V rfl, V rfl, Vj, V rfl, V rfl, V rfl, V rfl, V rfl, V rfl, V rfl, Z⟩
        ·exact ⟨⟨_, rfl, ⟨rfl, rfl, (An rfl)⟩⟩, ⟨_, rfl, ⟨rfl, rfl, (An rfl)⟩⟩, ⟨_, rfl, rfl⟩, ⟨_, rfl, rfl⟩, Z⟩
       ·intro e hdn he hdp
        have h12 : e 12 = false := fls he fun q => by obtain ⟨-, -, r11, -⟩ := (show e 8 = true ∧ e 9 = true ∧ e 11 = true ∧ True from hdn 12 q); obtain ⟨r10, -⟩ := (show e 10 = true ∧ True from hdn 11 r11); exact r10
        have h15 : e 15 = false := fls he fun q => by obtain ⟨r14, -, -, -, -, -, -, -, -, -, -, -, -, -, -, -, -⟩ := (show e 14 = true ∧ e 12 = true ∧ e 12 = true ∧ e 0 = true ∧ e 1 = true ∧ e 2 = true ∧ e 3 = true ∧ e 4 = true ∧ e 5 = true ∧ e 6 = true ∧ e 7 = true ∧ e 8 = true ∧ e 9 = true ∧ e 10 = true ∧ e 11 = true ∧ e 12 = true ∧ True from hdn 15 q); obtain ⟨r13, -, -, -, -, -, -, -, -, -, -, -, -, -, -⟩ := (show e 13 = true ∧ e 0 = true ∧ e 1 = true ∧ e 2 = true ∧ e 3 = true ∧ e 4 = true ∧ e 5 = true ∧ e 6 = true ∧ e 7 = true ∧ e 8 = true ∧ e 9 = true ∧ e 10 = true ∧ e 11 = true ∧ e 12 = true ∧ True from hdn 14 r14); obtain ⟨-, -, -, -, -, -, -, -, -, -, -, -, -, -, r12, -⟩ := (show e 1 = true ∧ e 2 = true ∧ e 0 = true ∧ e 1 = true ∧ e 2 = true ∧ e 3 = true ∧ e 4 = true ∧ e 5 = true ∧ e 6 = true ∧ e 7 = true ∧ e 8 = true ∧ e 9 = true ∧ e 10 = true ∧ e 11 = true ∧ e 12 = true ∧ True from hdn 13 r13); obtain ⟨-, -, r11, -⟩ := (show e 8 = true ∧ e 9 = true ∧ e 11 = true ∧ True from hdn 12 r12); obtain ⟨r10, -⟩ := (show e 10 = true ∧ True from hdn 11 r11); exact r10
        simp only [setE, he, h12, h15, cj_t, cj_f, cjn_t, cjn_f, cb_t, cb_f]
        refine U (Mv (V rfl)) <| Nt <| We ?_ ?_
        ·exact ⟨V rfl, V rfl, V rfl, V rfl, V rfl, V rfl, V rfl, V rfl, V rfl, V rfl, V rfl, V rfl, Vj, V rfl, V rfl, V rfl, V rfl, V rfl, V rfl, V rfl, Z⟩
        ·exact ⟨⟨_, rfl, ⟨rfl, rfl, (An rfl)⟩⟩, ⟨_, rfl, ⟨rfl, rfl, (An rfl)⟩⟩, ⟨_, rfl, rfl⟩, ⟨_, rfl, rfl⟩, Z⟩
       ·intro e hdn he hdp
        obtain ⟨h10, -⟩ := (show e 10 = true ∧ True from hdp)
        have h12 : e 12 = false := fls he fun q => by obtain ⟨-, -, r11, -⟩ := (show e 8 = true ∧ e 9 = true ∧ e 11 = true ∧ True from hdn 12 q); exact r11
        have h15 : e 15 = false := fls he fun q => by obtain ⟨r14, -, -, -, -, -, -, -, -, -, -, -, -, -, -, -, -⟩ := (show e 14 = true ∧ e 12 = true ∧ e 12 = true ∧ e 0 = true ∧ e 1 = true ∧ e 2 = true ∧ e 3 = true ∧ e 4 = true ∧ e 5 = true ∧ e 6 = true ∧ e 7 = true ∧ e 8 = true ∧ e 9 = true ∧ e 10 = true ∧ e 11 = true ∧ e 12 = true ∧ True from hdn 15 q); obtain ⟨r13, -, -, -, -, -, -, -, -, -, -, -, -, -, -⟩ := (show e 13 = true ∧ e 0 = true ∧ e 1 = true ∧ e 2 = true ∧ e 3 = true ∧ e 4 = true ∧ e 5 = true ∧ e 6 = true ∧ e 7 = true ∧ e 8 = true ∧ e 9 = true ∧ e 10 = true ∧ e 11 = true ∧ e 12 = true ∧ True from hdn 14 r14); obtain ⟨-, -, -, -, -, -, -, -, -, -, -, -, -, -, r12, -⟩ := (show e 1 = true ∧ e 2 = true ∧ e 0 = true ∧ e 1 = true ∧ e 2 = true ∧ e 3 = true ∧ e 4 = true ∧ e 5 = true ∧ e 6 = true ∧ e 7 = true ∧ e 8 = true ∧ e 9 = true ∧ e 10 = true ∧ e 11 = true ∧ e 12 = true ∧ True from hdn 13 r13); obtain ⟨-, -, r11, -⟩ := (show e 8 = true ∧ e 9 = true ∧ e 11 = true ∧ True from hdn 12 r12); exact r11
        simp only [setE, h10, he, h12, h15, cj_t, cj_f, cjn_t, cjn_f, cb_t, cb_f]
        refine Uw (w_bs (n := 1) (zget := fun _ => iv 0) [(fun _ => iv (c.pl))] (rowG inCell 0 [c.pl]) Un33 Sz3 zero3 (by decide) rfl (by decide) ⟨⟨rfl, .inr ⟨rfl, (V rfl), rfl⟩, rfl⟩, Z⟩ ⟨Z, ⟨Z, rfl⟩⟩) <| Nt <| We ?_ ?_
        ·exact ⟨V rfl, V rfl, V rfl, V rfl, V rfl, V rfl, V rfl, V rfl, V rfl, V rfl, V rfl, V rfl, Vj, V rfl, V rfl, V rfl, V rfl, V rfl, V rfl, V rfl, Z⟩
        ·exact ⟨⟨_, rfl, ⟨rfl, rfl, (An rfl)⟩⟩, ⟨_, rfl, ⟨rfl, rfl, (An rfl)⟩⟩, ⟨_, rfl, rfl⟩, ⟨_, rfl, rfl⟩, Z⟩
       ·intro e hdn he hdp
        obtain ⟨h8, h9, h11, -⟩ := (show e 8 = true ∧ e 9 = true ∧ e 11 = true ∧ True from hdp)
        obtain ⟨h10, -⟩ := (show e 10 = true ∧ True from hdn 11 h11)
        obtain ⟨h7, -⟩ := (show e 7 = true ∧ True from hdn 8 h8)
        obtain ⟨h6, -⟩ := (show e 6 = true ∧ True from hdn 7 h7)
        obtain ⟨h4, h5, -⟩ := (show e 4 = true ∧ e 5 = true ∧ True from hdn 6 h6)
        obtain ⟨h3, -⟩ := (show e 3 = true ∧ True from hdn 4 h4)
        have h13 : e 13 = false := fls he fun q => by obtain ⟨-, -, -, -, -, -, -, -, -, -, -, -, -, -, r12, -⟩ := (show e 1 = true ∧ e 2 = true ∧ e 0 = true ∧ e 1 = true ∧ e 2 = true ∧ e 3 = true ∧ e 4 = true ∧ e 5 = true ∧ e 6 = true ∧ e 7 = true ∧ e 8 = true ∧ e 9 = true ∧ e 10 = true ∧ e 11 = true ∧ e 12 = true ∧ True from hdn 13 q); exact r12
        have h14 : e 14 = false := fls he fun q => by obtain ⟨r13, -, -, -, -, -, -, -, -, -, -, -, -, -, -⟩ := (show e 13 = true ∧ e 0 = true ∧ e 1 = true ∧ e 2 = true ∧ e 3 = true ∧ e 4 = true ∧ e 5 = true ∧ e 6 = true ∧ e 7 = true ∧ e 8 = true ∧ e 9 = true ∧ e 10 = true ∧ e 11 = true ∧ e 12 = true ∧ True from hdn 14 q); obtain ⟨-, -, -, -, -, -, -, -, -, -, -, -, -, -, r12, -⟩ := (show e 1 = true ∧ e 2 = true ∧ e 0 = true ∧ e 1 = true ∧ e 2 = true ∧ e 3 = true ∧ e 4 = true ∧ e 5 = true ∧ e 6 = true ∧ e 7 = true ∧ e 8 = true ∧ e 9 = true ∧ e 10 = true ∧ e 11 = true ∧ e 12 = true ∧ True from hdn 13 r13); exact r12
        have h15 : e 15 = false := fls he fun q => by obtain ⟨r14, -, -, -, -, -, -, -, -, -, -, -, -, -, -, -, -⟩ := (show e 14 = true ∧ e 12 = true ∧ e 12 = true ∧ e 0 = true ∧ e 1 = true ∧ e 2 = true ∧ e 3 = true ∧ e 4 = true ∧ e 5 = true ∧ e 6 = true ∧ e 7 = true ∧ e 8 = true ∧ e 9 = true ∧ e 10 = true ∧ e 11 = true ∧ e 12 = true ∧ True from hdn 15 q); obtain ⟨r13, -, -, -, -, -, -, -, -, -, -, -, -, -, -⟩ := (show e 13 = true ∧ e 0 = true ∧ e 1 = true ∧ e 2 = true ∧ e 3 = true ∧ e 4 = true ∧ e 5 = true ∧ e 6 = true ∧ e 7 = true ∧ e 8 = true ∧ e 9 = true ∧ e 10 = true ∧ e 11 = true ∧ e 12 = true ∧ True from hdn 14 r14); obtain ⟨-, -, -, -, -, -, -, -, -, -, -, -, -, -, r12, -⟩ := (show e 1 = true ∧ e 2 = true ∧ e 0 = true ∧ e 1 = true ∧ e 2 = true ∧ e 3 = true ∧ e 4 = true ∧ e 5 = true ∧ e 6 = true ∧ e 7 = true ∧ e 8 = true ∧ e 9 = true ∧ e 10 = true ∧ e 11 = true ∧ e 12 = true ∧ True from hdn 13 r13); exact r12
        simp only [setE, h3, h4, h5, h6, h7, h8, h9, h10, h11, he, h13, h14, h15, cj_t, cj_f, cjn_t, cjn_f, cb_t, cb_f]
        refine CM (cargs := [SV.own 1000, iv (((Nd.kids ((outSt l c.pl).getD (Int.toNat p.pl) default)).length : Int)), inRow ([c.pl])]) [(1000, 10)] [(0, 12)] en98 (by exact ⟨(V rfl), (V rfl), (V rfl), Z⟩) (ins_ct (Nd.kids ((outSt l c.pl).getD (Int.toNat p.pl) default)) ([c.pl]) ((Nd.kids ((outSt l c.pl).getD (Int.toNat p.pl) default)).length) (by first | omega | assumption) (by first | omega | (simp only [List.length_cons, List.length_nil]; omega) | assumption)) (by exact ⟨⟨_, rfl, rfl⟩, Z⟩) rfl (freshN_cons (fresh_mk ⟨(noId_cj rfl), (noId_cj rfl), (noId_cj rfl), rfl, rfl, rfl, rfl, rfl, rfl, rfl, rfl, rfl, rfl, rfl, rfl, rfl, rfl, rfl, rfl, rfl, Z⟩ rfl rfl) rfl rfl) rfl rfl <| Nt <| We ?_ ?_
        ·exact ⟨V rfl, V rfl, V rfl, V rfl, V rfl, V rfl, V rfl, V rfl, V rfl, V rfl, V rfl, V rfl, V rfl, Vj, Vj, V rfl, V rfl, V rfl, V rfl, V rfl, Z⟩
        ·exact ⟨⟨_, rfl, ⟨rfl, rfl, (An rfl)⟩⟩, ⟨_, rfl, ⟨rfl, rfl, (An rfl)⟩⟩, ⟨_, rfl, rfl⟩, ⟨_, rfl, rfl⟩, Z⟩
       ·intro e hdn he hdp
        obtain ⟨h1, h2, h0, -, -, h3, h4, h5, h6, h7, h8, h9, h10, h11, h12, -⟩ := (show e 1 = true ∧ e 2 = true ∧ e 0 = true ∧ e 1 = true ∧ e 2 = true ∧ e 3 = true ∧ e 4 = true ∧ e 5 = true ∧ e 6 = true ∧ e 7 = true ∧ e 8 = true ∧ e 9 = true ∧ e 10 = true ∧ e 11 = true ∧ e 12 = true ∧ True from hdp)
        have h15 : e 15 = false := fls he fun q => by obtain ⟨r14, -, -, -, -, -, -, -, -, -, -, -, -, -, -, -, -⟩ := (show e 14 = true ∧ e 12 = true ∧ e 12 = true ∧ e 0 = true ∧ e 1 = true ∧ e 2 = true ∧ e 3 = true ∧ e 4 = true ∧ e 5 = true ∧ e 6 = true ∧ e 7 = true ∧ e 8 = true ∧ e 9 = true ∧ e 10 = true ∧ e 11 = true ∧ e 12 = true ∧ True from hdn 15 q); obtain ⟨r13, -, -, -, -, -, -, -, -, -, -, -, -, -, -⟩ := (show e 13 = true ∧ e 0 = true ∧ e 1 = true ∧ e 2 = true ∧ e 3 = true ∧ e 4 = true ∧ e 5 = true ∧ e 6 = true ∧ e 7 = true ∧ e 8 = true ∧ e 9 = true ∧ e 10 = true ∧ e 11 = true ∧ e 12 = true ∧ True from hdn 14 r14); exact r13
        simp only [setE, h0, h1, h2, h3, h4, h5, h6, h7, h8, h9, h10, h11, h12, he, h15, cj_t, cj_f, cjn_t, cjn_f, cb_t, cb_f]
        refine U (q_idxU (V rfl) rfl (V rfl) ts22 te22 (by omega) (by first | omega | (simp only [List.length_set]; omega))) <| Nt <| We ?_ ?_
        ·exact ⟨V rfl, V rfl, V rfl, V rfl, V rfl, V rfl, V rfl, V rfl, V rfl, V rfl, V rfl, V rfl, V rfl, V rfl, V rfl, V rfl, V rfl, V rfl, V rfl, V rfl, Z⟩
        ·exact ⟨⟨_, rfl, ⟨rfl, rfl, (An rfl)⟩⟩, ⟨_, rfl, ⟨rfl, rfl, (An rfl)⟩⟩, ⟨_, rfl, rfl⟩, ⟨_, rfl, rfl⟩, Z⟩
       ·intro e hdn he hdp
        obtain ⟨h13, h0, h1, h2, h3, h4, h5, h6, h7, h8, h9, h10, h11, h12, -⟩ := (show e 13 = true ∧ e 0 = true ∧ e 1 = true ∧ e 2 = true ∧ e 3 = true ∧ e 4 = true ∧ e 5 = true ∧ e 6 = true ∧ e 7 = true ∧ e 8 = true ∧ e 9 = true ∧ e 10 = true ∧ e 11 = true ∧ e 12 = true ∧ True from hdp)
        have h15 : e 15 = false := fls he fun q => by obtain ⟨r14, -, -, -, -, -, -, -, -, -, -, -, -, -, -, -, -⟩ := (show e 14 = true ∧ e 12 = true ∧ e 12 = true ∧ e 0 = true ∧ e 1 = true ∧ e 2 = true ∧ e 3 = true ∧ e 4 = true ∧ e 5 = true ∧ e 6 = true ∧ e 7 = true ∧ e 8 = true ∧ e 9 = true ∧ e 10 = true ∧ e 11 = true ∧ e 12 = true ∧ True from hdn 15 q); exact r14
        simp only [setE, h0, h1, h2, h3, h4, h5, h6, h7, h8, h9, h10, h11, h12, h13, he, h15, cj_t, cj_f, cjn_t, cjn_f, cb_t, cb_f]
        refine U (FlO _ _ (V rfl) Un61 rfl 0 Sz33) <| Nt <| We ?_ ?_
        ·exact ⟨V rfl, V rfl, V rfl, V rfl, V rfl, V rfl, V rfl, V rfl, V rfl, V rfl, V rfl, V rfl, V rfl, V rfl, V rfl, V rfl, V rfl, V rfl, V rfl, V rfl, Z⟩
        ·exact ⟨⟨_, rfl, ⟨rfl, rfl, (An rfl)⟩⟩, ⟨_, rfl, ⟨rfl, rfl, (An rfl)⟩⟩, ⟨_, rfl, rfl⟩, ⟨_, rfl, rfl⟩, Z⟩
       ·intro e hdn he hdp
        obtain ⟨h14, h12, -, h0, h1, h2, h3, h4, h5, h6, h7, h8, h9, h10, h11, -, -⟩ := (show e 14 = true ∧ e 12 = true ∧ e 12 = true ∧ e 0 = true ∧ e 1 = true ∧ e 2 = true ∧ e 3 = true ∧ e 4 = true ∧ e 5 = true ∧ e 6 = true ∧ e 7 = true ∧ e 8 = true ∧ e 9 = true ∧ e 10 = true ∧ e 11 = true ∧ e 12 = true ∧ True from hdp)
        obtain ⟨h13, -, -, -, -, -, -, -, -, -, -, -, -, -, -⟩ := (show e 13 = true ∧ e 0 = true ∧ e 1 = true ∧ e 2 = true ∧ e 3 = true ∧ e 4 = true ∧ e 5 = true ∧ e 6 = true ∧ e 7 = true ∧ e 8 = true ∧ e 9 = true ∧ e 10 = true ∧ e 11 = true ∧ e 12 = true ∧ True from hdn 14 h14)
        simp only [setE, h0, h1, h2, h3, h4, h5, h6, h7, h8, h9, h10, h11, h12, h13, h14, he, cj_t, cj_f, cjn_t, cjn_f, cb_t, cb_f]
        refine t_stH (V rfl) rfl (V rfl) (one_own rfl) Sz33 (by decide) (.inl rfl) <| Nt <| We ?_ ?_
        ·exact ⟨V rfl, V rfl, V rfl, V rfl, V rfl, V rfl, V rfl, V rfl, V rfl, V rfl, V rfl, V rfl, V rfl, V rfl, V rfl, V rfl, V rfl, V rfl, V rfl, V rfl, Z⟩
        ·exact ⟨⟨_, rfl, ⟨rfl, rfl, (An rfl)⟩⟩, ⟨_, rfl, ⟨rfl, rfl, (An rfl)⟩⟩, ⟨_, rfl, rfl⟩, ⟨_, rfl, rfl⟩, Z⟩
       ·intro e he
        have h0 := he 0 (by decide)
        have h1 := he 1 (by decide)
        have h2 := he 2 (by decide)
        have h3 := he 3 (by decide)
        have h4 := he 4 (by decide)
        have h5 := he 5 (by decide)
        have h6 := he 6 (by decide)
        have h7 := he 7 (by decide)
        have h8 := he 8 (by decide)
        have h9 := he 9 (by decide)
        have h10 := he 10 (by decide)
        have h11 := he 11 (by decide)
        have h12 := he 12 (by decide)
        have h13 := he 13 (by decide)
        have h14 := he 14 (by decide)
        have h15 := he 15 (by decide)
        show Weak _ ⟨[(102, cj (e 0) (SV.bp 1 0)), (103, cj (e 1) (SV.own 9)), (104, cj (e 2) (iv (p.pl))), (105, cj (e 3) (SV.bp 1 0)), (106, cj (e 4) (SV.own 9)), (107, cj (e 5) (iv (p.pl))), (108, cj (e 6) (SV.oe 9 8 (Int.toNat p.pl) 0)), (109, cj (e 7) (SV.oe 9 8 (Int.toNat p.pl) 5)), (110, cj (e 8) (SV.own 10)), (111, cj (e 9) (iv (((Nd.kids ((outSt l c.pl).getD (Int.toNat p.pl) default)).length : Int)))), (112, cj (e 10) (iv (c.pl))), (113, cj (e 11) (inRow ([c.pl]))), (114, cj (e 12) (SV.own 12)), (115, cj (e 13) (SV.oe 9 8 (Int.toNat p.pl) 0)), (116, cj (e 14) (SV.oe 9 8 (Int.toNat p.pl) 5)), (4, SV.bp 1 0), (8, SV.bp 4 0), (11, iv (p.pl)), (12, iv (c.pl)), (13, iv (((Nd.kids ((outSt l c.pl).getD (Int.toNat p.pl) default)).length : Int)))], (cb (e 12) (cb (e 15) [(1, Own.box 1 (fun zt => SV.renm (rn [(1000, 1), (1001, 8), (0, 9)]) ((cmpG [SV.own 0]) zt)) 24), (4, Own.box 1 (cmpG [SV.v (Value.slice none 0 0)]) 24), (9, urowOf ndCell 8 default (outSt l c.pl) 61 5 Nd.kids inCell 1 0 3 l.length (some (Int.toNat p.pl, SV.own 12))), (12, ownOf inCell 1 0 ((Nd.kids ((outSt l c.pl).getD (Int.toNat p.pl) default)).take ((Nd.kids ((outSt l c.pl).getD (Int.toNat p.pl) default)).length) ++ ([c.pl]) ++ (Nd.kids ((outSt l c.pl).getD (Int.toNat p.pl) default)).drop ((Nd.kids ((outSt l c.pl).getD (Int.toNat p.pl) default)).length)) 3)] [(1, Own.box 1 (fun zt => SV.renm (rn [(1000, 1), (1001, 8), (0, 9)]) ((cmpG [SV.own 0]) zt)) 24), (4, Own.box 1 (cmpG [SV.v (Value.slice none 0 0)]) 24), (9, urowOf ndCell 8 default (outSt l c.pl) 61 5 Nd.kids inCell 1 0 3 l.length (some (Int.toNat p.pl, SV.own 10))), (12, ownOf inCell 1 0 ((Nd.kids ((outSt l c.pl).getD (Int.toNat p.pl) default)).take ((Nd.kids ((outSt l c.pl).getD (Int.toNat p.pl) default)).length) ++ ([c.pl]) ++ (Nd.kids ((outSt l c.pl).getD (Int.toNat p.pl) default)).drop ((Nd.kids ((outSt l c.pl).getD (Int.toNat p.pl) default)).length)) 3)]) (cb (e 15) [] [(1, Own.box 1 (fun zt => SV.renm (rn [(1000, 1), (1001, 8), (0, 9)]) ((cmpG [SV.own 0]) zt)) 24), (4, Own.box 1 (cmpG [SV.v (Value.slice none 0 0)]) 24), (9, urowOf ndCell 8 default (outSt l c.pl) 61 5 Nd.kids inCell 1 0 3 l.length (some (Int.toNat p.pl, SV.own 10))), (10, ownOf inCell 1 0 (Nd.kids ((outSt l c.pl).getD (Int.toNat p.pl) default)) 3)]))⟩ _
        simp only [h0, h1, h2, h3, h4, h5, h6, h7, h8, h9, h10, h11, h12, h13, h14, h15]
        show Weak _ ⟨[(102, SV.bp 1 0), (103, SV.own 9), (104, iv (p.pl)), (105, SV.bp 1 0), (106, SV.own 9), (107, iv (p.pl)), (108, SV.oe 9 8 (Int.toNat p.pl) 0), (109, SV.oe 9 8 (Int.toNat p.pl) 5), (110, SV.own 10), (111, iv (((Nd.kids ((outSt l c.pl).getD (Int.toNat p.pl) default)).length : Int))), (112, iv (c.pl)), (113, inRow ([c.pl])), (114, SV.own 12), (115, SV.oe 9 8 (Int.toNat p.pl) 0), (116, SV.oe 9 8 (Int.toNat p.pl) 5), (4, SV.bp 1 0), (8, SV.bp 4 0), (11, iv (p.pl)), (12, iv (c.pl)), (13, iv (((Nd.kids ((outSt l c.pl).getD (Int.toNat p.pl) default)).length : Int)))], [(1, Own.box 1 (fun zt => SV.renm (rn [(1000, 1), (1001, 8), (0, 9)]) ((cmpG [SV.own 0]) zt)) 24), (4, Own.box 1 (cmpG [SV.v (Value.slice none 0 0)]) 24), (9, urowOf ndCell 8 default (outSt l c.pl) 61 5 Nd.kids inCell 1 0 3 l.length (some (Int.toNat p.pl, SV.own 12))), (12, ownOf inCell 1 0 ((Nd.kids ((outSt l c.pl).getD (Int.toNat p.pl) default)).take ((Nd.kids ((outSt l c.pl).getD (Int.toNat p.pl) default)).length) ++ ([c.pl]) ++ (Nd.kids ((outSt l c.pl).getD (Int.toNat p.pl) default)).drop ((Nd.kids ((outSt l c.pl).getD (Int.toNat p.pl) default)).length)) 3)]⟩ _
        refine We ?_ ?_
        ·exact ⟨V rfl, V rfl, V rfl, V rfl, V rfl, V rfl, V rfl, V rfl, V rfl, V rfl, V rfl, V rfl, V rfl, V rfl, V rfl, V rfl, V rfl, V rfl, V rfl, V rfl, Z⟩
        ·exact ⟨⟨_, rfl, ⟨rfl, rfl, (An rfl)⟩⟩, ⟨_, rfl, ⟨rfl, rfl, (An rfl)⟩⟩, ⟨_, rfl, rfl⟩, ⟨_, rfl, rfl⟩, Z⟩
       exact Sq <| Tc (turn_joinT 9 (Int.toNat p.pl) 12 l.length ({ ((outSt l c.pl).getD (Int.toNat p.pl) default) with kids := (Nd.kids ((outSt l c.pl).getD (Int.toNat p.pl) default)).take ((Nd.kids ((outSt l c.pl).getD (Int.toNat p.pl) default)).length) ++ ([c.pl]) ++ (Nd.kids ((outSt l c.pl).getD (Int.toNat p.pl) default)).drop ((Nd.kids ((outSt l c.pl).getD (Int.toNat p.pl) default)).length) }) rfl rfl rfl (by first | omega | (simp only [List.length_set]; omega)) (by omega) (by rw [if_pos (by omega)]) rfl rfl (fun t ht hne => match t, ht, hne with | 0, _, _ => rfl | 1, _, _ => rfl | 2, _, _ => rfl | 3, _, _ => rfl | 4, _, _ => rfl | 5, _, hne => absurd rfl hne | 6, _, _ => rfl | 7, _, _ => rfl) rfl) <| Rt <| U (FlB _ _ (V rfl) Un24 rfl 0 Sz22) <| U (LdB (V rfl) rfl Ga22 (by decide)) <| U (Mv (V rfl)) <| U (Mv (V rfl)) <| U (q_idxU (V rfl) rfl (V rfl) ts22 te22 (by omega) (by first | omega | (simp only [List.length_set]; omega))) <| U (FlO _ _ (V rfl) Un61 rfl 0 Sz3) <| t_stUT ({ (((outSt l c.pl).set (Int.toNat p.pl) ({ ((outSt l c.pl).getD (Int.toNat p.pl) default) with kids := (Nd.kids ((outSt l c.pl).getD (Int.toNat p.pl) default)).take ((Nd.kids ((outSt l c.pl).getD (Int.toNat p.pl) default)).length) ++ ([c.pl]) ++ (Nd.kids ((outSt l c.pl).getD (Int.toNat p.pl) default)).drop ((Nd.kids ((outSt l c.pl).getD (Int.toNat p.pl) default)).length) })).getD (Int.toNat c.pl) default) with par := p.pl }) (V rfl) rfl (V rfl) rfl rfl Sz3 (by decide) (by decide) (by first | omega | (simp only [List.length_set]; omega)) rfl (fun t ht hne => match t, ht, hne with | 0, _, _ => rfl | 1, _, _ => rfl | 2, _, _ => rfl | 3, _, _ => rfl | 4, _, hne => absurd rfl hne | 5, _, _ => rfl | 6, _, _ => rfl | 7, _, _ => rfl) rfl <| Nt <| Sq <| Rt <| U (LBA (V rfl) rfl Ga24 Sz24 (by decide)) <| StA (V rfl) rfl (V rfl) Sz24 <| U (As K) <| Nt <| Tc (turn_uAT 9 rfl rfl (fun _ => rfl)) <| FzC 9 rfl <| Rx <| RR2 rfl (rv_aggI (g' := stG (((outSt l c.pl).set (Int.toNat p.pl) ({ ((outSt l c.pl).getD (Int.toNat p.pl) default) with kids := (Nd.kids ((outSt l c.pl).getD (Int.toNat p.pl) default)).take ((Nd.kids ((outSt l c.pl).getD (Int.toNat p.pl) default)).length) ++ ([c.pl]) ++ (Nd.kids ((outSt l c.pl).getD (Int.toNat p.pl) default)).drop ((Nd.kids ((outSt l c.pl).getD (Int.toNat p.pl) default)).length) })).set (Int.toNat c.pl) ({ (((outSt l c.pl).set (Int.toNat p.pl) ({ ((outSt l c.pl).getD (Int.toNat p.pl) default) with kids := (Nd.kids ((outSt l c.pl).getD (Int.toNat p.pl) default)).take ((Nd.kids ((outSt l c.pl).getD (Int.toNat p.pl) default)).length) ++ ([c.pl]) ++ (Nd.kids ((outSt l c.pl).getD (Int.toNat p.pl) default)).drop ((Nd.kids ((outSt l c.pl).getD (Int.toNat p.pl) default)).length) })).getD (Int.toNat c.pl) default) with par := p.pl }))) (rv_cell (V rfl) rfl Ga24 Sz24) ⟨Z, Ir⟩) (rv_tmp (V rfl)) rfl rfl (by show sv2 (SV.agg 1 (stG (((outSt l c.pl).set (Int.toNat p.pl) ({ ((outSt l c.pl).getD (Int.toNat p.pl) default) with kids := (Nd.kids ((outSt l c.pl).getD (Int.toNat p.pl) default)).take ((Nd.kids ((outSt l c.pl).getD (Int.toNat p.pl) default)).length) ++ ([c.pl]) ++ (Nd.kids ((outSt l c.pl).getD (Int.toNat p.pl) default)).drop ((Nd.kids ((outSt l c.pl).getD (Int.toNat p.pl) default)).length) })).set (Int.toNat c.pl) ({ (((outSt l c.pl).set (Int.toNat p.pl) ({ ((outSt l c.pl).getD (Int.toNat p.pl) default) with kids := (Nd.kids ((outSt l c.pl).getD (Int.toNat p.pl) default)).take ((Nd.kids ((outSt l c.pl).getD (Int.toNat p.pl) default)).length) ++ ([c.pl]) ++ (Nd.kids ((outSt l c.pl).getD (Int.toNat p.pl) default)).drop ((Nd.kids ((outSt l c.pl).getD (Int.toNat p.pl) default)).length) })).getD (Int.toNat c.pl) default) with par := p.pl })))) (iv (0)) = sv2 (SV.agg 1 (stG (insSt l p c ah).1)) (iv (insSt l p c ah).2); rw [ins_6 (by omega) hc2s hq3 hq4 hq5, insPos, if_neg (by omega)]; rfl)
end Go.Proofs.Ytmcdamcedemdiaa
namespace Go.Proofs.Ytmcdamcedemdiaa
open Go.RowKit Go.Eng
theorem cut_none {l : List Nd} (h : checkSt l = 0) {c q : Int} (hq : 0 ≤ q ∧ q < (l.length : Int)) (hne : q ≠ (l.getD c.toNat default).par) : (l.getD q.toNat default).kids.filter (fun x => !decide (x = c)) = (l.getD q.toNat default).kids := by
  rw [List.filter_eq_self]
  intro x hx
  have := (kid_up h hq hx).2.2.1
  simp only [Bool.not_eq_true', decide_eq_false_iff_not]
  rintro rfl
  exact hne this.symm
section
variable {l : List Nd} {p c : Hd} {ah : List Hd}
end
end Go.Proofs.Ytmcdamcedemdiaa
namespace Go.Proofs.Ytmcdamcedemdiaa
open Go.RowKit Go.Eng
theorem zero113 : ZeroOk Try.prog 113 6 (cmpG [iv 0, iv 0, iv 0, iv 0, iv 0, iv 0]) := by
  refine ⟨.agg #[.int .i64 0, .int .i64 0, .int .i64 0, .int .i64 0, .int .i64 0, .int .i64 0], fun w => by kernel_rfl, rfl, fun t ht => ?_⟩
  match t, ht with
  | 0, _ => exact ⟨_, rfl, rfl, fun _ _ => rfl⟩
  | 1, _ => exact ⟨_, rfl, rfl, fun _ _ => rfl⟩
  | 2, _ => exact ⟨_, rfl, rfl, fun _ _ => rfl⟩
  | 3, _ => exact ⟨_, rfl, rfl, fun _ _ => rfl⟩
  | 4, _ => exact ⟨_, rfl, rfl, fun _ _ => rfl⟩
  | 5, _ => exact ⟨_, rfl, rfl, fun _ _ => rfl⟩
theorem ta113 : Try.prog.underlying 113 = some (.array (Try.prog.arrayLen 113) (Try.prog.elem 113)) := by kernel_rfl
theorem te113 : ∀ w, (sizeOf (Try.prog.elem 113)).run Try.prog w = .ok 2 w := fun w => by kernel_rfl
theorem al113 : Try.prog.arrayLen 113 = 3 := by kernel_rfl
def nz : Nd := ⟨false, 0, 0, 0, -1, [], -1, false⟩
def fam0 : List Nd := [nz, nz, nz, nz, nz, nz]
def fam1 : List Nd := [⟨true, 1, 0, 0, -1, [], -1, false⟩, nz, nz, nz, nz, nz]
def fam2 : List Nd := [⟨true, 1, 0, 0, -1, [], -1, false⟩, ⟨true, 1, 1, 0, -1, [], -1, false⟩, nz, nz, nz, nz]
def fam3 : List Nd := [⟨true, 1, 0, 0, -1, [], -1, false⟩, ⟨true, 1, 1, 0, -1, [], -1, false⟩, ⟨true, 1, 2, 0, -1, [], -1, false⟩, nz, nz, nz]
def fam4 : List Nd := [⟨true, 1, 0, 0, -1, [1], -1, false⟩, ⟨true, 1, 1, 0, 0, [], -1, false⟩, ⟨true, 1, 2, 0, -1, [], -1, false⟩, nz, nz, nz]
def fam5 : List Nd := [⟨true, 1, 0, 0, -1, [2, 1], -1, false⟩, ⟨true, 1, 1, 0, 0, [], -1, false⟩, ⟨true, 1, 2, 0, 0, [], -1, false⟩, nz, nz, nz]
def famS : Nat → List Nd
  | 0 => fam0 | 1 => fam1 | 2 => fam2 | _ => fam3
def famH : Nat → Nat → SV
  | 0 => cmpG [iv 0, iv 0, iv 0, iv 0, iv 0, iv 0]
  | 1 => cmpG [iv 0, iv 1, iv 0, iv 0, iv 0, iv 0]
  | 2 => cmpG [iv 0, iv 1, iv 1, iv 1, iv 0, iv 0]
  | _ => cmpG [iv 0, iv 1, iv 1, iv 1, iv 2, iv 1]
theorem fam_0 : newSt 6 = (fam0, 0) := by decide +kernel
theorem fam_1 : mkSt fam0 0 = (fam1, ⟨0, 1⟩, 0) := by decide +kernel
theorem fam_2 : mkSt fam1 1 = (fam2, ⟨1, 1⟩, 0) := by decide +kernel
theorem fam_3 : mkSt fam2 2 = (fam3, ⟨2, 1⟩, 0) := by decide +kernel
theorem fam_4 : insSt fam3 ⟨0, 1⟩ ⟨1, 1⟩ [] = (fam4, 0) := by decide +kernel
theorem fam_5 : insSt fam4 ⟨0, 1⟩ ⟨2, 1⟩ [⟨1, 1⟩] = (fam5, 0) := by decide +kernel
theorem fam_c0 : checkSt fam0 = 0 := by decide +kernel
theorem fam_c1 : checkSt fam1 = 0 := by decide +kernel
theorem fam_c2 : checkSt fam2 = 0 := by decide +kernel
theorem fam_c3 : checkSt fam3 = 0 := by decide +kernel
theorem fam_c4 : checkSt fam4 = 0 := by decide +kernel
theorem fam_c5 : checkSt fam5 = 0 := by decide +kernel
end Go.Proofs.Ytmcdamcedemdiaa
namespace Go.Proofs.Ytmcdamcedemdiaa
open Go.RowKit Go.Eng
theorem famN : Ct Try.prog 47 [iv 6] (sv2 (SV.agg 1 (stG fam0)) (iv 0)) := by
  have h := new_ct 6
  rw [fam_0] at h
  exact h
theorem famM0 : Ct Try.prog 40 [SV.agg 1 (stG fam0), iv 0] (sv3 (SV.agg 1 (stG fam1)) (SV.agg 2 (hdCell ⟨0, 1⟩)) (iv 0)) := by
  have h := make_ct fam0 0 (kb_of fam_c0)
  rw [fam_1] at h
  exact h
theorem famM1 : Ct Try.prog 40 [SV.agg 1 (stG fam1), iv 1] (sv3 (SV.agg 1 (stG fam2)) (SV.agg 2 (hdCell ⟨1, 1⟩)) (iv 0)) := by
  have h := make_ct fam1 1 (kb_of fam_c1)
  rw [fam_2] at h
  exact h
theorem famM2 : Ct Try.prog 40 [SV.agg 1 (stG fam2), iv 2] (sv3 (SV.agg 1 (stG fam3)) (SV.agg 2 (hdCell ⟨2, 1⟩)) (iv 0)) := by
  have h := make_ct fam2 2 (kb_of fam_c2)
  rw [fam_3] at h
  exact h
theorem famI4 : Ct Try.prog 56 [SV.agg 1 (stG fam3), SV.agg 2 (hdCell ⟨0, 1⟩), SV.agg 2 (hdCell ⟨1, 1⟩), hdRow []] (sv2 (SV.agg 1 (stG fam4)) (iv 0)) := by
  have h := insert_ct fam3 ⟨0, 1⟩ ⟨1, 1⟩ [] (kb_of fam_c3)
  rw [fam_4] at h
  exact h
theorem famI5 : Ct Try.prog 56 [SV.agg 1 (stG fam4), SV.agg 2 (hdCell ⟨0, 1⟩), SV.agg 2 (hdCell ⟨2, 1⟩), hdRow [⟨1, 1⟩]] (sv2 (SV.agg 1 (stG fam5)) (iv 0)) := by
  have h := insert_ct fam4 ⟨0, 1⟩ ⟨2, 1⟩ [⟨1, 1⟩] (kb_of fam_c4)
  rw [fam_5] at h
  exact h
theorem family_ct  : Ct Try.prog 103 [] (sv3 (SV.agg 1 (stG fam5)) (SV.agg 6 (cmpG [iv (0), iv (1), iv (1), iv (1), iv (2), iv (1)])) (bv (true))) := by
 refine CtO 69 Try.func103 rfl rfl rfl fun E => Sq <| Rt <| Al 1 zero24 rfl rfl <| Al 2 zero113 rfl rfl <| U (As K) <| Nt <| Sq <| Rt <| CT en47 (by exact ⟨⟨K, rfl⟩, Z⟩) (famN) <| U (Mv (V rfl)) <| U (Xt (V rfl) (by decide)) <| U (Xt (V rfl) (by decide)) <| Al 3 zero24 rfl rfl <| StA (V rfl) rfl (V rfl) Sz24 <| U (As (V rfl)) <| Nt <| Sq <| Rq <| O (Mv (V rfl)) <| O (Ql (V rfl) K) <| O (As (V rfl)) <| Nq <| Sq <| Rt <| Al 4 zero113 rfl rfl <| Nt <| Sq <| Sq <| Rq <| O (Mv K) <| Nq <| Bo <| Lo (fun (i : Nat) => ⟨[(0, SV.bp 1 0), (1, SV.bp 2 0), (3, SV.bp 3 0), (5, bv (true)), (6, SV.bp 4 0), (14, iv ((i : Int)))], [(1, Own.box 1 (cmpG [SV.v (Value.slice none 0 0)]) 24), (2, Own.box 6 (cmpG [iv (0), iv (0), iv (0), iv (0), iv (0), iv (0)]) 113), (3, Own.box 1 (stG (famS i)) 24), (4, Own.box 6 (famH i) 113)]⟩) (fun (i : Nat) => i ≤ 3) (fun (i : Nat) => 3 - i) 0 (by show 0 ≤ 3; decide) (We (sl := [(0, SV.bp 1 0), (1, SV.bp 2 0), (3, SV.bp 3 0), (5, bv (true)), (6, SV.bp 4 0), (14, iv (0))]) (ow := [(1, Own.box 1 (cmpG [SV.v (Value.slice none 0 0)]) 24), (2, Own.box 6 (cmpG [iv (0), iv (0), iv (0), iv (0), iv (0), iv (0)]) 113), (3, Own.box 1 (stG (fam0)) 24), (4, Own.box 6 (famH 0) 113)]) (by exact ⟨V rfl, V rfl, V rfl, val_eq (V rfl) rfl, V rfl, V rfl, Z⟩) (by exact ⟨⟨_, rfl, rfl, rfl, (An rfl)⟩, ⟨_, rfl, rfl, rfl, (An rfl)⟩, ⟨_, rfl, rfl, rfl, (An rfl)⟩, ⟨_, rfl, rfl, rfl, (An rfl)⟩, Z⟩)) <| ?_
 ·rintro i hI1
  have hJ1 : i ≤ 3 := hI1
  rcases (show i = 0 ∨ i = 1 ∨ i = 2 ∨ i = 3 by omega) with rfl | rfl | rfl | rfl
  ·show C _ E _ ⟨[(0, SV.bp 1 0), (1, SV.bp 2 0), (3, SV.bp 3 0), (5, bv (true)), (6, SV.bp 4 0), (14, iv (0))], [(1, Own.box 1 (cmpG [SV.v (Value.slice none 0 0)]) 24), (2, Own.box 6 (cmpG [iv (0), iv (0), iv (0), iv (0), iv (0), iv (0)]) 113), (3, Own.box 1 (stG (fam0)) 24), (4, Own.box 6 (famH 0) 113)]⟩ _
   refine Sq <| Rq <| O (Lt (V rfl) K) <| Nq <| Sq <| Cd (V rfl) (fun hc1 => ?_) (fun hc1 => ?_)
   ·have hc1s := hc1; try simp only [BL] at hc1s
    exact Sk <| Sq <| Bo <| Sq <| Rq <| O (Mv (V rfl)) <| O (As (V rfl)) <| Nq <| Sq <| Rt <| U (Mv (V rfl)) <| U (LBA (V rfl) rfl Ga24 Sz24 (by decide)) <| U (Mv (V rfl)) <| CT en40 (by exact ⟨⟨(Vi (g' := stG fam0) (V rfl) ⟨Z, Ir⟩), rfl⟩, ⟨(V rfl), rfl⟩, Z⟩) (famM0) <| U (Mv (V rfl)) <| U (Xt (V rfl) (by decide)) <| U (Xt (V rfl) (by decide)) <| U (Xt (V rfl) (by decide)) <| StA (V rfl) rfl (V rfl) Sz24 <| U (q_ixB (i := 0) (V rfl) (V rfl) ta113 te113 (by rw [al113]; decide)) <| t_stP (fun zt => ([iv (0), iv (1), iv (0), iv (0), iv (0), iv (0)] : List SV).getD zt .junk) (V rfl) rfl (V rfl) Sz26 (by decide) (An rfl) <| U (As (V rfl)) <| Nt <| Rq <| O (Mv (V rfl)) <| O (Mv (V rfl)) <| Og (Gy rfl rfl) (fun hg => Mv (V rfl)) <| Og (Gy rfl rfl) (fun hg => Ql (Vg (V rfl) hg) K) <| O (Qa (V rfl) (fun h => Vg (V rfl) h)) <| O (As (V rfl)) <| Nq <| Rq <| O (Ad (V rfl) K (by omega)) <| O (Mv (V rfl)) <| Nq <| Nx (1) (by show 1 ≤ 3; decide) (by show 3 - 1 < 3 - 0; decide) (We (sl := [(0, SV.bp 1 0), (1, SV.bp 2 0), (3, SV.bp 3 0), (5, bv (true)), (6, SV.bp 4 0), (14, iv (1))]) (ow := [(1, Own.box 1 (cmpG [SV.v (Value.slice none 0 0)]) 24), (2, Own.box 6 (cmpG [iv (0), iv (0), iv (0), iv (0), iv (0), iv (0)]) 113), (3, Own.box 1 (stG (fam1)) 24), (4, Own.box 6 (famH 1) 113)]) (by exact ⟨V rfl, V rfl, V rfl, val_eq (V rfl) rfl, V rfl, V rfl, Z⟩) (by exact ⟨⟨_, rfl, rfl, rfl, (An rfl)⟩, ⟨_, rfl, rfl, rfl, (An rfl)⟩, ⟨_, rfl, rfl, rfl, (An rfl)⟩, ⟨_, rfl, rfl, rfl, (An rfl)⟩, Z⟩))
   ·exact absurd hc1 (by decide)
  ·show C _ E _ ⟨[(0, SV.bp 1 0), (1, SV.bp 2 0), (3, SV.bp 3 0), (5, bv (true)), (6, SV.bp 4 0), (14, iv (1))], [(1, Own.box 1 (cmpG [SV.v (Value.slice none 0 0)]) 24), (2, Own.box 6 (cmpG [iv (0), iv (0), iv (0), iv (0), iv (0), iv (0)]) 113), (3, Own.box 1 (stG (fam1)) 24), (4, Own.box 6 (famH 1) 113)]⟩ _
   refine Sq <| Rq <| O (Lt (V rfl) K) <| Nq <| Sq <| Cd (V rfl) (fun hc2 => ?_) (fun hc2 => ?_)
   ·have hc2s := hc2; try simp only [BL] at hc2s
    exact Sk <| Sq <| Bo <| Sq <| Rq <| O (Mv (V rfl)) <| O (As (V rfl)) <| Nq <| Sq <| Rt <| U (Mv (V rfl)) <| U (LBA (V rfl) rfl Ga24 Sz24 (by decide)) <| U (Mv (V rfl)) <| CT en40 (by exact ⟨⟨(Vi (g' := stG fam1) (V rfl) ⟨Z, Ir⟩), rfl⟩, ⟨(V rfl), rfl⟩, Z⟩) (famM1) <| U (Mv (V rfl)) <| U (Xt (V rfl) (by decide)) <| U (Xt (V rfl) (by decide)) <| U (Xt (V rfl) (by decide)) <| StA (V rfl) rfl (V rfl) Sz24 <| U (q_ixB (i := 1) (V rfl) (V rfl) ta113 te113 (by rw [al113]; decide)) <| t_stP (fun zt => ([iv (0), iv (1), iv (1), iv (1), iv (0), iv (0)] : List SV).getD zt .junk) (V rfl) rfl (V rfl) Sz26 (by decide) (An rfl) <| U (As (V rfl)) <| Nt <| Rq <| O (Mv (V rfl)) <| O (Mv (V rfl)) <| Og (Gy rfl rfl) (fun hg => Mv (V rfl)) <| Og (Gy rfl rfl) (fun hg => Ql (Vg (V rfl) hg) K) <| O (Qa (V rfl) (fun h => Vg (V rfl) h)) <| O (As (V rfl)) <| Nq <| Rq <| O (Ad (V rfl) K (by omega)) <| O (Mv (V rfl)) <| Nq <| Nx (2) (by show 2 ≤ 3; decide) (by show 3 - 2 < 3 - 1; decide) (We (sl := [(0, SV.bp 1 0), (1, SV.bp 2 0), (3, SV.bp 3 0), (5, bv (true)), (6, SV.bp 4 0), (14, iv (2))]) (ow := [(1, Own.box 1 (cmpG [SV.v (Value.slice none 0 0)]) 24), (2, Own.box 6 (cmpG [iv (0), iv (0), iv (0), iv (0), iv (0), iv (0)]) 113), (3, Own.box 1 (stG (fam2)) 24), (4, Own.box 6 (famH 2) 113)]) (by exact ⟨V rfl, V rfl, V rfl, val_eq (V rfl) rfl, V rfl, V rfl, Z⟩) (by exact ⟨⟨_, rfl, rfl, rfl, (An rfl)⟩, ⟨_, rfl, rfl, rfl, (An rfl)⟩, ⟨_, rfl, rfl, rfl, (An rfl)⟩, ⟨_, rfl, rfl, rfl, (An rfl)⟩, Z⟩))
   ·exact absurd hc2 (by decide)
  ·show C _ E _ ⟨[(0, SV.bp 1 0), (1, SV.bp 2 0), (3, SV.bp 3 0), (5, bv (true)), (6, SV.bp 4 0), (14, iv (2))], [(1, Own.box 1 (cmpG [SV.v (Value.slice none 0 0)]) 24), (2, Own.box 6 (cmpG [iv (0), iv (0), iv (0), iv (0), iv (0), iv (0)]) 113), (3, Own.box 1 (stG (fam2)) 24), (4, Own.box 6 (famH 2) 113)]⟩ _
   refine Sq <| Rq <| O (Lt (V rfl) K) <| Nq <| Sq <| Cd (V rfl) (fun hc3 => ?_) (fun hc3 => ?_)
   ·have hc3s := hc3; try simp only [BL] at hc3s
    exact Sk <| Sq <| Bo <| Sq <| Rq <| O (Mv (V rfl)) <| O (As (V rfl)) <| Nq <| Sq <| Rt <| U (Mv (V rfl)) <| U (LBA (V rfl) rfl Ga24 Sz24 (by decide)) <| U (Mv (V rfl)) <| CT en40 (by exact ⟨⟨(Vi (g' := stG fam2) (V rfl) ⟨Z, Ir⟩), rfl⟩, ⟨(V rfl), rfl⟩, Z⟩) (famM2) <| U (Mv (V rfl)) <| U (Xt (V rfl) (by decide)) <| U (Xt (V rfl) (by decide)) <| U (Xt (V rfl) (by decide)) <| StA (V rfl) rfl (V rfl) Sz24 <| U (q_ixB (i := 2) (V rfl) (V rfl) ta113 te113 (by rw [al113]; decide)) <| t_stP (fun zt => ([iv (0), iv (1), iv (1), iv (1), iv (2), iv (1)] : List SV).getD zt .junk) (V rfl) rfl (V rfl) Sz26 (by decide) (An rfl) <| U (As (V rfl)) <| Nt <| Rq <| O (Mv (V rfl)) <| O (Mv (V rfl)) <| Og (Gy rfl rfl) (fun hg => Mv (V rfl)) <| Og (Gy rfl rfl) (fun hg => Ql (Vg (V rfl) hg) K) <| O (Qa (V rfl) (fun h => Vg (V rfl) h)) <| O (As (V rfl)) <| Nq <| Rq <| O (Ad (V rfl) K (by omega)) <| O (Mv (V rfl)) <| Nq <| Nx (3) (by show 3 ≤ 3; decide) (by show 3 - 3 < 3 - 2; decide) (We (sl := [(0, SV.bp 1 0), (1, SV.bp 2 0), (3, SV.bp 3 0), (5, bv (true)), (6, SV.bp 4 0), (14, iv (3))]) (ow := [(1, Own.box 1 (cmpG [SV.v (Value.slice none 0 0)]) 24), (2, Own.box 6 (cmpG [iv (0), iv (0), iv (0), iv (0), iv (0), iv (0)]) 113), (3, Own.box 1 (stG (fam3)) 24), (4, Own.box 6 (famH 3) 113)]) (by exact ⟨V rfl, V rfl, V rfl, val_eq (V rfl) rfl, V rfl, V rfl, Z⟩) (by exact ⟨⟨_, rfl, rfl, rfl, (An rfl)⟩, ⟨_, rfl, rfl, rfl, (An rfl)⟩, ⟨_, rfl, rfl, rfl, (An rfl)⟩, ⟨_, rfl, rfl, rfl, (An rfl)⟩, Z⟩))
   ·exact absurd hc3 (by decide)
  ·show C _ E _ ⟨[(0, SV.bp 1 0), (1, SV.bp 2 0), (3, SV.bp 3 0), (5, bv (true)), (6, SV.bp 4 0), (14, iv (3))], [(1, Own.box 1 (cmpG [SV.v (Value.slice none 0 0)]) 24), (2, Own.box 6 (cmpG [iv (0), iv (0), iv (0), iv (0), iv (0), iv (0)]) 113), (3, Own.box 1 (stG (fam3)) 24), (4, Own.box 6 (famH 3) 113)]⟩ _
   refine Sq <| Rq <| O (Lt (V rfl) K) <| Nq <| Sq <| Cd (V rfl) (fun hc4 => ?_) (fun hc4 => ?_)
   ·exact absurd hc4 (by decide)
   ·have hc4s := hc4; try simp only [BL] at hc4s
    refine Ex <| Sq <| Rt <| U (LBA (V rfl) rfl Ga24 Sz24 (by decide)) <| U (q_ixB (i := 0) (V rfl) K ta113 te113 (by rw [al113]; decide)) <| U (LBA (V rfl) rfl Ga26 Sz26 (by decide)) <| U (q_ixB (i := 1) (V rfl) K ta113 te113 (by rw [al113]; decide)) <| U (LBA (V rfl) rfl Ga26 Sz26 (by decide)) <| CT en56 (by exact ⟨⟨(Vi (g' := stG fam3) (V rfl) ⟨Z, Ir⟩), rfl⟩, ⟨(Vi (g' := hdCell ⟨0, 1⟩) (V rfl) ⟨⟨Z, Ir⟩, Ir⟩), rfl⟩, ⟨(Vi (g' := hdCell ⟨1, 1⟩) (V rfl) ⟨⟨Z, Ir⟩, Ir⟩), rfl⟩, ⟨Vn, rfl⟩, Z⟩) (famI4) <| U (Mv (V rfl)) <| U (Xt (V rfl) (by decide)) <| U (Xt (V rfl) (by decide)) <| StA (V rfl) rfl (V rfl) Sz24 <| U (As (V rfl)) <| Nt <| Sq <| Rq <| O (Mv (V rfl)) <| O (Mv (V rfl)) <| Og (Gy rfl rfl) (fun hg => Mv (V rfl)) <| Og (Gy rfl rfl) (fun hg => Ql (Vg (V rfl) hg) K) <| O (Qa (V rfl) (fun h => Vg (V rfl) h)) <| O (As (V rfl)) <| Nq <| Sq <| c_frzB 4 [iv (0), iv (1), iv (1), iv (1), iv (2), iv (1)] rfl rfl ⟨⟨⟨⟨⟨⟨Z, rfl⟩, rfl⟩, rfl⟩, rfl⟩, rfl⟩, rfl⟩ rfl <| c_rd (fun e => ⟨[(47, cj (e 0) (SV.agg 1 (fun zi => (stG fam4) (0 + zi)))), (48, cj (e 1) (elB [iv (0), iv (1), iv (1), iv (1), iv (2), iv (1)] 0)), (49, cj (e 2) (SV.agg 2 (fun zi => (fun zt => ([iv (0), iv (1), iv (1), iv (1), iv (2), iv (1)] : List SV).getD zt .junk) (0 + zi)))), (50, cj (e 3) (elB [iv (0), iv (1), iv (1), iv (1), iv (2), iv (1)] 4)), (51, cj (e 4) (SV.agg 2 (fun zi => (fun zt => ([iv (0), iv (1), iv (1), iv (1), iv (2), iv (1)] : List SV).getD zt .junk) (4 + zi)))), (52, cj (e 5) (hdRow ([⟨1, 1⟩]))), (53, cj (e 6) (sv2 (SV.agg 1 (stG fam5)) (iv (0)))), (46, cj (e 7) (sv2 (SV.agg 1 (stG fam5)) (iv (0)))), (54, cj (e 8) (SV.agg 1 (stG fam5))), (55, cj (e 9) (iv (0))), (4, cj (e 11) (iv (0))), (0, SV.bp 1 0), (1, SV.bp 2 0), (3, SV.bp 3 0), (5, bv (true && (decide ((0 : Int) = 0)))), (6, elB [iv (0), iv (1), iv (1), iv (1), iv (2), iv (1)] 0)], (cb (e 10) [(1, Own.box 1 (cmpG [SV.v (Value.slice none 0 0)]) 24), (2, Own.box 6 (cmpG [iv (0), iv (0), iv (0), iv (0), iv (0), iv (0)]) 113), (3, Own.box 1 (stG fam5) 24)] [(1, Own.box 1 (cmpG [SV.v (Value.slice none 0 0)]) 24), (2, Own.box 6 (cmpG [iv (0), iv (0), iv (0), iv (0), iv (0), iv (0)]) 113), (3, Own.box 1 (stG fam4) 24)])⟩) ⟨[(47, SV.agg 1 (fun zi => (stG fam4) (0 + zi))), (48, elB [iv (0), iv (1), iv (1), iv (1), iv (2), iv (1)] 0), (49, SV.agg 2 (fun zi => (fun zt => ([iv (0), iv (1), iv (1), iv (1), iv (2), iv (1)] : List SV).getD zt .junk) (0 + zi))), (50, elB [iv (0), iv (1), iv (1), iv (1), iv (2), iv (1)] 4), (51, SV.agg 2 (fun zi => (fun zt => ([iv (0), iv (1), iv (1), iv (1), iv (2), iv (1)] : List SV).getD zt .junk) (4 + zi))), (52, hdRow ([⟨1, 1⟩])), (53, sv2 (SV.agg 1 (stG fam5)) (iv (0))), (46, sv2 (SV.agg 1 (stG fam5)) (iv (0))), (54, SV.agg 1 (stG fam5)), (55, iv (0)), (4, iv (0)), (0, SV.bp 1 0), (1, SV.bp 2 0), (3, SV.bp 3 0), (5, bv (true && (decide ((0 : Int) = 0)))), (6, elB [iv (0), iv (1), iv (1), iv (1), iv (2), iv (1)] 0)], [(1, Own.box 1 (cmpG [SV.v (Value.slice none 0 0)]) 24), (2, Own.box 6 (cmpG [iv (0), iv (0), iv (0), iv (0), iv (0), iv (0)]) 113), (3, Own.box 1 (stG fam5) 24)]⟩ (by kernel_rfl) (by kernel_rfl) ?_ ⟨?_, ?_, ?_, ?_, ?_, ?_, ?_, ?_, ?_, ?_, ?_, ?_, Z⟩ ?_ ?_
    ·show Weak _ _ ⟨[(47, SV.junk), (48, SV.junk), (49, SV.junk), (50, SV.junk), (51, SV.junk), (52, SV.junk), (53, SV.junk), (46, SV.junk), (54, SV.junk), (55, SV.junk), (4, SV.junk), (0, SV.bp 1 0), (1, SV.bp 2 0), (3, SV.bp 3 0), (5, bv (true && (decide ((0 : Int) = 0)))), (6, elB [iv (0), iv (1), iv (1), iv (1), iv (2), iv (1)] 0)], [(1, Own.box 1 (cmpG [SV.v (Value.slice none 0 0)]) 24), (2, Own.box 6 (cmpG [iv (0), iv (0), iv (0), iv (0), iv (0), iv (0)]) 113), (3, Own.box 1 (stG fam4) 24)]⟩
     refine We ?_ ?_
     ·exact ⟨Vj, Vj, Vj, Vj, Vj, Vj, Vj, Vj, Vj, Vj, Vj, V rfl, V rfl, V rfl, V rfl, V rfl, Z⟩
     ·exact ⟨⟨_, rfl, ⟨rfl, rfl, (An rfl)⟩⟩, ⟨_, rfl, ⟨rfl, rfl, (An rfl)⟩⟩, ⟨_, rfl, ⟨rfl, rfl, (An rfl)⟩⟩, Z⟩
    ·intro e hdn he hdp
     have h10 : e 10 = false := fls he fun q => by obtain ⟨r8, -, -, -, -, -, -, -, -, -, -, -⟩ := (show e 8 = true ∧ e 6 = true ∧ e 0 = true ∧ e 1 = true ∧ e 2 = true ∧ e 3 = true ∧ e 4 = true ∧ e 5 = true ∧ e 6 = true ∧ e 7 = true ∧ e 8 = true ∧ True from hdn 10 q); obtain ⟨r7, -⟩ := (show e 7 = true ∧ True from hdn 8 r8); obtain ⟨r6, -⟩ := (show e 6 = true ∧ True from hdn 7 r7); obtain ⟨r0, -, -, -, -⟩ := (show e 0 = true ∧ e 2 = true ∧ e 4 = true ∧ e 5 = true ∧ True from hdn 6 r6); exact r0
     simp only [setE, he, h10, cj_t, cj_f, cjn_t, cjn_f, cb_t, cb_f]
     refine U (LBA (V rfl) rfl Ga24 Sz24 (by decide)) <| Nt <| We ?_ ?_
     ·exact ⟨V rfl, V rfl, V rfl, V rfl, V rfl, V rfl, V rfl, V rfl, V rfl, V rfl, V rfl, V rfl, V rfl, V rfl, V rfl, V rfl, Z⟩
     ·exact ⟨⟨_, rfl, ⟨rfl, rfl, (An rfl)⟩⟩, ⟨_, rfl, ⟨rfl, rfl, (An rfl)⟩⟩, ⟨_, rfl, ⟨rfl, rfl, (An rfl)⟩⟩, Z⟩
    ·intro e hdn he hdp
     have h10 : e 10 = false := fls he fun q => by obtain ⟨r8, -, -, -, -, -, -, -, -, -, -, -⟩ := (show e 8 = true ∧ e 6 = true ∧ e 0 = true ∧ e 1 = true ∧ e 2 = true ∧ e 3 = true ∧ e 4 = true ∧ e 5 = true ∧ e 6 = true ∧ e 7 = true ∧ e 8 = true ∧ True from hdn 10 q); obtain ⟨r7, -⟩ := (show e 7 = true ∧ True from hdn 8 r8); obtain ⟨r6, -⟩ := (show e 6 = true ∧ True from hdn 7 r7); obtain ⟨-, r2, -, -, -⟩ := (show e 0 = true ∧ e 2 = true ∧ e 4 = true ∧ e 5 = true ∧ True from hdn 6 r6); obtain ⟨r1, -⟩ := (show e 1 = true ∧ True from hdn 2 r2); exact r1
     simp only [setE, he, h10, cj_t, cj_f, cjn_t, cjn_f, cb_t, cb_f]
     refine U (q_ixE (i := 0) (V rfl) K ta113 te113 (by rw [al113]; decide)) <| Nt <| We ?_ ?_
     ·exact ⟨V rfl, V rfl, V rfl, V rfl, V rfl, V rfl, V rfl, V rfl, V rfl, V rfl, V rfl, V rfl, V rfl, V rfl, V rfl, V rfl, Z⟩
     ·exact ⟨⟨_, rfl, ⟨rfl, rfl, (An rfl)⟩⟩, ⟨_, rfl, ⟨rfl, rfl, (An rfl)⟩⟩, ⟨_, rfl, ⟨rfl, rfl, (An rfl)⟩⟩, Z⟩
    ·intro e hdn he hdp
     obtain ⟨h1, -⟩ := (show e 1 = true ∧ True from hdp)
     have h10 : e 10 = false := fls he fun q => by obtain ⟨r8, -, -, -, -, -, -, -, -, -, -, -⟩ := (show e 8 = true ∧ e 6 = true ∧ e 0 = true ∧ e 1 = true ∧ e 2 = true ∧ e 3 = true ∧ e 4 = true ∧ e 5 = true ∧ e 6 = true ∧ e 7 = true ∧ e 8 = true ∧ True from hdn 10 q); obtain ⟨r7, -⟩ := (show e 7 = true ∧ True from hdn 8 r8); obtain ⟨r6, -⟩ := (show e 6 = true ∧ True from hdn 7 r7); obtain ⟨-, r2, -, -, -⟩ := (show e 0 = true ∧ e 2 = true ∧ e 4 = true ∧ e 5 = true ∧ True from hdn 6 r6); exact r2
     simp only [setE, h1, he, h10, cj_t, cj_f, cjn_t, cjn_f, cb_t, cb_f]
     refine U (LdA (V rfl) Ga26 Sz26 (by show 0 + 2 ≤ 6; decide)) <| Nt <| We ?_ ?_
     ·exact ⟨V rfl, V rfl, V rfl, V rfl, V rfl, V rfl, V rfl, V rfl, V rfl, V rfl, V rfl, V rfl, V rfl, V rfl, V rfl, V rfl, Z⟩
     ·exact ⟨⟨_, rfl, ⟨rfl, rfl, (An rfl)⟩⟩, ⟨_, rfl, ⟨rfl, rfl, (An rfl)⟩⟩, ⟨_, rfl, ⟨rfl, rfl, (An rfl)⟩⟩, Z⟩
    ·intro e hdn he hdp
     have h10 : e 10 = false := fls he fun q => by obtain ⟨r8, -, -, -, -, -, -, -, -, -, -, -⟩ := (show e 8 = true ∧ e 6 = true ∧ e 0 = true ∧ e 1 = true ∧ e 2 = true ∧ e 3 = true ∧ e 4 = true ∧ e 5 = true ∧ e 6 = true ∧ e 7 = true ∧ e 8 = true ∧ True from hdn 10 q); obtain ⟨r7, -⟩ := (show e 7 = true ∧ True from hdn 8 r8); obtain ⟨r6, -⟩ := (show e 6 = true ∧ True from hdn 7 r7); obtain ⟨-, -, r4, -, -⟩ := (show e 0 = true ∧ e 2 = true ∧ e 4 = true ∧ e 5 = true ∧ True from hdn 6 r6); obtain ⟨r3, -⟩ := (show e 3 = true ∧ True from hdn 4 r4); exact r3
     simp only [setE, he, h10, cj_t, cj_f, cjn_t, cjn_f, cb_t, cb_f]
     refine U (q_ixE (i := 2) (V rfl) K ta113 te113 (by rw [al113]; decide)) <| Nt <| We ?_ ?_
     ·exact ⟨V rfl, V rfl, V rfl, V rfl, V rfl, V rfl, V rfl, V rfl, V rfl, V rfl, V rfl, V rfl, V rfl, V rfl, V rfl, V rfl, Z⟩
     ·exact ⟨⟨_, rfl, ⟨rfl, rfl, (An rfl)⟩⟩, ⟨_, rfl, ⟨rfl, rfl, (An rfl)⟩⟩, ⟨_, rfl, ⟨rfl, rfl, (An rfl)⟩⟩, Z⟩
    ·intro e hdn he hdp
     obtain ⟨h3, -⟩ := (show e 3 = true ∧ True from hdp)
     have h10 : e 10 = false := fls he fun q => by obtain ⟨r8, -, -, -, -, -, -, -, -, -, -, -⟩ := (show e 8 = true ∧ e 6 = true ∧ e 0 = true ∧ e 1 = true ∧ e 2 = true ∧ e 3 = true ∧ e 4 = true ∧ e 5 = true ∧ e 6 = true ∧ e 7 = true ∧ e 8 = true ∧ True from hdn 10 q); obtain ⟨r7, -⟩ := (show e 7 = true ∧ True from hdn 8 r8); obtain ⟨r6, -⟩ := (show e 6 = true ∧ True from hdn 7 r7); obtain ⟨-, -, r4, -, -⟩ := (show e 0 = true ∧ e 2 = true ∧ e 4 = true ∧ e 5 = true ∧ True from hdn 6 r6); exact r4
     simp only [setE, h3, he, h10, cj_t, cj_f, cjn_t, cjn_f, cb_t, cb_f]
     refine U (LdA (V rfl) Ga26 Sz26 (by show 4 + 2 ≤ 6; decide)) <| Nt <| We ?_ ?_
     ·exact ⟨V rfl, V rfl, V rfl, V rfl, V rfl, V rfl, V rfl, V rfl, V rfl, V rfl, V rfl, V rfl, V rfl, V rfl, V rfl, V rfl, Z⟩
     ·exact ⟨⟨_, rfl, ⟨rfl, rfl, (An rfl)⟩⟩, ⟨_, rfl, ⟨rfl, rfl, (An rfl)⟩⟩, ⟨_, rfl, ⟨rfl, rfl, (An rfl)⟩⟩, Z⟩
    ·intro e hdn he hdp
     have h10 : e 10 = false := fls he fun q => by obtain ⟨r8, -, -, -, -, -, -, -, -, -, -, -⟩ := (show e 8 = true ∧ e 6 = true ∧ e 0 = true ∧ e 1 = true ∧ e 2 = true ∧ e 3 = true ∧ e 4 = true ∧ e 5 = true ∧ e 6 = true ∧ e 7 = true ∧ e 8 = true ∧ True from hdn 10 q); obtain ⟨r7, -⟩ := (show e 7 = true ∧ True from hdn 8 r8); obtain ⟨r6, -⟩ := (show e 6 = true ∧ True from hdn 7 r7); obtain ⟨-, -, -, r5, -⟩ := (show e 0 = true ∧ e 2 = true ∧ e 4 = true ∧ e 5 = true ∧ True from hdn 6 r6); exact r5
     simp only [setE, he, h10, cj_t, cj_f, cjn_t, cjn_f, cb_t, cb_f]
     refine U (q_slA (cell := hdCell) (d := default) (k := 2) (l := 1) (h := 2) [⟨1, 1⟩] ta113 te113 (V rfl) K K (by decide) (by rw [al113]; decide) (by rw [al113]; decide) (by rw [al113]; decide) rfl (fun i hi => match i, hi with | 0, _ => An rfl)) <| Nt <| We ?_ ?_
     ·exact ⟨V rfl, V rfl, V rfl, V rfl, V rfl, V rfl, V rfl, V rfl, V rfl, V rfl, V rfl, V rfl, V rfl, V rfl, V rfl, V rfl, Z⟩
     ·exact ⟨⟨_, rfl, ⟨rfl, rfl, (An rfl)⟩⟩, ⟨_, rfl, ⟨rfl, rfl, (An rfl)⟩⟩, ⟨_, rfl, ⟨rfl, rfl, (An rfl)⟩⟩, Z⟩
    ·intro e hdn he hdp
     obtain ⟨h0, h2, h4, h5, -⟩ := (show e 0 = true ∧ e 2 = true ∧ e 4 = true ∧ e 5 = true ∧ True from hdp)
     obtain ⟨h3, -⟩ := (show e 3 = true ∧ True from hdn 4 h4)
     obtain ⟨h1, -⟩ := (show e 1 = true ∧ True from hdn 2 h2)
     have h10 : e 10 = false := fls he fun q => by obtain ⟨r8, -, -, -, -, -, -, -, -, -, -, -⟩ := (show e 8 = true ∧ e 6 = true ∧ e 0 = true ∧ e 1 = true ∧ e 2 = true ∧ e 3 = true ∧ e 4 = true ∧ e 5 = true ∧ e 6 = true ∧ e 7 = true ∧ e 8 = true ∧ True from hdn 10 q); obtain ⟨r7, -⟩ := (show e 7 = true ∧ True from hdn 8 r8); obtain ⟨r6, -⟩ := (show e 6 = true ∧ True from hdn 7 r7); exact r6
     simp only [setE, h0, h1, h2, h3, h4, h5, he, h10, cj_t, cj_f, cjn_t, cjn_f, cb_t, cb_f]
     refine CT en56 (by exact ⟨⟨(Vi (g' := stG fam4) (V rfl) ⟨Z, Ir⟩), rfl⟩, ⟨(Vi (g' := hdCell ⟨0, 1⟩) (V rfl) ⟨⟨Z, Ir⟩, Ir⟩), rfl⟩, ⟨(Vi (g' := hdCell ⟨2, 1⟩) (V rfl) ⟨⟨Z, Ir⟩, Ir⟩), rfl⟩, ⟨(V rfl), rfl⟩, Z⟩) (famI5) <| Nt <| We ?_ ?_
     ·exact ⟨V rfl, V rfl, V rfl, V rfl, V rfl, V rfl, V rfl, V rfl, V rfl, V rfl, V rfl, V rfl, V rfl, V rfl, V rfl, V rfl, Z⟩
     ·exact ⟨⟨_, rfl, ⟨rfl, rfl, (An rfl)⟩⟩, ⟨_, rfl, ⟨rfl, rfl, (An rfl)⟩⟩, ⟨_, rfl, ⟨rfl, rfl, (An rfl)⟩⟩, Z⟩
    ·intro e hdn he hdp
     obtain ⟨h6, -⟩ := (show e 6 = true ∧ True from hdp)
     obtain ⟨h0, h2, h4, h5, -⟩ := (show e 0 = true ∧ e 2 = true ∧ e 4 = true ∧ e 5 = true ∧ True from hdn 6 h6)
     obtain ⟨h3, -⟩ := (show e 3 = true ∧ True from hdn 4 h4)
     obtain ⟨h1, -⟩ := (show e 1 = true ∧ True from hdn 2 h2)
     have h10 : e 10 = false := fls he fun q => by obtain ⟨r8, -, -, -, -, -, -, -, -, -, -, -⟩ := (show e 8 = true ∧ e 6 = true ∧ e 0 = true ∧ e 1 = true ∧ e 2 = true ∧ e 3 = true ∧ e 4 = true ∧ e 5 = true ∧ e 6 = true ∧ e 7 = true ∧ e 8 = true ∧ True from hdn 10 q); obtain ⟨r7, -⟩ := (show e 7 = true ∧ True from hdn 8 r8); exact r7
     simp only [setE, h0, h1, h2, h3, h4, h5, h6, he, h10, cj_t, cj_f, cjn_t, cjn_f, cb_t, cb_f]
     refine U (Mv (V rfl)) <| Nt <| We ?_ ?_
     ·exact ⟨V rfl, V rfl, V rfl, V rfl, V rfl, V rfl, V rfl, V rfl, V rfl, V rfl, V rfl, V rfl, V rfl, V rfl, V rfl, V rfl, Z⟩
     ·exact ⟨⟨_, rfl, ⟨rfl, rfl, (An rfl)⟩⟩, ⟨_, rfl, ⟨rfl, rfl, (An rfl)⟩⟩, ⟨_, rfl, ⟨rfl, rfl, (An rfl)⟩⟩, Z⟩
    ·intro e hdn he hdp
     obtain ⟨h7, -⟩ := (show e 7 = true ∧ True from hdp)
     obtain ⟨h6, -⟩ := (show e 6 = true ∧ True from hdn 7 h7)
     obtain ⟨h0, h2, h4, h5, -⟩ := (show e 0 = true ∧ e 2 = true ∧ e 4 = true ∧ e 5 = true ∧ True from hdn 6 h6)
     obtain ⟨h3, -⟩ := (show e 3 = true ∧ True from hdn 4 h4)
     obtain ⟨h1, -⟩ := (show e 1 = true ∧ True from hdn 2 h2)
     have h10 : e 10 = false := fls he fun q => by obtain ⟨r8, -, -, -, -, -, -, -, -, -, -, -⟩ := (show e 8 = true ∧ e 6 = true ∧ e 0 = true ∧ e 1 = true ∧ e 2 = true ∧ e 3 = true ∧ e 4 = true ∧ e 5 = true ∧ e 6 = true ∧ e 7 = true ∧ e 8 = true ∧ True from hdn 10 q); exact r8
     simp only [setE, h0, h1, h2, h3, h4, h5, h6, h7, he, h10, cj_t, cj_f, cjn_t, cjn_f, cb_t, cb_f]
     refine U (Xt (V rfl) (by decide)) <| Nt <| We ?_ ?_
     ·exact ⟨V rfl, V rfl, V rfl, V rfl, V rfl, V rfl, V rfl, V rfl, V rfl, V rfl, V rfl, V rfl, V rfl, V rfl, V rfl, V rfl, Z⟩
     ·exact ⟨⟨_, rfl, ⟨rfl, rfl, (An rfl)⟩⟩, ⟨_, rfl, ⟨rfl, rfl, (An rfl)⟩⟩, ⟨_, rfl, ⟨rfl, rfl, (An rfl)⟩⟩, Z⟩
    ·intro e hdn he hdp
     obtain ⟨h7, -⟩ := (show e 7 = true ∧ True from hdp)
     obtain ⟨h6, -⟩ := (show e 6 = true ∧ True from hdn 7 h7)
     obtain ⟨h0, h2, h4, h5, -⟩ := (show e 0 = true ∧ e 2 = true ∧ e 4 = true ∧ e 5 = true ∧ True from hdn 6 h6)
     obtain ⟨h3, -⟩ := (show e 3 = true ∧ True from hdn 4 h4)
     obtain ⟨h1, -⟩ := (show e 1 = true ∧ True from hdn 2 h2)
     simp only [setE, h0, h1, h2, h3, h4, h5, h6, h7, he, cj_t, cj_f, cjn_t, cjn_f, cb_t, cb_f]
     exact U (Xt (V rfl) (by decide)) <| Nt <| weakS ⟨V rfl, V rfl, V rfl, V rfl, V rfl, V rfl, V rfl, V rfl, V rfl, V rfl, V rfl, V rfl, V rfl, V rfl, V rfl, V rfl, Z⟩
    ·intro e hdn he hdp
     obtain ⟨h8, h6, h0, h1, h2, h3, h4, h5, -, h7, -, -⟩ := (show e 8 = true ∧ e 6 = true ∧ e 0 = true ∧ e 1 = true ∧ e 2 = true ∧ e 3 = true ∧ e 4 = true ∧ e 5 = true ∧ e 6 = true ∧ e 7 = true ∧ e 8 = true ∧ True from hdp)
     simp only [setE, h0, h1, h2, h3, h4, h5, h6, h7, h8, he, cj_t, cj_f, cjn_t, cjn_f, cb_t, cb_f]
     refine StA (V rfl) rfl (V rfl) Sz24 <| Nt <| We ?_ ?_
     ·exact ⟨V rfl, V rfl, V rfl, V rfl, V rfl, V rfl, V rfl, V rfl, V rfl, V rfl, V rfl, V rfl, V rfl, V rfl, V rfl, V rfl, Z⟩
     ·exact ⟨⟨_, rfl, ⟨rfl, rfl, (An rfl)⟩⟩, ⟨_, rfl, ⟨rfl, rfl, (An rfl)⟩⟩, ⟨_, rfl, ⟨rfl, rfl, (An rfl)⟩⟩, Z⟩
    ·intro e hdn he hdp
     obtain ⟨h9, h10, h0, h1, h2, h3, h4, h5, h6, h7, h8, -, -, -⟩ := (show e 9 = true ∧ e 10 = true ∧ e 0 = true ∧ e 1 = true ∧ e 2 = true ∧ e 3 = true ∧ e 4 = true ∧ e 5 = true ∧ e 6 = true ∧ e 7 = true ∧ e 8 = true ∧ e 9 = true ∧ e 10 = true ∧ True from hdp)
     simp only [setE, h0, h1, h2, h3, h4, h5, h6, h7, h8, h9, h10, he, cj_t, cj_f, cjn_t, cjn_f, cb_t, cb_f]
     refine U (As (V rfl)) <| Nt <| We ?_ ?_
     ·exact ⟨V rfl, V rfl, V rfl, V rfl, V rfl, V rfl, V rfl, V rfl, V rfl, V rfl, V rfl, V rfl, V rfl, V rfl, V rfl, V rfl, Z⟩
     ·exact ⟨⟨_, rfl, ⟨rfl, rfl, (An rfl)⟩⟩, ⟨_, rfl, ⟨rfl, rfl, (An rfl)⟩⟩, ⟨_, rfl, ⟨rfl, rfl, (An rfl)⟩⟩, Z⟩
    ·intro e he
     have h0 := he 0 (by decide)
     have h1 := he 1 (by decide)
     have h2 := he 2 (by decide)
     have h3 := he 3 (by decide)
     have h4 := he 4 (by decide)
     have h5 := he 5 (by decide)
     have h6 := he 6 (by decide)
     have h7 := he 7 (by decide)
     have h8 := he 8 (by decide)
     have h9 := he 9 (by decide)
     have h10 := he 10 (by decide)
     have h11 := he 11 (by decide)
     show Weak _ ⟨[(47, cj (e 0) (SV.agg 1 (fun zi => (stG fam4) (0 + zi)))), (48, cj (e 1) (elB [iv (0), iv (1), iv (1), iv (1), iv (2), iv (1)] 0)), (49, cj (e 2) (SV.agg 2 (fun zi => (fun zt => ([iv (0), iv (1), iv (1), iv (1), iv (2), iv (1)] : List SV).getD zt .junk) (0 + zi)))), (50, cj (e 3) (elB [iv (0), iv (1), iv (1), iv (1), iv (2), iv (1)] 4)), (51, cj (e 4) (SV.agg 2 (fun zi => (fun zt => ([iv (0), iv (1), iv (1), iv (1), iv (2), iv (1)] : List SV).getD zt .junk) (4 + zi)))), (52, cj (e 5) (hdRow ([⟨1, 1⟩]))), (53, cj (e 6) (sv2 (SV.agg 1 (stG fam5)) (iv (0)))), (46, cj (e 7) (sv2 (SV.agg 1 (stG fam5)) (iv (0)))), (54, cj (e 8) (SV.agg 1 (stG fam5))), (55, cj (e 9) (iv (0))), (4, cj (e 11) (iv (0))), (0, SV.bp 1 0), (1, SV.bp 2 0), (3, SV.bp 3 0), (5, bv (true && (decide ((0 : Int) = 0)))), (6, elB [iv (0), iv (1), iv (1), iv (1), iv (2), iv (1)] 0)], (cb (e 10) [(1, Own.box 1 (cmpG [SV.v (Value.slice none 0 0)]) 24), (2, Own.box 6 (cmpG [iv (0), iv (0), iv (0), iv (0), iv (0), iv (0)]) 113), (3, Own.box 1 (stG fam5) 24)] [(1, Own.box 1 (cmpG [SV.v (Value.slice none 0 0)]) 24), (2, Own.box 6 (cmpG [iv (0), iv (0), iv (0), iv (0), iv (0), iv (0)]) 113), (3, Own.box 1 (stG fam4) 24)])⟩ _
     simp only [h0, h1, h2, h3, h4, h5, h6, h7, h8, h9, h10, h11]
     show Weak _ ⟨[(47, SV.agg 1 (fun zi => (stG fam4) (0 + zi))), (48, elB [iv (0), iv (1), iv (1), iv (1), iv (2), iv (1)] 0), (49, SV.agg 2 (fun zi => (fun zt => ([iv (0), iv (1), iv (1), iv (1), iv (2), iv (1)] : List SV).getD zt .junk) (0 + zi))), (50, elB [iv (0), iv (1), iv (1), iv (1), iv (2), iv (1)] 4), (51, SV.agg 2 (fun zi => (fun zt => ([iv (0), iv (1), iv (1), iv (1), iv (2), iv (1)] : List SV).getD zt .junk) (4 + zi))), (52, hdRow ([⟨1, 1⟩])), (53, sv2 (SV.agg 1 (stG fam5)) (iv (0))), (46, sv2 (SV.agg 1 (stG fam5)) (iv (0))), (54, SV.agg 1 (stG fam5)), (55, iv (0)), (4, iv (0)), (0, SV.bp 1 0), (1, SV.bp 2 0), (3, SV.bp 3 0), (5, bv (true && (decide ((0 : Int) = 0)))), (6, elB [iv (0), iv (1), iv (1), iv (1), iv (2), iv (1)] 0)], [(1, Own.box 1 (cmpG [SV.v (Value.slice none 0 0)]) 24), (2, Own.box 6 (cmpG [iv (0), iv (0), iv (0), iv (0), iv (0), iv (0)]) 113), (3, Own.box 1 (stG fam5) 24)]⟩ _
     refine We ?_ ?_
     ·exact ⟨Va (V rfl) (An rfl), V rfl, Va (V rfl) (An rfl), V rfl, Va (V rfl) (An rfl), V rfl, V rfl, V rfl, Va (V rfl) (An rfl), V rfl, V rfl, V rfl, V rfl, V rfl, V rfl, V rfl, Z⟩
     ·exact ⟨⟨_, rfl, ⟨rfl, rfl, (An rfl)⟩⟩, ⟨_, rfl, ⟨rfl, rfl, (An rfl)⟩⟩, ⟨_, rfl, ⟨rfl, rfl, (An rfl)⟩⟩, Z⟩
    refine Sq <| c_rd (fun e => ⟨[(56, cj (e 0) (SV.agg 1 (fun zi => (stG fam5) (0 + zi)))), (57, cj (e 1) (SV.agg 6 (fun zi => (fun zt => ([iv (0), iv (1), iv (1), iv (1), iv (2), iv (1)] : List SV).getD zt .junk) (0 + zi)))), (58, cj (e 2) (bv (true && (decide ((0 : Int) = 0))))), (59, cj (e 3) (bv (true && (decide ((0 : Int) = 0))))), (60, cj (e 4) (SV.grd ((true && (decide ((0 : Int) = 0)))) (iv (0)))), (61, cj (e 5) (SV.grd ((true && (decide ((0 : Int) = 0)))) (bv (decide ((0 : Int) = 0))))), (62, cj (e 6) (bv ((true && (decide ((0 : Int) = 0))) && (decide ((0 : Int) = 0))))), (63, cj (e 7) (bv ((true && (decide ((0 : Int) = 0))) && (decide ((0 : Int) = 0))))), (64, cj (e 8) (SV.grd (((true && (decide ((0 : Int) = 0))) && (decide ((0 : Int) = 0)))) (SV.bp 3 0))), (65, cj (e 9) (SV.grd (((true && (decide ((0 : Int) = 0))) && (decide ((0 : Int) = 0)))) (ndRow fam5))), (66, cj (e 10) (SV.grd (((true && (decide ((0 : Int) = 0))) && (decide ((0 : Int) = 0)))) (iv ((fam5.length : Int))))), (67, cj (e 11) (SV.grd (((true && (decide ((0 : Int) = 0))) && (decide ((0 : Int) = 0)))) (bv (decide ((fam5.length : Int) = 6))))), (68, cj (e 12) (bv (((true && (decide ((0 : Int) = 0))) && (decide ((0 : Int) = 0))) && (decide ((fam5.length : Int) = 6))))), (2, cj (e 15) (bv (((true && (decide ((0 : Int) = 0))) && (decide ((0 : Int) = 0))) && (decide ((fam5.length : Int) = 6))))), (0, SV.bp 1 0), (1, SV.bp 2 0), (3, SV.bp 3 0), (4, iv (0)), (5, bv (true && (decide ((0 : Int) = 0)))), (6, elB [iv (0), iv (1), iv (1), iv (1), iv (2), iv (1)] 0)], (cb (e 13) (cb (e 14) [(1, Own.box 1 (fun zi => (stG fam5) (0 + zi)) 24), (2, Own.box 6 (fun zi => (fun zt => ([iv (0), iv (1), iv (1), iv (1), iv (2), iv (1)] : List SV).getD zt .junk) (0 + zi)) 113), (3, Own.box 1 (stG fam5) 24)] [(1, Own.box 1 (fun zi => (stG fam5) (0 + zi)) 24), (2, Own.box 6 (cmpG [iv (0), iv (0), iv (0), iv (0), iv (0), iv (0)]) 113), (3, Own.box 1 (stG fam5) 24)]) (cb (e 14) [] [(1, Own.box 1 (cmpG [SV.v (Value.slice none 0 0)]) 24), (2, Own.box 6 (cmpG [iv (0), iv (0), iv (0), iv (0), iv (0), iv (0)]) 113), (3, Own.box 1 (stG fam5) 24)]))⟩) ⟨[(56, SV.agg 1 (fun zi => (stG fam5) (0 + zi))), (57, SV.agg 6 (fun zi => (fun zt => ([iv (0), iv (1), iv (1), iv (1), iv (2), iv (1)] : List SV).getD zt .junk) (0 + zi))), (58, bv (true && (decide ((0 : Int) = 0)))), (59, bv (true && (decide ((0 : Int) = 0)))), (60, SV.grd ((true && (decide ((0 : Int) = 0)))) (iv (0))), (61, SV.grd ((true && (decide ((0 : Int) = 0)))) (bv (decide ((0 : Int) = 0)))), (62, bv ((true && (decide ((0 : Int) = 0))) && (decide ((0 : Int) = 0)))), (63, bv ((true && (decide ((0 : Int) = 0))) && (decide ((0 : Int) = 0)))), (64, SV.grd (((true && (decide ((0 : Int) = 0))) && (decide ((0 : Int) = 0)))) (SV.bp 3 0)), (65, SV.grd (((true && (decide ((0 : Int) = 0))) && (decide ((0 : Int) = 0)))) (ndRow fam5)), (66, SV.grd (((true && (decide ((0 : Int) = 0))) && (decide ((0 : Int) = 0)))) (iv ((fam5.length : Int)))), (67, SV.grd (((true && (decide ((0 : Int) = 0))) && (decide ((0 : Int) = 0)))) (bv (decide ((fam5.length : Int) = 6)))), (68, bv (((true && (decide ((0 : Int) = 0))) && (decide ((0 : Int) = 0))) && (decide ((fam5.length : Int) = 6)))), (2, bv (((true && (decide ((0 : Int) = 0))) && (decide ((0 : Int) = 0))) && (decide ((fam5.length : Int) = 6)))), (0, SV.bp 1 0), (1, SV.bp 2 0), (3, SV.bp 3 0), (4, iv (0)), (5, bv (true && (decide ((0 : Int) = 0)))), (6, elB [iv (0), iv (1), iv (1), iv (1), iv (2), iv (1)] 0)], [(1, Own.box 1 (fun zi => (stG fam5) (0 + zi)) 24), (2, Own.box 6 (fun zi => (fun zt => ([iv (0), iv (1), iv (1), iv (1), iv (2), iv (1)] : List SV).getD zt .junk) (0 + zi)) 113), (3, Own.box 1 (stG fam5) 24)]⟩ (by kernel_rfl) (by kernel_rfl) ?_ ⟨?_, ?_, ?_, ?_, ?_, ?_, ?_, ?_, ?_, ?_, ?_, ?_, ?_, ?_, ?_, ?_, Z⟩ ?_ ?_
    ·show Weak _ _ ⟨[(56, SV.junk), (57, SV.junk), (58, SV.junk), (59, SV.junk), (60, SV.junk), (61, SV.junk), (62, SV.junk), (63, SV.junk), (64, SV.junk), (65, SV.junk), (66, SV.junk), (67, SV.junk), (68, SV.junk), (2, SV.junk), (0, SV.bp 1 0), (1, SV.bp 2 0), (3, SV.bp 3 0), (4, iv (0)), (5, bv (true && (decide ((0 : Int) = 0)))), (6, elB [iv (0), iv (1), iv (1), iv (1), iv (2), iv (1)] 0)], [(1, Own.box 1 (cmpG [SV.v (Value.slice none 0 0)]) 24), (2, Own.box 6 (cmpG [iv (0), iv (0), iv (0), iv (0), iv (0), iv (0)]) 113), (3, Own.box 1 (stG fam5) 24)]⟩
     refine We ?_ ?_
     ·exact ⟨Vj, Vj, Vj, Vj, Vj, Vj, Vj, Vj, Vj, Vj, Vj, Vj, Vj, Vj, V rfl, V rfl, V rfl, V rfl, V rfl, V rfl, Z⟩
     ·exact ⟨⟨_, rfl, ⟨rfl, rfl, (An rfl)⟩⟩, ⟨_, rfl, ⟨rfl, rfl, (An rfl)⟩⟩, ⟨_, rfl, ⟨rfl, rfl, (An rfl)⟩⟩, Z⟩
    ·intro e hdn he hdp
     have h13 : e 13 = false := fls he fun q => by obtain ⟨r0, -, -, -⟩ := (show e 0 = true ∧ e 7 = true ∧ e 0 = true ∧ True from hdn 13 q); exact r0
     have h14 : e 14 = false := fls he fun q => by obtain ⟨-, r13, -, -, -, -⟩ := (show e 1 = true ∧ e 13 = true ∧ e 0 = true ∧ e 1 = true ∧ e 13 = true ∧ True from hdn 14 q); obtain ⟨r0, -, -, -⟩ := (show e 0 = true ∧ e 7 = true ∧ e 0 = true ∧ True from hdn 13 r13); exact r0
     simp only [setE, he, h13, h14, cj_t, cj_f, cjn_t, cjn_f, cb_t, cb_f]
     refine U (LBA (V rfl) rfl Ga24 Sz24 (by decide)) <| Nt <| We ?_ ?_
     ·exact ⟨V rfl, V rfl, V rfl, V rfl, V rfl, V rfl, V rfl, V rfl, V rfl, V rfl, V rfl, V rfl, V rfl, V rfl, V rfl, V rfl, V rfl, V rfl, V rfl, V rfl, Z⟩
     ·exact ⟨⟨_, rfl, ⟨rfl, rfl, (An rfl)⟩⟩, ⟨_, rfl, ⟨rfl, rfl, (An rfl)⟩⟩, ⟨_, rfl, ⟨rfl, rfl, (An rfl)⟩⟩, Z⟩
    ·intro e hdn he hdp
     have h14 : e 14 = false := fls he fun q => by obtain ⟨r1, -, -, -, -, -⟩ := (show e 1 = true ∧ e 13 = true ∧ e 0 = true ∧ e 1 = true ∧ e 13 = true ∧ True from hdn 14 q); exact r1
     simp only [setE, he, h14, cj_t, cj_f, cjn_t, cjn_f, cb_t, cb_f]
     exact U (LdA (V rfl) Ga113 Sz113 (by show 0 + 6 ≤ 6; decide)) <| Nt <| weakS ⟨V rfl, V rfl, V rfl, V rfl, V rfl, V rfl, V rfl, V rfl, V rfl, V rfl, V rfl, V rfl, V rfl, V rfl, V rfl, V rfl, V rfl, V rfl, V rfl, V rfl, Z⟩
    ·intro e hdn he hdp
     have h13 : e 13 = false := fls he fun q => by obtain ⟨-, r7, -, -⟩ := (show e 0 = true ∧ e 7 = true ∧ e 0 = true ∧ True from hdn 13 q); obtain ⟨r6, -, -⟩ := (show e 6 = true ∧ e 3 = true ∧ True from hdn 7 r7); obtain ⟨-, r5, -⟩ := (show e 3 = true ∧ e 5 = true ∧ True from hdn 6 r6); obtain ⟨r4, -, -⟩ := (show e 4 = true ∧ e 3 = true ∧ True from hdn 5 r5); obtain ⟨r3, -⟩ := (show e 3 = true ∧ True from hdn 4 r4); obtain ⟨r2, -⟩ := (show e 2 = true ∧ True from hdn 3 r3); exact r2
     have h14 : e 14 = false := fls he fun q => by obtain ⟨-, r13, -, -, -, -⟩ := (show e 1 = true ∧ e 13 = true ∧ e 0 = true ∧ e 1 = true ∧ e 13 = true ∧ True from hdn 14 q); obtain ⟨-, r7, -, -⟩ := (show e 0 = true ∧ e 7 = true ∧ e 0 = true ∧ True from hdn 13 r13); obtain ⟨r6, -, -⟩ := (show e 6 = true ∧ e 3 = true ∧ True from hdn 7 r7); obtain ⟨-, r5, -⟩ := (show e 3 = true ∧ e 5 = true ∧ True from hdn 6 r6); obtain ⟨r4, -, -⟩ := (show e 4 = true ∧ e 3 = true ∧ True from hdn 5 r5); obtain ⟨r3, -⟩ := (show e 3 = true ∧ True from hdn 4 r4); obtain ⟨r2, -⟩ := (show e 2 = true ∧ True from hdn 3 r3); exact r2
     simp only [setE, he, h13, h14, cj_t, cj_f, cjn_t, cjn_f, cb_t, cb_f]
     refine U (Mv (V rfl)) <| Nt <| We ?_ ?_
     ·exact ⟨V rfl, V rfl, V rfl, V rfl, V rfl, V rfl, V rfl, V rfl, V rfl, V rfl, V rfl, V rfl, V rfl, V rfl, V rfl, V rfl, V rfl, V rfl, V rfl, V rfl, Z⟩
     ·exact ⟨⟨_, rfl, ⟨rfl, rfl, (An rfl)⟩⟩, ⟨_, rfl, ⟨rfl, rfl, (An rfl)⟩⟩, ⟨_, rfl, ⟨rfl, rfl, (An rfl)⟩⟩, Z⟩
    ·intro e hdn he hdp
     obtain ⟨h2, -⟩ := (show e 2 = true ∧ True from hdp)
     have h13 : e 13 = false := fls he fun q => by obtain ⟨-, r7, -, -⟩ := (show e 0 = true ∧ e 7 = true ∧ e 0 = true ∧ True from hdn 13 q); obtain ⟨r6, -, -⟩ := (show e 6 = true ∧ e 3 = true ∧ True from hdn 7 r7); obtain ⟨-, r5, -⟩ := (show e 3 = true ∧ e 5 = true ∧ True from hdn 6 r6); obtain ⟨r4, -, -⟩ := (show e 4 = true ∧ e 3 = true ∧ True from hdn 5 r5); obtain ⟨r3, -⟩ := (show e 3 = true ∧ True from hdn 4 r4); exact r3
     have h14 : e 14 = false := fls he fun q => by obtain ⟨-, r13, -, -, -, -⟩ := (show e 1 = true ∧ e 13 = true ∧ e 0 = true ∧ e 1 = true ∧ e 13 = true ∧ True from hdn 14 q); obtain ⟨-, r7, -, -⟩ := (show e 0 = true ∧ e 7 = true ∧ e 0 = true ∧ True from hdn 13 r13); obtain ⟨r6, -, -⟩ := (show e 6 = true ∧ e 3 = true ∧ True from hdn 7 r7); obtain ⟨-, r5, -⟩ := (show e 3 = true ∧ e 5 = true ∧ True from hdn 6 r6); obtain ⟨r4, -, -⟩ := (show e 4 = true ∧ e 3 = true ∧ True from hdn 5 r5); obtain ⟨r3, -⟩ := (show e 3 = true ∧ True from hdn 4 r4); exact r3
     simp only [setE, h2, he, h13, h14, cj_t, cj_f, cjn_t, cjn_f, cb_t, cb_f]
     refine U (Mv (V rfl)) <| Nt <| We ?_ ?_
     ·exact ⟨V rfl, V rfl, V rfl, V rfl, V rfl, V rfl, V rfl, V rfl, V rfl, V rfl, V rfl, V rfl, V rfl, V rfl, V rfl, V rfl, V rfl, V rfl, V rfl, V rfl, Z⟩
     ·exact ⟨⟨_, rfl, ⟨rfl, rfl, (An rfl)⟩⟩, ⟨_, rfl, ⟨rfl, rfl, (An rfl)⟩⟩, ⟨_, rfl, ⟨rfl, rfl, (An rfl)⟩⟩, Z⟩
    ·intro e hdn he hdp
     obtain ⟨h3, -⟩ := (show e 3 = true ∧ True from hdp)
     obtain ⟨h2, -⟩ := (show e 2 = true ∧ True from hdn 3 h3)
     have h13 : e 13 = false := fls he fun q => by obtain ⟨-, r7, -, -⟩ := (show e 0 = true ∧ e 7 = true ∧ e 0 = true ∧ True from hdn 13 q); obtain ⟨r6, -, -⟩ := (show e 6 = true ∧ e 3 = true ∧ True from hdn 7 r7); obtain ⟨-, r5, -⟩ := (show e 3 = true ∧ e 5 = true ∧ True from hdn 6 r6); obtain ⟨r4, -, -⟩ := (show e 4 = true ∧ e 3 = true ∧ True from hdn 5 r5); exact r4
     have h14 : e 14 = false := fls he fun q => by obtain ⟨-, r13, -, -, -, -⟩ := (show e 1 = true ∧ e 13 = true ∧ e 0 = true ∧ e 1 = true ∧ e 13 = true ∧ True from hdn 14 q); obtain ⟨-, r7, -, -⟩ := (show e 0 = true ∧ e 7 = true ∧ e 0 = true ∧ True from hdn 13 r13); obtain ⟨r6, -, -⟩ := (show e 6 = true ∧ e 3 = true ∧ True from hdn 7 r7); obtain ⟨-, r5, -⟩ := (show e 3 = true ∧ e 5 = true ∧ True from hdn 6 r6); obtain ⟨r4, -, -⟩ := (show e 4 = true ∧ e 3 = true ∧ True from hdn 5 r5); exact r4
     simp only [setE, h2, h3, he, h13, h14, cj_t, cj_f, cjn_t, cjn_f, cb_t, cb_f]
     refine Ug (Gy rfl rfl) (fun hg => Mv (V rfl)) <| Nt <| We ?_ ?_
     ·exact ⟨V rfl, V rfl, V rfl, V rfl, V rfl, V rfl, V rfl, V rfl, V rfl, V rfl, V rfl, V rfl, V rfl, V rfl, V rfl, V rfl, V rfl, V rfl, V rfl, V rfl, Z⟩
     ·exact ⟨⟨_, rfl, ⟨rfl, rfl, (An rfl)⟩⟩, ⟨_, rfl, ⟨rfl, rfl, (An rfl)⟩⟩, ⟨_, rfl, ⟨rfl, rfl, (An rfl)⟩⟩, Z⟩
    ·intro e hdn he hdp
     obtain ⟨h4, h3, -⟩ := (show e 4 = true ∧ e 3 = true ∧ True from hdp)
     obtain ⟨h2, -⟩ := (show e 2 = true ∧ True from hdn 3 h3)
     have h13 : e 13 = false := fls he fun q => by obtain ⟨-, r7, -, -⟩ := (show e 0 = true ∧ e 7 = true ∧ e 0 = true ∧ True from hdn 13 q); obtain ⟨r6, -, -⟩ := (show e 6 = true ∧ e 3 = true ∧ True from hdn 7 r7); obtain ⟨-, r5, -⟩ := (show e 3 = true ∧ e 5 = true ∧ True from hdn 6 r6); exact r5
     have h14 : e 14 = false := fls he fun q => by obtain ⟨-, r13, -, -, -, -⟩ := (show e 1 = true ∧ e 13 = true ∧ e 0 = true ∧ e 1 = true ∧ e 13 = true ∧ True from hdn 14 q); obtain ⟨-, r7, -, -⟩ := (show e 0 = true ∧ e 7 = true ∧ e 0 = true ∧ True from hdn 13 r13); obtain ⟨r6, -, -⟩ := (show e 6 = true ∧ e 3 = true ∧ True from hdn 7 r7); obtain ⟨-, r5, -⟩ := (show e 3 = true ∧ e 5 = true ∧ True from hdn 6 r6); exact r5
     simp only [setE, h2, h3, h4, he, h13, h14, cj_t, cj_f, cjn_t, cjn_f, cb_t, cb_f]
     refine Ug (Gy rfl rfl) (fun hg => Ql (Vg (V rfl) hg) K) <| Nt <| We ?_ ?_
     ·exact ⟨V rfl, V rfl, V rfl, V rfl, V rfl, V rfl, V rfl, V rfl, V rfl, V rfl, V rfl, V rfl, V rfl, V rfl, V rfl, V rfl, V rfl, V rfl, V rfl, V rfl, Z⟩
     ·exact ⟨⟨_, rfl, ⟨rfl, rfl, (An rfl)⟩⟩, ⟨_, rfl, ⟨rfl, rfl, (An rfl)⟩⟩, ⟨_, rfl, ⟨rfl, rfl, (An rfl)⟩⟩, Z⟩
    ·intro e hdn he hdp
     obtain ⟨h3, h5, -⟩ := (show e 3 = true ∧ e 5 = true ∧ True from hdp)
     obtain ⟨h4, -, -⟩ := (show e 4 = true ∧ e 3 = true ∧ True from hdn 5 h5)
     obtain ⟨h2, -⟩ := (show e 2 = true ∧ True from hdn 3 h3)
     have h13 : e 13 = false := fls he fun q => by obtain ⟨-, r7, -, -⟩ := (show e 0 = true ∧ e 7 = true ∧ e 0 = true ∧ True from hdn 13 q); obtain ⟨r6, -, -⟩ := (show e 6 = true ∧ e 3 = true ∧ True from hdn 7 r7); exact r6
     have h14 : e 14 = false := fls he fun q => by obtain ⟨-, r13, -, -, -, -⟩ := (show e 1 = true ∧ e 13 = true ∧ e 0 = true ∧ e 1 = true ∧ e 13 = true ∧ True from hdn 14 q); obtain ⟨-, r7, -, -⟩ := (show e 0 = true ∧ e 7 = true ∧ e 0 = true ∧ True from hdn 13 r13); obtain ⟨r6, -, -⟩ := (show e 6 = true ∧ e 3 = true ∧ True from hdn 7 r7); exact r6
     simp only [setE, h2, h3, h4, h5, he, h13, h14, cj_t, cj_f, cjn_t, cjn_f, cb_t, cb_f]
     refine U (Qa (V rfl) (fun h => Vg (V rfl) h)) <| Nt <| We ?_ ?_
     ·exact ⟨V rfl, V rfl, V rfl, V rfl, V rfl, V rfl, V rfl, V rfl, V rfl, V rfl, V rfl, V rfl, V rfl, V rfl, V rfl, V rfl, V rfl, V rfl, V rfl, V rfl, Z⟩
     ·exact ⟨⟨_, rfl, ⟨rfl, rfl, (An rfl)⟩⟩, ⟨_, rfl, ⟨rfl, rfl, (An rfl)⟩⟩, ⟨_, rfl, ⟨rfl, rfl, (An rfl)⟩⟩, Z⟩
    ·intro e hdn he hdp
     obtain ⟨h6, h3, -⟩ := (show e 6 = true ∧ e 3 = true ∧ True from hdp)
     obtain ⟨-, h5, -⟩ := (show e 3 = true ∧ e 5 = true ∧ True from hdn 6 h6)
     obtain ⟨h4, -, -⟩ := (show e 4 = true ∧ e 3 = true ∧ True from hdn 5 h5)
     obtain ⟨h2, -⟩ := (show e 2 = true ∧ True from hdn 3 h3)
     have h13 : e 13 = false := fls he fun q => by obtain ⟨-, r7, -, -⟩ := (show e 0 = true ∧ e 7 = true ∧ e 0 = true ∧ True from hdn 13 q); exact r7
     have h14 : e 14 = false := fls he fun q => by obtain ⟨-, r13, -, -, -, -⟩ := (show e 1 = true ∧ e 13 = true ∧ e 0 = true ∧ e 1 = true ∧ e 13 = true ∧ True from hdn 14 q); obtain ⟨-, r7, -, -⟩ := (show e 0 = true ∧ e 7 = true ∧ e 0 = true ∧ True from hdn 13 r13); exact r7
     simp only [setE, h2, h3, h4, h5, h6, he, h13, h14, cj_t, cj_f, cjn_t, cjn_f, cb_t, cb_f]
     refine U (Mv (V rfl)) <| Nt <| We ?_ ?_
     ·exact ⟨V rfl, V rfl, V rfl, V rfl, V rfl, V rfl, V rfl, V rfl, V rfl, V rfl, V rfl, V rfl, V rfl, V rfl, V rfl, V rfl, V rfl, V rfl, V rfl, V rfl, Z⟩
     ·exact ⟨⟨_, rfl, ⟨rfl, rfl, (An rfl)⟩⟩, ⟨_, rfl, ⟨rfl, rfl, (An rfl)⟩⟩, ⟨_, rfl, ⟨rfl, rfl, (An rfl)⟩⟩, Z⟩
    ·intro e hdn he hdp
     obtain ⟨h7, -⟩ := (show e 7 = true ∧ True from hdp)
     obtain ⟨h6, h3, -⟩ := (show e 6 = true ∧ e 3 = true ∧ True from hdn 7 h7)
     obtain ⟨-, h5, -⟩ := (show e 3 = true ∧ e 5 = true ∧ True from hdn 6 h6)
     obtain ⟨h4, -, -⟩ := (show e 4 = true ∧ e 3 = true ∧ True from hdn 5 h5)
     obtain ⟨h2, -⟩ := (show e 2 = true ∧ True from hdn 3 h3)
     simp only [setE, h2, h3, h4, h5, h6, h7, he, cj_t, cj_f, cjn_t, cjn_f, cb_t, cb_f]
     exact Ug (Gy rfl rfl) (fun hg => FlB _ _ (V rfl) Un24 rfl 0 Sz22) <| Nt <| weakS ⟨V rfl, V rfl, V rfl, V rfl, V rfl, V rfl, V rfl, V rfl, V rfl, V rfl, V rfl, V rfl, V rfl, V rfl, V rfl, V rfl, V rfl, V rfl, V rfl, V rfl, Z⟩
    ·intro e hdn he hdp
     obtain ⟨h8, h7, -⟩ := (show e 8 = true ∧ e 7 = true ∧ True from hdp)
     obtain ⟨h6, h3, -⟩ := (show e 6 = true ∧ e 3 = true ∧ True from hdn 7 h7)
     obtain ⟨-, h5, -⟩ := (show e 3 = true ∧ e 5 = true ∧ True from hdn 6 h6)
     obtain ⟨h4, -, -⟩ := (show e 4 = true ∧ e 3 = true ∧ True from hdn 5 h5)
     obtain ⟨h2, -⟩ := (show e 2 = true ∧ True from hdn 3 h3)
     cases hu13 : e 13
     ·have h14 : e 14 = false := fls hu13 fun q => by obtain ⟨-, r13, -, -, -, -⟩ := (show e 1 = true ∧ e 13 = true ∧ e 0 = true ∧ e 1 = true ∧ e 13 = true ∧ True from hdn 14 q); exact r13
      simp only [setE, h2, h3, h4, h5, h6, h7, h8, he, hu13, h14, cj_t, cj_f, cjn_t, cjn_f, cb_t, cb_f]
      refine Ug (Gy rfl rfl) (fun hg => LdB (Vg (V rfl) hg) rfl Ga22 (by decide)) <| Nt <| We ?_ ?_
      ·exact ⟨V rfl, V rfl, V rfl, V rfl, V rfl, V rfl, V rfl, V rfl, V rfl, V rfl, V rfl, V rfl, V rfl, V rfl, V rfl, V rfl, V rfl, V rfl, V rfl, V rfl, Z⟩
      ·exact ⟨⟨_, rfl, ⟨rfl, rfl, (An rfl)⟩⟩, ⟨_, rfl, ⟨rfl, rfl, (An rfl)⟩⟩, ⟨_, rfl, ⟨rfl, rfl, (An rfl)⟩⟩, Z⟩
     ·cases hu14 : e 14
      ·simp only [setE, h2, h3, h4, h5, h6, h7, h8, he, hu13, hu14, cj_t, cj_f, cjn_t, cjn_f, cb_t, cb_f]
       refine Ug (Gy rfl rfl) (fun hg => LdB (Vg (V rfl) hg) rfl Ga22 (by decide)) <| Nt <| We ?_ ?_
       ·exact ⟨V rfl, V rfl, V rfl, V rfl, V rfl, V rfl, V rfl, V rfl, V rfl, V rfl, V rfl, V rfl, V rfl, V rfl, V rfl, V rfl, V rfl, V rfl, V rfl, V rfl, Z⟩
       ·exact ⟨⟨_, rfl, ⟨rfl, rfl, (An rfl)⟩⟩, ⟨_, rfl, ⟨rfl, rfl, (An rfl)⟩⟩, ⟨_, rfl, ⟨rfl, rfl, (An rfl)⟩⟩, Z⟩
      ·simp only [setE, h2, h3, h4, h5, h6, h7, h8, he, hu13, hu14, cj_t, cj_f, cjn_t, cjn_f, cb_t, cb_f]
       refine Ug (Gy rfl rfl) (fun hg => LdB (Vg (V rfl) hg) rfl Ga22 (by decide)) <| Nt <| We ?_ ?_
       ·exact ⟨V rfl, V rfl, V rfl, V rfl, V rfl, V rfl, V rfl, V rfl, V rfl, V rfl, V rfl, V rfl, V rfl, V rfl, V rfl, V rfl, V rfl, V rfl, V rfl, V rfl, Z⟩
       ·exact ⟨⟨_, rfl, ⟨rfl, rfl, (An rfl)⟩⟩, ⟨_, rfl, ⟨rfl, rfl, (An rfl)⟩⟩, ⟨_, rfl, ⟨rfl, rfl, (An rfl)⟩⟩, Z⟩
    ·intro e hdn he hdp
     obtain ⟨h9, h7, -⟩ := (show e 9 = true ∧ e 7 = true ∧ True from hdp)
     obtain ⟨h8, -, -⟩ := (show e 8 = true ∧ e 7 = true ∧ True from hdn 9 h9)
     obtain ⟨h6, h3, -⟩ := (show e 6 = true ∧ e 3 = true ∧ True from hdn 7 h7)
     obtain ⟨-, h5, -⟩ := (show e 3 = true ∧ e 5 = true ∧ True from hdn 6 h6)
     obtain ⟨h4, -, -⟩ := (show e 4 = true ∧ e 3 = true ∧ True from hdn 5 h5)
     obtain ⟨h2, -⟩ := (show e 2 = true ∧ True from hdn 3 h3)
     simp only [setE, h2, h3, h4, h5, h6, h7, h8, h9, he, cj_t, cj_f, cjn_t, cjn_f, cb_t, cb_f]
     exact Ug (Gy rfl rfl) (fun hg => Ln (Vg (V rfl) hg) ts22) <| Nt <| weakS ⟨V rfl, V rfl, V rfl, V rfl, V rfl, V rfl, V rfl, V rfl, V rfl, V rfl, V rfl, V rfl, V rfl, V rfl, V rfl, V rfl, V rfl, V rfl, V rfl, V rfl, Z⟩
    ·intro e hdn he hdp
     obtain ⟨h10, h7, -⟩ := (show e 10 = true ∧ e 7 = true ∧ True from hdp)
     obtain ⟨h9, -, -⟩ := (show e 9 = true ∧ e 7 = true ∧ True from hdn 10 h10)
     obtain ⟨h8, -, -⟩ := (show e 8 = true ∧ e 7 = true ∧ True from hdn 9 h9)
     obtain ⟨h6, h3, -⟩ := (show e 6 = true ∧ e 3 = true ∧ True from hdn 7 h7)
     obtain ⟨-, h5, -⟩ := (show e 3 = true ∧ e 5 = true ∧ True from hdn 6 h6)
     obtain ⟨h4, -, -⟩ := (show e 4 = true ∧ e 3 = true ∧ True from hdn 5 h5)
     obtain ⟨h2, -⟩ := (show e 2 = true ∧ True from hdn 3 h3)
     simp only [setE, h2, h3, h4, h5, h6, h7, h8, h9, h10, he, cj_t, cj_f, cjn_t, cjn_f, cb_t, cb_f]
     exact Ug (Gy rfl rfl) (fun hg => Ql (Vg (V rfl) hg) K) <| Nt <| weakS ⟨V rfl, V rfl, V rfl, V rfl, V rfl, V rfl, V rfl, V rfl, V rfl, V rfl, V rfl, V rfl, V rfl, V rfl, V rfl, V rfl, V rfl, V rfl, V rfl, V rfl, Z⟩
    ·intro e hdn he hdp
     obtain ⟨h7, h11, -⟩ := (show e 7 = true ∧ e 11 = true ∧ True from hdp)
     obtain ⟨h10, -, -⟩ := (show e 10 = true ∧ e 7 = true ∧ True from hdn 11 h11)
     obtain ⟨h9, -, -⟩ := (show e 9 = true ∧ e 7 = true ∧ True from hdn 10 h10)
     obtain ⟨h8, -, -⟩ := (show e 8 = true ∧ e 7 = true ∧ True from hdn 9 h9)
     obtain ⟨h6, h3, -⟩ := (show e 6 = true ∧ e 3 = true ∧ True from hdn 7 h7)
     obtain ⟨-, h5, -⟩ := (show e 3 = true ∧ e 5 = true ∧ True from hdn 6 h6)
     obtain ⟨h4, -, -⟩ := (show e 4 = true ∧ e 3 = true ∧ True from hdn 5 h5)
     obtain ⟨h2, -⟩ := (show e 2 = true ∧ True from hdn 3 h3)
     simp only [setE, h2, h3, h4, h5, h6, h7, h8, h9, h10, h11, he, cj_t, cj_f, cjn_t, cjn_f, cb_t, cb_f]
     exact U (Qa (V rfl) (fun h => Vg (V rfl) h)) <| Nt <| weakS ⟨V rfl, V rfl, V rfl, V rfl, V rfl, V rfl, V rfl, V rfl, V rfl, V rfl, V rfl, V rfl, V rfl, V rfl, V rfl, V rfl, V rfl, V rfl, V rfl, V rfl, Z⟩
    ·intro e hdn he hdp
     obtain ⟨h0, h7, -, -⟩ := (show e 0 = true ∧ e 7 = true ∧ e 0 = true ∧ True from hdp)
     obtain ⟨h6, h3, -⟩ := (show e 6 = true ∧ e 3 = true ∧ True from hdn 7 h7)
     obtain ⟨-, h5, -⟩ := (show e 3 = true ∧ e 5 = true ∧ True from hdn 6 h6)
     obtain ⟨h4, -, -⟩ := (show e 4 = true ∧ e 3 = true ∧ True from hdn 5 h5)
     obtain ⟨h2, -⟩ := (show e 2 = true ∧ True from hdn 3 h3)
     have h14 : e 14 = false := fls he fun q => by obtain ⟨-, r13, -, -, -, -⟩ := (show e 1 = true ∧ e 13 = true ∧ e 0 = true ∧ e 1 = true ∧ e 13 = true ∧ True from hdn 14 q); exact r13
     simp only [setE, h0, h2, h3, h4, h5, h6, h7, he, h14, cj_t, cj_f, cjn_t, cjn_f, cb_t, cb_f]
     refine StA (V rfl) rfl (V rfl) Sz24 <| Nt <| We ?_ ?_
     ·exact ⟨V rfl, V rfl, V rfl, V rfl, V rfl, V rfl, V rfl, V rfl, V rfl, V rfl, V rfl, V rfl, V rfl, V rfl, V rfl, V rfl, V rfl, V rfl, V rfl, V rfl, Z⟩
     ·exact ⟨⟨_, rfl, ⟨rfl, rfl, (An rfl)⟩⟩, ⟨_, rfl, ⟨rfl, rfl, (An rfl)⟩⟩, ⟨_, rfl, ⟨rfl, rfl, (An rfl)⟩⟩, Z⟩
    ·intro e hdn he hdp
     obtain ⟨h1, h13, h0, -, -, -⟩ := (show e 1 = true ∧ e 13 = true ∧ e 0 = true ∧ e 1 = true ∧ e 13 = true ∧ True from hdp)
     obtain ⟨-, h7, -, -⟩ := (show e 0 = true ∧ e 7 = true ∧ e 0 = true ∧ True from hdn 13 h13)
     obtain ⟨h6, h3, -⟩ := (show e 6 = true ∧ e 3 = true ∧ True from hdn 7 h7)
     obtain ⟨-, h5, -⟩ := (show e 3 = true ∧ e 5 = true ∧ True from hdn 6 h6)
     obtain ⟨h4, -, -⟩ := (show e 4 = true ∧ e 3 = true ∧ True from hdn 5 h5)
     obtain ⟨h2, -⟩ := (show e 2 = true ∧ True from hdn 3 h3)
     simp only [setE, h0, h1, h2, h3, h4, h5, h6, h7, h13, he, cj_t, cj_f, cjn_t, cjn_f, cb_t, cb_f]
     refine StA (V rfl) rfl (V rfl) Sz113 <| Nt <| We ?_ ?_
     ·exact ⟨V rfl, V rfl, V rfl, V rfl, V rfl, V rfl, V rfl, V rfl, V rfl, V rfl, V rfl, V rfl, V rfl, V rfl, V rfl, V rfl, V rfl, V rfl, V rfl, V rfl, Z⟩
     ·exact ⟨⟨_, rfl, ⟨rfl, rfl, (An rfl)⟩⟩, ⟨_, rfl, ⟨rfl, rfl, (An rfl)⟩⟩, ⟨_, rfl, ⟨rfl, rfl, (An rfl)⟩⟩, Z⟩
    ·intro e hdn he hdp
     obtain ⟨h12, h14, h0, h1, h2, h3, h4, h5, h6, h7, h8, h9, h10, h11, -, h13, -, -⟩ := (show e 12 = true ∧ e 14 = true ∧ e 0 = true ∧ e 1 = true ∧ e 2 = true ∧ e 3 = true ∧ e 4 = true ∧ e 5 = true ∧ e 6 = true ∧ e 7 = true ∧ e 8 = true ∧ e 9 = true ∧ e 10 = true ∧ e 11 = true ∧ e 12 = true ∧ e 13 = true ∧ e 14 = true ∧ True from hdp)
     simp only [setE, h0, h1, h2, h3, h4, h5, h6, h7, h8, h9, h10, h11, h12, h13, h14, he, cj_t, cj_f, cjn_t, cjn_f, cb_t, cb_f]
     refine U (As (V rfl)) <| Nt <| We ?_ ?_
     ·exact ⟨V rfl, V rfl, V rfl, V rfl, V rfl, V rfl, V rfl, V rfl, V rfl, V rfl, V rfl, V rfl, V rfl, V rfl, V rfl, V rfl, V rfl, V rfl, V rfl, V rfl, Z⟩
     ·exact ⟨⟨_, rfl, ⟨rfl, rfl, (An rfl)⟩⟩, ⟨_, rfl, ⟨rfl, rfl, (An rfl)⟩⟩, ⟨_, rfl, ⟨rfl, rfl, (An rfl)⟩⟩, Z⟩
    ·intro e he
     have h0 := he 0 (by decide)
     have h1 := he 1 (by decide)
     have h2 := he 2 (by decide)
     have h3 := he 3 (by decide)
     have h4 := he 4 (by decide)
     have h5 := he 5 (by decide)
     have h6 := he 6 (by decide)
     have h7 := he 7 (by decide)
     have h8 := he 8 (by decide)
     have h9 := he 9 (by decide)
     have h10 := he 10 (by decide)
     have h11 := he 11 (by decide)
     have h12 := he 12 (by decide)
     have h13 := he 13 (by decide)
     have h14 := he 14 (by decide)
     have h15 := he 15 (by decide)
     show Weak _ ⟨[(56, cj (e 0) (SV.agg 1 (fun zi => (stG fam5) (0 + zi)))), (57, cj (e 1) (SV.agg 6 (fun zi => (fun zt => ([iv (0), iv (1), iv (1), iv (1), iv (2), iv (1)] : List SV).getD zt .junk) (0 + zi)))), (58, cj (e 2) (bv (true && (decide ((0 : Int) = 0))))), (59, cj (e 3) (bv (true && (decide ((0 : Int) = 0))))), (60, cj (e 4) (SV.grd ((true && (decide ((0 : Int) = 0)))) (iv (0)))), (61, cj (e 5) (SV.grd ((true && (decide ((0 : Int) = 0)))) (bv (decide ((0 : Int) = 0))))), (62, cj (e 6) (bv ((true && (decide ((0 : Int) = 0))) && (decide ((0 : Int) = 0))))), (63, cj (e 7) (bv ((true && (decide ((0 : Int) = 0))) && (decide ((0 : Int) = 0))))), (64, cj (e 8) (SV.grd (((true && (decide ((0 : Int) = 0))) && (decide ((0 : Int) = 0)))) (SV.bp 3 0))), (65, cj (e 9) (SV.grd (((true && (decide ((0 : Int) = 0))) && (decide ((0 : Int) = 0)))) (ndRow fam5))), (66, cj (e 10) (SV.grd (((true && (decide ((0 : Int) = 0))) && (decide ((0 : Int) = 0)))) (iv ((fam5.length : Int))))), (67, cj (e 11) (SV.grd (((true && (decide ((0 : Int) = 0))) && (decide ((0 : Int) = 0)))) (bv (decide ((fam5.length : Int) = 6))))), (68, cj (e 12) (bv (((true && (decide ((0 : Int) = 0))) && (decide ((0 : Int) = 0))) && (decide ((fam5.length : Int) = 6))))), (2, cj (e 15) (bv (((true && (decide ((0 : Int) = 0))) && (decide ((0 : Int) = 0))) && (decide ((fam5.length : Int) = 6))))), (0, SV.bp 1 0), (1, SV.bp 2 0), (3, SV.bp 3 0), (4, iv (0)), (5, bv (true && (decide ((0 : Int) = 0)))), (6, elB [iv (0), iv (1), iv (1), iv (1), iv (2), iv (1)] 0)], (cb (e 13) (cb (e 14) [(1, Own.box 1 (fun zi => (stG fam5) (0 + zi)) 24), (2, Own.box 6 (fun zi => (fun zt => ([iv (0), iv (1), iv (1), iv (1), iv (2), iv (1)] : List SV).getD zt .junk) (0 + zi)) 113), (3, Own.box 1 (stG fam5) 24)] [(1, Own.box 1 (fun zi => (stG fam5) (0 + zi)) 24), (2, Own.box 6 (cmpG [iv (0), iv (0), iv (0), iv (0), iv (0), iv (0)]) 113), (3, Own.box 1 (stG fam5) 24)]) (cb (e 14) [] [(1, Own.box 1 (cmpG [SV.v (Value.slice none 0 0)]) 24), (2, Own.box 6 (cmpG [iv (0), iv (0), iv (0), iv (0), iv (0), iv (0)]) 113), (3, Own.box 1 (stG fam5) 24)]))⟩ _
     simp only [h0, h1, h2, h3, h4, h5, h6, h7, h8, h9, h10, h11, h12, h13, h14, h15]
     show Weak _ ⟨[(56, SV.agg 1 (fun zi => (stG fam5) (0 + zi))), (57, SV.agg 6 (fun zi => (fun zt => ([iv (0), iv (1), iv (1), iv (1), iv (2), iv (1)] : List SV).getD zt .junk) (0 + zi))), (58, bv (true && (decide ((0 : Int) = 0)))), (59, bv (true && (decide ((0 : Int) = 0)))), (60, SV.grd ((true && (decide ((0 : Int) = 0)))) (iv (0))), (61, SV.grd ((true && (decide ((0 : Int) = 0)))) (bv (decide ((0 : Int) = 0)))), (62, bv ((true && (decide ((0 : Int) = 0))) && (decide ((0 : Int) = 0)))), (63, bv ((true && (decide ((0 : Int) = 0))) && (decide ((0 : Int) = 0)))), (64, SV.grd (((true && (decide ((0 : Int) = 0))) && (decide ((0 : Int) = 0)))) (SV.bp 3 0)), (65, SV.grd (((true && (decide ((0 : Int) = 0))) && (decide ((0 : Int) = 0)))) (ndRow fam5)), (66, SV.grd (((true && (decide ((0 : Int) = 0))) && (decide ((0 : Int) = 0)))) (iv ((fam5.length : Int)))), (67, SV.grd (((true && (decide ((0 : Int) = 0))) && (decide ((0 : Int) = 0)))) (bv (decide ((fam5.length : Int) = 6)))), (68, bv (((true && (decide ((0 : Int) = 0))) && (decide ((0 : Int) = 0))) && (decide ((fam5.length : Int) = 6)))), (2, bv (((true && (decide ((0 : Int) = 0))) && (decide ((0 : Int) = 0))) && (decide ((fam5.length : Int) = 6)))), (0, SV.bp 1 0), (1, SV.bp 2 0), (3, SV.bp 3 0), (4, iv (0)), (5, bv (true && (decide ((0 : Int) = 0)))), (6, elB [iv (0), iv (1), iv (1), iv (1), iv (2), iv (1)] 0)], [(1, Own.box 1 (fun zi => (stG fam5) (0 + zi)) 24), (2, Own.box 6 (fun zi => (fun zt => ([iv (0), iv (1), iv (1), iv (1), iv (2), iv (1)] : List SV).getD zt .junk) (0 + zi)) 113), (3, Own.box 1 (stG fam5) 24)]⟩ _
     refine We ?_ ?_
     ·exact ⟨Va (V rfl) (An rfl), Va (V rfl) (An rfl), V rfl, V rfl, V rfl, V rfl, V rfl, V rfl, V rfl, V rfl, V rfl, V rfl, V rfl, V rfl, V rfl, V rfl, V rfl, V rfl, V rfl, V rfl, Z⟩
     ·exact ⟨⟨_, rfl, ⟨rfl, rfl, (An rfl)⟩⟩, ⟨_, rfl, ⟨rfl, rfl, (An rfl)⟩⟩, ⟨_, rfl, ⟨rfl, rfl, (An rfl)⟩⟩, Z⟩
    exact Rx <| RR3 rfl (rv_aggI (g' := stG fam5) (rv_cell (V rfl) rfl Ga24 Sz24) ⟨Z, Ir⟩) (rv_aggI (g' := cmpG [iv (0), iv (1), iv (1), iv (1), iv (2), iv (1)]) (rv_cell (V rfl) rfl Ga113 Sz113) ⟨⟨⟨⟨⟨⟨Z, Ir⟩, Ir⟩, Ir⟩, Ir⟩, Ir⟩, Ir⟩) (rv_tmp (V rfl)) rfl rfl rfl (by show sv3 (SV.agg 1 (stG fam5)) (SV.agg 6 (cmpG [iv (0), iv (1), iv (1), iv (1), iv (2), iv (1)])) (bv (((true && (decide ((0 : Int) = 0))) && (decide ((0 : Int) = 0))) && (decide ((fam5.length : Int) = 6)))) = sv3 (SV.agg 1 (stG fam5)) (SV.agg 6 (cmpG [iv (0), iv (1), iv (1), iv (1), iv (2), iv (1)])) (bv (true)); rfl)
end Go.Proofs.Ytmcdamcedemdiaa
namespace Go.Proofs.Ytmcdamcedemdiaa
open Go.RowKit Go.Eng
theorem ordS_nodup {l : List Nd} (h : checkSt l = 0) {k : Int} (hk : 0 ≤ k ∧ k < (l.length : Int)) : (ordSt l k).Nodup := ord_nodup h _ k hk
section
variable {l : List Nd} {h : Hd}
end
end Go.Proofs.Ytmcdamcedemdiaa
namespace Go.Proofs.Ytmcdamcedemdiaa
open Go.RowKit Go.Eng
theorem grown_ct  : Ct Try.prog 57 [] (bv true) := by
 refine CtO 43 Try.func57 rfl rfl rfl fun E => Sq <| Rq <| O (As K) <| Nq <| Sq <| Rt <| CT en103 (by exact Z) (family_ct) <| U (Mv (V rfl)) <| U (Xt (V rfl) (by decide)) <| U (Xt (V rfl) (by decide)) <| U (Xt (V rfl) (by decide)) <| Al 1 zero24 rfl rfl <| Al 2 zero113 rfl rfl <| StA (V rfl) rfl (V rfl) Sz24 <| StA (V rfl) rfl (V rfl) Sz113 <| U (As (V rfl)) <| Nt <| Sq <| Rt <| U (LBA (V rfl) rfl Ga24 Sz24 (by decide)) <| U (q_ixB (i := 0) (V rfl) K ta113 te113 (by rw [al113]; decide)) <| U (LBA (V rfl) rfl Ga26 Sz26 (by decide)) <| CM (cargs := [SV.agg 1 (stG fam5), SV.agg 2 (hdCell ⟨0, 1⟩)]) [] [(0, 3)] en58 (mv0 (by exact ⟨⟨(Vi (g' := stG fam5) (V rfl) ⟨Z, Ir⟩), rfl⟩, ⟨(Vi (g' := hdCell ⟨0, 1⟩) (V rfl) ⟨⟨Z, Ir⟩, Ir⟩), rfl⟩, Z⟩)) (order_ct fam5 ⟨0, 1⟩ (by first | assumption | exact kb_nil | exact kb_of (by assumption) | exact kb_of fam_c5)) (by exact Z) rfl rfl rfl rfl <| U (Mv (V rfl)) <| U (Xt (V rfl) (by decide)) <| U (Xt (V rfl) (by decide)) <| U (As (V rfl)) <| U (As (V rfl)) <| Nt <| Sq <| Rt <| U (LBA (V rfl) rfl Ga24 Sz24 (by decide)) <| U (q_ixB (i := 1) (V rfl) K ta113 te113 (by rw [al113]; decide)) <| U (LBA (V rfl) rfl Ga26 Sz26 (by decide)) <| U (q_ixB (i := 0) (V rfl) K ta113 te113 (by rw [al113]; decide)) <| U (LBA (V rfl) rfl Ga26 Sz26 (by decide)) <| CT en56 (by exact ⟨⟨(Vi (g' := stG fam5) (V rfl) ⟨Z, Ir⟩), rfl⟩, ⟨(Vi (g' := hdCell ⟨1, 1⟩) (V rfl) ⟨⟨Z, Ir⟩, Ir⟩), rfl⟩, ⟨(Vi (g' := hdCell ⟨0, 1⟩) (V rfl) ⟨⟨Z, Ir⟩, Ir⟩), rfl⟩, ⟨Vn, rfl⟩, Z⟩) (insert_ct fam5 ⟨1, 1⟩ ⟨0, 1⟩ ([]) (by first | assumption | exact kb_nil | exact kb_of (by assumption) | exact kb_of fam_c5)) <| U (Mv (V rfl)) <| U (Xt (V rfl) (by decide)) <| ?_
 exact U (Xt (V rfl) (by decide)) <| Al 4 zero24 rfl rfl <| StA (V rfl) rfl (V rfl) Sz24 <| U (As (V rfl)) <| Nt <| Sq <| Rt <| U (Mv (V rfl)) <| U (Mv (V rfl)) <| Ug (Gy rfl rfl) (fun hg => Mv (V rfl)) <| Ug (Gy rfl rfl) (fun hg => Ql (Vg (V rfl) hg) K) <| U (Qa (V rfl) (fun h => Vg (V rfl) h)) <| U (Mv (V rfl)) <| Ug (Gy rfl rfl) (fun hg => Mv (V rfl)) <| Ug (Gy rfl rfl) (fun hg => Ql (Vg (V rfl) hg) K) <| U (Qa (V rfl) (fun h => Vg (V rfl) h)) <| U (Mv (V rfl)) <| Ug (Gy rfl rfl) (fun hg => Mv (V rfl)) <| UwG (Gy rfl rfl) (fun hg => w_bs (n := 3) (zget := fun _ => iv 0) [(fun _ => iv (0)), (fun _ => iv (2)), (fun _ => iv (1))] (rowG inCell 0 [0, 2, 1]) Un33 Sz3 zero3 (by decide) rfl (by decide) ⟨⟨rfl, .inr ⟨rfl, K, rfl⟩, rfl⟩, ⟨rfl, .inr ⟨rfl, K, rfl⟩, rfl⟩, ⟨rfl, .inr ⟨rfl, K, rfl⟩, rfl⟩, Z⟩ ⟨⟨⟨Z, ⟨Z, rfl⟩⟩, ⟨Z, rfl⟩⟩, ⟨Z, rfl⟩⟩) <| t_callBG (Gy rfl rfl) en26 (fun hg => by exact ⟨(vb_own (Vg (V rfl) hg) rfl), (vb_ro (Vg (V rfl) hg) rfl), Z⟩) (fun hg => equal_ct ((orderSt fam5 ⟨0, 1⟩).1) ([0, 2, 1])) <| U (Qa (V rfl) (fun h => Vg (V rfl) h)) <| U (As (V rfl)) <| Nt <| Rx <| R1 rfl (V rfl) rfl (by show bv (((true && (decide ((orderSt fam5 ⟨0, 1⟩).2 = 0))) && (decide ((insSt fam5 ⟨1, 1⟩ ⟨0, 1⟩ ([])).2 = 6))) && (eqInt ((orderSt fam5 ⟨0, 1⟩).1) ([0, 2, 1]))) = bv true; exact congrArg bv (by decide +kernel))
end Go.Proofs.Ytmcdamcedemdiaa
namespace Go.Proofs.Ytmcdamcedemdiaa
open Go.RowKit Go.Eng
structure InsDone (l : List Nd) (p c : Hd) (ah : List Hd) (a : List Nd) : Prop where
  k : InsOk l p c ah
  one : ah.length ≤ 1
  q3 : insBad l p c = false
  q4 : ¬ (0 < ah.length ∧ (l.getD (hd0 ah).pl.toNat default).par ≠ p.pl)
  how : ((0 < ah.length ∧ (hd0 ah).pl = c.pl) ∧ a = l) ∨ (¬ (0 < ah.length ∧ (hd0 ah).pl = c.pl) ∧ a = putSt (outSt l c.pl) p.pl c.pl (insPos ((outSt l c.pl).getD p.pl.toNat default).kids ah))
section
variable {l a : List Nd} {p c : Hd} {ah : List Hd}
theorem insDone_of (e : (insSt l p c ah).2 = 0) : InsDone l p c ah (insSt l p c ah).1 := by
  by_cases q : 1 < ah.length
  · rw [ins_1 q] at e; cases e
  by_cases q2 : firstSt l ([p, c] ++ ah) = 0
  · cases q3 : insBad l p c with
    | true => rw [ins_3 q q2 q3] at e; cases e
    | false =>
      by_cases q4 : 0 < ah.length ∧ (l.getD (hd0 ah).pl.toNat default).par ≠ p.pl
      · rw [ins_4 q q2 q3 q4] at e; cases e
      · by_cases q5 : 0 < ah.length ∧ (hd0 ah).pl = c.pl
        · exact ⟨insOk_of q2, Nat.le_of_not_lt q, q3, q4, .inl ⟨q5, by rw [ins_5 q q2 q3 q4 q5]⟩⟩
        · exact ⟨insOk_of q2, Nat.le_of_not_lt q, q3, q4, .inr ⟨q5, by rw [ins_6 q q2 q3 q4 q5]⟩⟩
  · rw [ins_2 q q2] at e; exact absurd e q2
structure Alike (l a : List Nd) : Prop where
  len : a.length = l.length
  used : ∀ q : Int, 0 ≤ q ∧ q < (l.length : Int) → (a.getD q.toNat default).used = (l.getD q.toNat default).used
  uses : ∀ q : Int, 0 ≤ q ∧ q < (l.length : Int) → (a.getD q.toNat default).uses = (l.getD q.toNat default).uses
theorem put_node (D : InsDone l p c ah a) {i : Nat} {q : Int} (hq : 0 ≤ q ∧ q < (l.length : Int)) : (putSt (outSt l c.pl) p.pl c.pl i).getD q.toNat default =
    { (l.getD q.toNat default) with kids := if q = p.pl then insAt ((l.getD q.toNat default).kids.filter fun x => !decide (x = c.pl)) i c.pl else (l.getD q.toNat default).kids.filter fun x => !decide (x = c.pl), par := if q = c.pl then p.pl else (l.getD q.toNat default).par } := by
  have hl := out_len l c.pl
  rw [put_at (by rw [hl]; exact D.k.pr) (by rw [hl]; exact D.k.cr) hq.1, out_at D.k.ok D.k.cr hq]
  dsimp only
  by_cases e : q = c.pl
  · rw [if_pos e, if_pos e]
  · rw [if_neg e, if_neg e, if_neg e]
theorem ins_alike (D : InsDone l p c ah a) : Alike l a := by
  rcases D.how with ⟨_, rfl⟩ | ⟨_, rfl⟩
  · exact ⟨rfl, fun _ _ => rfl, fun _ _ => rfl⟩
  · refine ⟨by rw [put_len, out_len], fun q hq => ?_, fun q hq => ?_⟩
    · rw [put_node D hq]
    · rw [put_node D hq]
theorem holds_alike (A : Alike l a) (h : Hd) (hq : 0 ≤ h.pl ∧ h.pl < (l.length : Int)) : holdsSt a h = holdsSt l h := by
  unfold holdsSt holdsWho holdsGone
  rw [A.len, A.used _ hq, A.uses _ hq]
theorem ins_right (D : InsDone l p c ah a) : checkSt a = 0 := by
  rcases D.how with ⟨_, rfl⟩ | ⟨_, rfl⟩
  · exact D.k.ok
  · exact put_ok D.k D.q3
theorem ins_hc (D : InsDone l p c ah a) : holdsSt a c = 0 := by rw [holds_alike (ins_alike D) c D.k.cr]; exact D.k.ch
theorem ins_par (D : InsDone l p c ah a) : (a.getD c.pl.toNat default).par = p.pl := by
  rcases D.how with ⟨⟨h0, e⟩, rfl⟩ | ⟨_, rfl⟩
  · rw [← e]; exact Classical.byContradiction fun q => D.q4 ⟨h0, q⟩
  · rw [put_node D D.k.cr]; exact if_pos rfl
theorem not_under (D : InsDone l p c ah a) (m : Nat) : pN l m p.pl ≠ c.pl := fun e => by
  have h0 : 0 ≤ pN l m p.pl := by rw [e]; exact D.k.cr.1
  have := pN_up D.k.ok D.k.pr h0
  exact under_f D.k.ok (by have := D.k.pr; omega) D.k.cr.1 (bad_f D.q3).2 m (this ▸ e)
theorem cut_self (h : checkSt l = 0) {x k : Int} (hx : 0 ≤ x ∧ x < (l.length : Int)) (hk : 0 ≤ k ∧ k < (l.length : Int)) {m : Nat} (e : pN l m x = k) : (l.getD x.toNat default).kids.filter (fun y => !decide (y = k)) = (l.getD x.toNat default).kids := by
  refine cut_none h hx fun q => ?_
  have e2 : pN l (1 + m) k = k := by
    rw [pN_add l 1 k m]
    show pN l m (p1 l k) = k
    rw [p1, if_neg (by omega), ← q]; exact e
  have := pN_inj h hk (a := 0) (b := 1 + m) hk.1 e2.symm
  omega
theorem ord_sub (D : InsDone l p c ah a) : ∀ (n m : Nat) (x : Int), 0 ≤ x ∧ x < (l.length : Int) → pN l m x = c.pl → ordN a n x = ordN l n x
  | 0, _, _, _, _ => rfl
  | n + 1, m, x, hx, e => by
    have ek : (a.getD x.toNat default).kids = (l.getD x.toNat default).kids := by
      rcases D.how with ⟨_, ea⟩ | ⟨_, ea⟩
      · rw [ea]
      · rw [ea, put_node D hx]
        dsimp only
        rw [if_neg (show ¬ x = p.pl from fun q => not_under D m (q ▸ e)), cut_self D.k.ok hx D.k.cr e]
    show x :: _ = x :: _
    rw [ek]
    refine congrArg (x :: ·) (flat_congr fun y hy => ?_)
    obtain ⟨hy1, _, hy2, _⟩ := kid_up D.k.ok hx hy
    refine ord_sub D n (1 + m) y hy1 ?_
    rw [pN_add l 1 y m]
    show pN l m (p1 l y) = c.pl
    rw [p1, if_neg (by omega), hy2]; exact e
theorem ord_child (D : InsDone l p c ah a) : ordSt a c.pl = ordSt l c.pl := by
  unfold ordSt
  rw [(ins_alike D).len]
  exact ord_sub D _ 0 _ D.k.cr rfl
theorem first_1 {l : List Nd} {h : Hd} (a : checkSt l = 0) (b : holdsSt l h = 0) : firstSt l [h] = 0 := by
  show stepH l (checkSt l) h = 0
  rw [a]; exact b
theorem ins_order (D : InsDone l p c ah a) : orderSt a c = orderSt l c ∧ (orderSt l c).2 = 0 := by
  rw [order_2 (first_1 (ins_right D) (ins_hc D)), order_2 (first_1 D.k.ok D.k.ch), ord_child D]
  exact ⟨rfl, rfl⟩
end
end Go.Proofs.Ytmcdamcedemdiaa
namespace Go.Proofs.Ytmcdamcedemdiaa
open Go.RowKit Go.Eng
def off (B L : List Int) : List Int := L.filter fun x => !decide (x ∈ B)
theorem off_in {B L : List Int} (h : ∀ x ∈ L, x ∈ B) : off B L = [] := by
  unfold off; rw [List.filter_eq_nil_iff]
  intro x hx
  simp [h x hx]
theorem off_flat {α : Type} {B : List Int} {f : α → List Int} : ∀ (ks : List α), off B (ks.flatMap f) = ks.flatMap fun y => off B (f y)
  | [] => rfl
  | x :: r => by
    have := off_flat (B := B) (f := f) r
    unfold off at this ⊢
    rw [List.flatMap_cons, List.filter_append, this, List.flatMap_cons]
theorem flat_cut {g : Int → List Int} {c : Int} (hc : g c = []) : ∀ ks : List Int, ks.flatMap g = (ks.filter fun x => !decide (x = c)).flatMap g
  | [] => rfl
  | x :: r => by
    rw [List.flatMap_cons, flat_cut hc r]
    by_cases e : x = c
    · rw [List.filter_cons_of_neg (by simp [e]), e, hc]; rfl
    · rw [List.filter_cons_of_pos (by simp [e]), List.flatMap_cons]
section
variable {l a : List Nd} {p c : Hd} {ah : List Hd}
theorem ins_cut (D : InsDone l p c ah a) {x : Int} (hx : 0 ≤ x ∧ x < (l.length : Int)) : (a.getD x.toNat default).kids.filter (fun y => !decide (y = c.pl)) = (l.getD x.toNat default).kids.filter fun y => !decide (y = c.pl) := by
  rcases D.how with ⟨_, ea⟩ | ⟨_, ea⟩
  · rw [ea]
  · rw [ea, put_node D hx]
    dsimp only
    split
    · rw [cut_ins (by rw [mem_cut]; exact fun w => w.2 rfl)]
    · rw [List.filter_filter]; simp
theorem ordN_sub (h : checkSt l = 0) {k : Int} (hk : 0 ≤ k ∧ k < (l.length : Int)) (n : Nat) : ∀ x ∈ ordN l n k, x ∈ ordSt l k := fun x hx => by
  have hi := ord_in h n k hk x hx
  obtain ⟨m, _, e⟩ := (ord_mem h n k x hk hi).1 hx
  exact (ordS_mem h hk hi).2 ⟨m, e⟩
theorem ord_off (D : InsDone l p c ah a) : ∀ (n : Nat) (x : Int), 0 ≤ x ∧ x < (l.length : Int) → (¬ ∃ m, pN l m x = c.pl) → off (ordSt l c.pl) (ordN l n x) = off (ordSt l c.pl) (ordN a n x)
  | 0, _, _, _ => rfl
  | n + 1, x, hx, hu => by
    have hc0 : off (ordSt l c.pl) (ordN l n c.pl) = [] := off_in (ordN_sub D.k.ok D.k.cr n)
    have hc1 : off (ordSt l c.pl) (ordN a n c.pl) = [] := by rw [ord_sub D n 0 _ D.k.cr rfl]; exact hc0
    have hxn : ¬ x ∈ ordSt l c.pl := fun q => hu ((ordS_mem D.k.ok D.k.cr hx).1 q)
    have e : ∀ L : List Int, off (ordSt l c.pl) (x :: L) = x :: off (ordSt l c.pl) L := fun L => by unfold off; rw [List.filter_cons_of_pos (by simpa using hxn)]
    show off _ (x :: _) = off _ (x :: _)
    rw [e, e, off_flat, off_flat, flat_cut (g := fun y => off (ordSt l c.pl) (ordN l n y)) hc0, flat_cut (g := fun y => off (ordSt l c.pl) (ordN a n y)) hc1, ins_cut D hx]
    refine congrArg (x :: ·) (flat_congr fun y hy => ?_)
    obtain ⟨hy, hne⟩ := mem_cut.1 hy
    obtain ⟨hy1, _, hy2, _⟩ := kid_up D.k.ok hx hy
    refine ord_off D n y hy1 fun ⟨m, em⟩ => ?_
    cases m with
    | zero => exact hne em
    | succ m =>
      rw [Nat.add_comm, pN_add l 1 y m] at em
      have em : pN l m (p1 l y) = c.pl := em
      rw [p1, if_neg (by omega), hy2] at em
      exact hu ⟨m, em⟩
theorem ord_seg (h : checkSt a = 0) {k : Int} (hk : 0 ≤ k ∧ k < (a.length : Int)) : ∀ (d : Nat) (x : Int), 0 ≤ x ∧ x < (a.length : Int) → pN a d x = k → ∃ A B, ordSt a k = A ++ ordSt a x ++ B
  | 0, x, _, e => ⟨[], [], by have e : x = k := e; rw [e]; simp⟩
  | d + 1, x, hx, e => by
    -- the way from x: its parent stands under k
    rw [Nat.add_comm, pN_add a 1 x d] at e
    have e : pN a d (p1 a x) = k := e
    have h1 : 0 ≤ p1 a x := by
      have key : ∀ m y, 0 ≤ pN a m y → 0 ≤ y := fun m => by
        induction m with
        | zero => exact fun y q => q
        | succ m ih => exact fun y q => ih y (pN_neg q)
      exact key d _ (by omega)
    rw [p1, if_neg (by omega)] at e h1
    obtain ⟨hp1, hp2⟩ := par_kid h hx h1
    obtain ⟨A, B, eq⟩ := ord_seg h hk d _ ⟨h1, hp1⟩ e
    obtain ⟨k1, k2, ek⟩ := List.append_of_mem hp2
    rw [ord_eq h ⟨h1, hp1⟩, ek, List.flatMap_append, List.flatMap_cons] at eq
    exact ⟨A ++ (a.getD x.toNat default).par :: k1.flatMap (ordSt a), k2.flatMap (ordSt a) ++ B, by rw [eq]; simp⟩
theorem seg_idx {A S B : List Int} {c : Int} {r : List Int} (hS : S = c :: r) (hn : (A ++ S ++ B).Nodup) : idxI (A ++ S ++ B) c = (A.length : Int) ∧ ((A ++ S ++ B).take (A.length + S.length)).drop A.length = S := by
  subst hS
  constructor
  · refine idxF_hit 0 (by simp) (fun j hj => ?_) (decide_eq_true ?_)
    · rw [decide_eq_false_iff_not]
      intro q
      have e2 : (A ++ (c :: r) ++ B).getD j 0 = A.getD j 0 := by
        simp only [List.getD_eq_getElem?_getD]
        rw [List.append_assoc, List.getElem?_append_left hj]
      rw [e2] at q
      rw [List.append_assoc] at hn
      have h3 := (List.nodup_append.1 hn).2.2
      exact h3 c (q ▸ mem_getD hj) c (by simp) rfl
    · simp [List.getD_eq_getElem?_getD]
  · rw [List.take_append_of_le_length (by simp), List.take_of_length_le (by simp), List.drop_append_of_le_length (Nat.le_refl _), List.drop_length]; rfl
structure Moved (l a : List Nd) (p c : Hd) (k : Nat) : Prop where
  same : off (ordSt l c.pl) (ordSt l k) = off (ordSt l c.pl) (ordSt a k)
  both : decide (c.pl ∈ ordSt a k) = decide (p.pl ∈ ordSt a k)
  seg : c.pl ∈ ordSt a k → 0 ≤ idxI (ordSt a k) c.pl ∧ idxI (ordSt a k) c.pl + ((ordSt l c.pl).length : Int) ≤ ((ordSt a k).length : Int) ∧
    ((ordSt a k).take (idxI (ordSt a k) c.pl + ((ordSt l c.pl).length : Int)).toNat).drop (idxI (ordSt a k) c.pl).toNat = ordSt l c.pl
theorem moved (D : InsDone l p c ah a) {k : Nat} (hk : k < l.length) (hp : (l.getD k default).par < 0) (hne : (k : Int) ≠ c.pl) : Moved l a p c k := by
  have hR := ins_right D
  have hl := (ins_alike D).len
  have hk' : (0 : Int) ≤ (k : Int) ∧ (k : Int) < (a.length : Int) := by omega
  have hca : 0 ≤ c.pl ∧ c.pl < (a.length : Int) := by rw [hl]; exact D.k.cr
  refine ⟨?_, ?_, fun hm => ?_⟩
  · unfold ordSt at *
    rw [hl]
    refine ord_off D _ _ (by omega) fun ⟨m, e⟩ => ?_
    cases m with
    | zero => exact hne e
    | succ m =>
      rw [Nat.add_comm, pN_add l 1 _ m] at e
      have e : pN l m (p1 l (k : Int)) = c.pl := e
      rw [p1, if_neg (by omega), Int.toNat_natCast] at e
      have key : ∀ m y, y < 0 → pN l m y < 0 := fun m => by
        induction m with
        | zero => exact fun y q => q
        | succ m ih => exact fun y q => by show p1 l (pN l m y) < 0; rw [p1, if_pos (ih y q)]; exact ih y q
      have := key m _ hp
      have := D.k.cr
      omega
  · have := ord_par hR hk' hca (by rw [ins_par D]; exact D.k.pr.1) (Ne.symm hne)
    rw [ins_par D] at this
    rw [Bool.eq_iff_iff, decide_eq_true_iff, decide_eq_true_iff]
    exact this.symm
  · obtain ⟨d, e⟩ := (ordS_mem hR hk' hca).1 hm
    obtain ⟨A, B, eq⟩ := ord_seg hR hk' d _ hca e
    have hn := ordS_nodup hR hk'
    have hS : ordSt a c.pl = c.pl :: (a.getD c.pl.toNat default).kids.flatMap (ordSt a) := ord_eq hR hca
    rw [eq] at hn
    obtain ⟨s1, s2⟩ := seg_idx hS hn
    have hlen : (ordSt a k).length = A.length + (ordSt a c.pl).length + B.length := by rw [eq, List.length_append, List.length_append]
    rw [← eq] at s1 s2
    rw [← ord_child D, s1]
    refine ⟨by omega, by omega, ?_⟩
    rw [show ((A.length : Int) + ((ordSt a c.pl).length : Int)).toNat = A.length + (ordSt a c.pl).length by omega, Int.toNat_natCast]
    exact s2
theorem hold_k {l : List Nd} (h : checkSt l = 0) {k : Nat} (hk : k < l.length) (hu : (l.getD k default).used = true) : holdsSt l ⟨(k : Int), (l.getD k default).uses⟩ = 0 := by
  have n1 := nodesErr_at (checkSt_nodes h) hk
  have h1 := n1.uses; have h2 := n1.use hu
  refine holds_0 ?_ ?_
  · simp only [holdsWho, Bool.or_eq_false_iff, decide_eq_false_iff_not, Int.toNat_natCast]; omega
  · simp only [holdsGone, Int.toNat_natCast, hu, decide_true, Bool.not_true, Bool.or_self]
structure MovesOk (l a : List Nd) (p c : Hd) (k : Nat) : Prop where
  m : Moved l a p c k
  o1 : orderSt l ⟨(k : Int), (l.getD k default).uses⟩ = (ordSt l k, 0)
  o2 : orderSt a ⟨(k : Int), (l.getD k default).uses⟩ = (ordSt a k, 0)
  n1 : (ordSt l k).length ≤ 24
  n2 : (ordSt a k).length ≤ 24
theorem movesOk (D : InsDone l p c ah a) {k : Nat} (hk : k < l.length) (h : ((!(l.getD k default).used || decide (0 ≤ (l.getD k default).par)) || decide ((k : Int) = c.pl)) = false) : MovesOk l a p c k := by
  simp only [Bool.or_eq_false_iff, Bool.not_eq_false', decide_eq_false_iff_not] at h
  obtain ⟨⟨hu, hp⟩, hne⟩ := h
  have hl := (ins_alike D).len
  have hh := hold_k D.k.ok hk hu
  have hha : holdsSt a ⟨(k : Int), (l.getD k default).uses⟩ = 0 := by rw [holds_alike (ins_alike D) _ (by show 0 ≤ (k : Int) ∧ (k : Int) < (l.length : Int); omega)]; exact hh
  have h24 := checkSt_len D.k.ok
  exact ⟨moved D hk (by omega) hne, order_2 (first_1 D.k.ok hh), order_2 (first_1 (ins_right D) hha),
    Nat.le_trans (ord_len D.k.ok (k := (k : Int)) (by omega)) h24, Nat.le_trans (ord_len (ins_right D) (k := (k : Int)) (by omega)) (by omega)⟩
theorem movesA {k : Nat} (M : MovesOk l a p c k) (e : (orderSt l c).1 = ordSt l c.pl) : ((((!decide ((orderSt l ⟨(k : Int), (l.getD k default).uses⟩).2 = 0)) || (!decide ((orderSt a ⟨(k : Int), (l.getD k default).uses⟩).2 = 0))) || (!eqInt ((orderSt l ⟨(k : Int), (l.getD k default).uses⟩).1.filter (fun x => !decide (x ∈ (orderSt l c).1))) ((orderSt a ⟨(k : Int), (l.getD k default).uses⟩).1.filter (fun x => !decide (x ∈ (orderSt l c).1))))) ||
    ((decide (c.pl ∈ (orderSt a ⟨(k : Int), (l.getD k default).uses⟩).1)) != (decide (p.pl ∈ (orderSt a ⟨(k : Int), (l.getD k default).uses⟩).1)))) = false := by
  rw [M.o1, M.o2, e]
  dsimp only
  have h1 := M.m.same
  unfold off at h1
  rw [h1, M.m.both, eqInt, decide_eq_true rfl, decide_eq_true rfl]; simp
theorem movesB {k : Nat} (M : MovesOk l a p c k) (e : (orderSt l c).1 = ordSt l c.pl) : ((decide (c.pl ∈ (orderSt a ⟨(k : Int), (l.getD k default).uses⟩).1)) && (!eqInt (((orderSt a ⟨(k : Int), (l.getD k default).uses⟩).1.take (Int.toNat (idxI (orderSt a ⟨(k : Int), (l.getD k default).uses⟩).1 c.pl + ((orderSt l c).1.length : Int)))).drop (Int.toNat (idxI (orderSt a ⟨(k : Int), (l.getD k default).uses⟩).1 c.pl))) (orderSt l c).1)) = false := by
  rw [M.o2, e]
  dsimp only
  by_cases q : c.pl ∈ ordSt a k
  · rw [(M.m.seg q).2.2, eqInt, decide_eq_true rfl]; simp
  · rw [decide_eq_false q]; rfl
theorem moves_s {k : Nat} (M : MovesOk l a p c k) (e : (orderSt l c).1 = ordSt l c.pl) (q : c.pl ∈ (orderSt a ⟨(k : Int), (l.getD k default).uses⟩).1) :
    0 ≤ idxI (orderSt a ⟨(k : Int), (l.getD k default).uses⟩).1 c.pl ∧ idxI (orderSt a ⟨(k : Int), (l.getD k default).uses⟩).1 c.pl + ((orderSt l c).1.length : Int) ≤ ((orderSt a ⟨(k : Int), (l.getD k default).uses⟩).1.length : Int) ∧ (orderSt a ⟨(k : Int), (l.getD k default).uses⟩).1.length ≤ 24 := by
  rw [M.o2] at q ⊢
  rw [e]
  exact ⟨(M.m.seg q).1, (M.m.seg q).2.1, M.n2⟩
end
end Go.Proofs.Ytmcdamcedemdiaa
namespace Go.Proofs.Ytmcdamcedemdiaa
open Go.RowKit Go.Eng
theorem movesK_ct (x : Int) (B : List Int) : Ct Try.prog 59 [iv (x), elB [inRow B] 0] (bv (decide (x ∈ B))) := by
 exact CtO 7 Try.func59 rfl rfl rfl fun E => Sq <| Rq <| O (As K) <| Nq <| Sq <| Rq <| O (Ld (V rfl) Ga33 (by show 0 < 1; decide)) <| O (Mv (V rfl)) <| CQ en36 (by exact ⟨⟨(V rfl), rfl⟩, ⟨(V rfl), rfl⟩, Z⟩) (contains_ct B x) <| O (As (V rfl)) <| Nq <| Rx <| R1 rfl (V rfl) rfl (by show bv (decide (x ∈ B)) = bv (decide (x ∈ B)); rfl)
theorem treeMoves_ct (l : List Nd) (p c : Hd) (ah : List Hd) (hb : ∀ n ∈ l, n.kids.length ≤ 17592186043904) : Ct Try.prog 8 [SV.agg 1 (stG l), SV.agg 2 (hdCell p), SV.agg 2 (hdCell c), hdRow ah] (bv true) := by
 refine CtO 132 Try.func8 rfl rfl rfl fun E => row_lenA 0 (V (s := 0) rfl) rfl rfl fun hl0_0 => Rl (V (s := 3) rfl) fun hl3 => Sq <| Rt <| BxA 1 (V rfl) rfl rfl <| BxA 2 (V rfl) rfl rfl <| BxA 3 (V rfl) rfl rfl <| U (As K) <| Nt <| Sq <| Rt <| U (LBA (V rfl) rfl Ga24 Sz24 (by decide)) <| U (LBA (V rfl) rfl Ga26 Sz26 (by decide)) <| U (LBA (V rfl) rfl Ga26 Sz26 (by decide)) <| U (Mv (V rfl)) <| CT en56 (by exact ⟨⟨(Vi (g' := stG l) (V rfl) ⟨Z, Ir⟩), rfl⟩, ⟨(Vi (g' := hdCell ⟨p.pl, p.use⟩) (V rfl) ⟨⟨Z, Ir⟩, Ir⟩), rfl⟩, ⟨(Vi (g' := hdCell ⟨c.pl, c.use⟩) (V rfl) ⟨⟨Z, Ir⟩, Ir⟩), rfl⟩, ⟨(V rfl), rfl⟩, Z⟩) (insert_ct l p c ah (by first | assumption | exact kb_nil | exact kb_of (by assumption) | exact kb_of fam_c5)) <| U (Mv (V rfl)) <| U (Xt (V rfl) (by decide)) <| U (Xt (V rfl) (by decide)) <| Al 4 zero24 rfl rfl <| StA (V rfl) rfl (V rfl) Sz24 <| U (As (V rfl)) <| Nt <| Sq <| Sq <| Rt <| CT en57 (by exact Z) (grown_ct) <| U (Qo (V rfl)) <| U (Mv (V rfl)) <| Ug (Gn rfl rfl) (fun hg => Mv (V rfl)) <| Ug (Gn rfl rfl) (fun hg => Qn (Vg (V rfl) hg) K) <| U (Qr (V rfl) (fun h => Vg (V rfl) (notT h))) <| Nt <| Cd (V rfl) (fun hc1 => ?_) (fun hc1 => ?_)
 ·have hc1s := hc1; try simp only [BL] at hc1s
  exact Sq <| Rt <| CT en57 (by exact Z) (grown_ct) <| U (As (V rfl)) <| Nt <| Rx <| R1 rfl (V rfl) rfl (by show bv (true) = bv true; rfl)
 ·have hc1s := hc1; try simp only [BL] at hc1s
  have hq : (insSt l p c ah).2 = 0 := by simpa using hc1s
  have D := insDone_of hq
  have hA := ins_right D
  have hc0 := D.k.ok
  have hlA := (ins_alike D).len
  have h24 := checkSt_len hc0
  refine Sk <| Sq <| Rt <| U (LBA (V rfl) rfl Ga24 Sz24 (by decide)) <| U (LBA (V rfl) rfl Ga26 Sz26 (by decide)) <| CM (cargs := [SV.agg 1 (stG l), SV.agg 2 (hdCell ⟨c.pl, c.use⟩)]) [] [(0, 5)] en58 (mv0 (by exact ⟨⟨(Vi (g' := stG l) (V rfl) ⟨Z, Ir⟩), rfl⟩, ⟨(Vi (g' := hdCell ⟨c.pl, c.use⟩) (V rfl) ⟨⟨Z, Ir⟩, Ir⟩), rfl⟩, Z⟩)) (order_ct l c (by first | assumption | exact kb_nil | exact kb_of (by assumption) | exact kb_of fam_c5)) (by exact Z) rfl rfl rfl rfl <| U (Mv (V rfl)) <| U (Xt (V rfl) (by decide)) <| U (Xt (V rfl) (by decide)) <| Al 6 zero33 rfl rfl <| t_st1V (V rfl) rfl (V rfl) (one_own rfl) Sz33 (by decide) <| U (As (V rfl)) <| Nt <| Sq <| Sq <| Rq <| O (Mv (V rfl)) <| O (Qn (V rfl) K) <| Nq <| Cd (V rfl) (fun hc2 => ?_) (fun hc2 => ?_)
  ·have hc2s := hc2; try simp only [BL] at hc2s
   exact absurd (ins_order D).2 hc2s
   --done
  ·have hc2s := hc2; try simp only [BL] at hc2s
   refine Sk <| Sq <| Sq <| FzC 5 rfl <| c_frzB 6 [inRow ((orderSt l c).1)] rfl rfl ⟨Z, rfl⟩ rfl <| Rq <| O (FlB _ _ (V rfl) Un24 rfl 0 Sz22) <| O (LdB (V rfl) rfl Ga22 (by decide)) <| O (Ln (V rfl) ts22) <| O (Mv K) <| Nq <| Bo <| Lo (fun (k : Nat) => ⟨[(4, SV.bp 1 0), (5, SV.bp 2 0), (6, SV.bp 3 0), (9, SV.bp 4 0), (11, elB [inRow ((orderSt l c).1)] 0), (46, ndRow l), (47, iv ((l.length : Int))), (48, iv ((k : Int)))], [(1, Own.box 1 (stG l) 24), (2, Own.box 2 (hdCell p) 26), (3, Own.box 2 (hdCell c) 26), (4, Own.box 1 (stG ((insSt l p c ah).1)) 24)]⟩) (fun (k : Nat) => k ≤ l.length) (fun (k : Nat) => l.length - k) 0 (by show 0 ≤ l.length; exact Nat.zero_le _) (We (ow := [(1, Own.box 1 (stG l) 24), (2, Own.box 2 (hdCell p) 26), (3, Own.box 2 (hdCell c) 26), (4, Own.box 1 (stG ((insSt l p c ah).1)) 24)]) (Vs rfl) (by exact ⟨⟨_, rfl, rfl, rfl, (An rfl)⟩, ⟨_, rfl, rfl, rfl, (An rfl)⟩, ⟨_, rfl, rfl, rfl, (An rfl)⟩, ⟨_, rfl, rfl, rfl, (An rfl)⟩, Z⟩)) <| ?_
   ·rintro k hI1
    have hJ1 : k ≤ l.length := hI1
    refine Sq <| Rq <| O (Lt (V rfl) (V rfl)) <| Nq <| Sq <| Cd (V rfl) (fun hc3 => ?_) (fun hc3 => ?_)
    ·have hc3s := hc3; try simp only [BL] at hc3s
     refine Sk <| Sq <| Bo <| Sq <| Rt <| U (Mv (V rfl)) <| U (IxN (i := k) (V rfl) (V rfl) ts22 te22 (by omega)) <| U (LdA (V rfl) Ga61 Sz61 (by decide)) <| Al 7 zero61 rfl rfl <| U (As (V rfl)) <| StA (V rfl) rfl (V rfl) Sz61 <| Nt <| Sq <| Sq <| Rq <| O (FlB _ _ (V rfl) Un61 rfl 0 Sz4) <| O (LdB (V rfl) rfl Ga4 (by decide)) <| O (Qo (V rfl)) <| O (Mv (V rfl)) <| Og (Gn rfl rfl) (fun hg => FlB _ _ (V rfl) Un61 rfl 0 Sz3) <| Og (Gn rfl rfl) (fun hg => LdB (Vg (V rfl) hg) rfl Ga3 (by decide)) <| Og (Gn rfl rfl) (fun hg => Ge (Vg (V rfl) hg) K) <| O (Qr (V rfl) (fun h => Vg (V rfl) (notT h))) <| O (Mv (V rfl)) <| Og (Gn rfl rfl) (fun hg => Mv (V rfl)) <| Og (Gn rfl rfl) (fun hg => FlB _ _ (V rfl) Un26 rfl 0 Sz3) <| Og (Gn rfl rfl) (fun hg => LdB (Vg (V rfl) hg) rfl Ga3 (by decide)) <| Og (Gn rfl rfl) (fun hg => Ql (Vg (V rfl) hg) (Vg (V rfl) hg)) <| O (Qr (V rfl) (fun h => Vg (V rfl) (notT h))) <| Nq <| Cd (V rfl) (fun hc4 => ?_) (fun hc4 => ?_)
     ·have hc4s := hc4; try simp only [BL] at hc4s
      refine Ex <| Rq <| O (Ad (V rfl) K (by omega)) <| O (Mv (V rfl)) <| Nq <| Nx (k + 1) (by show (k + 1) ≤ l.length; first | omega | (simp; done) | (refine ⟨?_, ?_⟩ <;> first | omega | (simp; done))) (by show l.length - (k + 1) < l.length - k; omega) (We (ow := [(1, Own.box 1 (stG l) 24), (2, Own.box 2 (hdCell p) 26), (3, Own.box 2 (hdCell c) 26), (4, Own.box 1 (stG ((insSt l p c ah).1)) 24)]) (Vs rfl) (by exact ⟨⟨_, rfl, rfl, rfl, (An rfl)⟩, ⟨_, rfl, rfl, rfl, (An rfl)⟩, ⟨_, rfl, rfl, rfl, (An rfl)⟩, ⟨_, rfl, rfl, rfl, (An rfl)⟩, Z⟩))
     ·have hc4s := hc4; try simp only [BL] at hc4s
      have MM := movesOk D (k := k) (by omega) hc4
      have hbe : (orderSt l c).1 = ordSt l c.pl := by rw [order_2 (first_1 hc0 D.k.ch)]
      have ho1 := congrArg Prod.snd MM.o1
      have ho2 := congrArg Prod.snd MM.o2
      have hn1 : (orderSt l (⟨(k : Int), (l.getD k default).uses⟩ : Hd)).1.length ≤ 24 := by rw [MM.o1]; exact MM.n1
      have hn2 : (orderSt (insSt l p c ah).1 (⟨(k : Int), (l.getD k default).uses⟩ : Hd)).1.length ≤ 24 := by rw [MM.o2]; exact MM.n2
      refine Sk <| Sq <| Rt <| U (Mv (V rfl)) <| U (FlB _ _ (V rfl) Un61 rfl 0 Sz3) <| U (LdB (V rfl) rfl Ga3 (by decide)) <| U (Bu [(0, iv ((k : Int))), (1, iv ((l.getD k default).uses))] id (hdCell ⟨(k : Int), (l.getD k default).uses⟩) zero26 build26 (by exact ⟨⟨rfl, (V rfl), rfl⟩, ⟨rfl, (V rfl), rfl⟩, Z⟩) (by decide) ⟨⟨Z, rfl⟩, rfl⟩) <| Al 8 zero26 rfl rfl <| StA (V rfl) rfl (V rfl) Sz26 <| Nt <| Sq <| Rt <| U (LBA (V rfl) rfl Ga24 Sz24 (by decide)) <| U (LBA (V rfl) rfl Ga26 Sz26 (by decide)) <| CM (cargs := [SV.agg 1 (stG l), SV.agg 2 (hdCell ⟨(k : Int), (l.getD k default).uses⟩)]) [] [(0, 9)] en58 (mv0 (by exact ⟨⟨(Vi (g' := stG l) (V rfl) ⟨Z, Ir⟩), rfl⟩, ⟨(Vi (g' := hdCell ⟨(k : Int), (l.getD k default).uses⟩) (V rfl) ⟨⟨Z, Ir⟩, Ir⟩), rfl⟩, Z⟩)) (order_ct l ⟨(k : Int), (l.getD k default).uses⟩ (by first | assumption | exact kb_nil | exact kb_of (by assumption) | exact kb_of fam_c5)) (by exact Z) rfl rfl rfl rfl <| U (Mv (V rfl)) <| U (Xt (V rfl) (by decide)) <| U (Xt (V rfl) (by decide)) <| U (As (V rfl)) <| U (As (V rfl)) <| Nt <| Sq <| Rt <| U (LBA (V rfl) rfl Ga24 Sz24 (by decide)) <| U (LBA (V rfl) rfl Ga26 Sz26 (by decide)) <| CM (cargs := [SV.agg 1 (stG ((insSt l p c ah).1)), SV.agg 2 (hdCell ⟨(k : Int), (l.getD k default).uses⟩)]) [] [(0, 10)] en58 (mv0 (by exact ⟨⟨(Vi (g' := stG ((insSt l p c ah).1)) (V rfl) ⟨Z, Ir⟩), rfl⟩, ⟨(Vi (g' := hdCell ⟨(k : Int), (l.getD k default).uses⟩) (V rfl) ⟨⟨Z, Ir⟩, Ir⟩), rfl⟩, Z⟩)) (order_ct ((insSt l p c ah).1) ⟨(k : Int), (l.getD k default).uses⟩ (by first | assumption | exact kb_nil | exact kb_of (by assumption) | exact kb_of fam_c5)) (by exact Z) rfl rfl rfl rfl <| U (Mv (V rfl)) <| U (Xt (V rfl) (by decide)) <| U (Xt (V rfl) (by decide)) <| U (As (V rfl)) <| U (As (V rfl)) <| Nt <| Sq <| FzC 9 rfl <| FzC 10 rfl <| Rq <| O (Mk (caps := [elB [inRow ((orderSt l c).1)] 0]) ⟨(V rfl), Z⟩) <| O (As (V rfl)) <| Nq <| Sq <| ?_
      refine Rq <| O (Mv (V rfl)) <| O (FlB _ _ (V rfl) Un26 rfl 0 Sz3) <| O (LdB (V rfl) rfl Ga3 (by decide)) <| CQ en36 (by exact ⟨⟨(V rfl), rfl⟩, ⟨(V rfl), rfl⟩, Z⟩) (contains_ct ((orderSt ((insSt l p c ah).1) ⟨(k : Int), (l.getD k default).uses⟩).1) c.pl) <| O (As (V rfl)) <| Nq <| Sq <| Sq <| Rt <| U (Mv (V rfl)) <| U (Qn (V rfl) K) <| U (Mv (V rfl)) <| Ug (Gn rfl rfl) (fun hg => Mv (V rfl)) <| Ug (Gn rfl rfl) (fun hg => Qn (Vg (V rfl) hg) K) <| U (Qr (V rfl) (fun h => Vg (V rfl) (notT h))) <| U (Mv (V rfl)) <| t_forced (Gn rfl rfl) (by rw [ho1, ho2]; rfl) <| U (Mv (V rfl)) <| t_forced (Gn rfl rfl) (by rw [ho1, ho2]; rfl) <| CM (cargs := [inRow ((orderSt l ⟨(k : Int), (l.getD k default).uses⟩).1)]) [] [(0, 11)] en61 (mv0 (by exact ⟨⟨(V rfl), rfl⟩, Z⟩)) (clone_ct ((orderSt l ⟨(k : Int), (l.getD k default).uses⟩).1) (by omega)) (by exact Z) rfl rfl rfl rfl <| t_forced (Gn rfl rfl) (by rw [ho1, ho2]; rfl) <| U (Mv (V rfl)) <| t_forced (Gn rfl rfl) (by rw [ho1, ho2]; rfl) <| CM (cargs := [SV.own 1000, fnA 59 ([elB [inRow ((orderSt l c).1)] 0])]) [(1000, 11)] [(0, 12)] en60 (by exact ⟨(V rfl), (VA (VF [elB [inRow ((orderSt l c).1)] 0] ((V rfl)) (An rfl)) rfl), Z⟩) (del60_ct (fun x => decide (x ∈ (orderSt l c).1)) en59 rfl (fun x => movesK_ct x (orderSt l c).1) ((orderSt l ⟨(k : Int), (l.getD k default).uses⟩).1) (by omega)) (by exact ⟨⟨_, rfl, rfl⟩, Z⟩) rfl rfl rfl rfl <| t_forced (Gn rfl rfl) (by rw [ho1, ho2]; rfl) <| U (Mv (V rfl)) <| t_forced (Gn rfl rfl) (by rw [ho1, ho2]; rfl) <| CM (cargs := [inRow ((orderSt ((insSt l p c ah).1) ⟨(k : Int), (l.getD k default).uses⟩).1)]) [] [(0, 13)] en61 (mv0 (by exact ⟨⟨(V rfl), rfl⟩, Z⟩)) (clone_ct ((orderSt ((insSt l p c ah).1) ⟨(k : Int), (l.getD k default).uses⟩).1) (by omega)) (by exact Z) rfl rfl rfl rfl <| t_forced (Gn rfl rfl) (by rw [ho1, ho2]; rfl) <| U (Mv (V rfl)) <| t_forced (Gn rfl rfl) (by rw [ho1, ho2]; rfl) <| CM (cargs := [SV.own 1000, fnA 59 ([elB [inRow ((orderSt l c).1)] 0])]) [(1000, 13)] [(0, 14)] en60 (by exact ⟨(V rfl), (VA (VF [elB [inRow ((orderSt l c).1)] 0] ((V rfl)) (An rfl)) rfl), Z⟩) (del60_ct (fun x => decide (x ∈ (orderSt l c).1)) en59 rfl (fun x => movesK_ct x (orderSt l c).1) ((orderSt ((insSt l p c ah).1) ⟨(k : Int), (l.getD k default).uses⟩).1) (by omega)) (by exact ⟨⟨_, rfl, rfl⟩, Z⟩) rfl rfl rfl rfl <| t_forced (Gn rfl rfl) (by rw [ho1, ho2]; rfl) <| CTb en26 (by exact ⟨(vb_own (V rfl) rfl), (vb_own (V rfl) rfl), Z⟩) (equal_ct (((orderSt l ⟨(k : Int), (l.getD k default).uses⟩).1).filter (fun x => !decide (x ∈ (orderSt l c).1))) (((orderSt ((insSt l p c ah).1) ⟨(k : Int), (l.getD k default).uses⟩).1).filter (fun x => !decide (x ∈ (orderSt l c).1)))) <| t_forced (Gn rfl rfl) (by rw [ho1, ho2]; rfl) <| U (Qo (V rfl)) <| U (Qr (V rfl) (fun h => V rfl)) <| U (Mv (V rfl)) <| Ug (Gn rfl rfl) (fun hg => Mv (V rfl)) <| ?_
      refine Ug (Gn rfl rfl) (fun hg => Mv (V rfl)) <| Ug (Gn rfl rfl) (fun hg => FlB _ _ (V rfl) Un26 rfl 0 Sz3) <| Ug (Gn rfl rfl) (fun hg => LdB (Vg (V rfl) hg) rfl Ga3 (by decide)) <| CTg (Gn rfl rfl) en36 (fun hg => (by exact ⟨⟨(Vg (V rfl) hg), rfl⟩, ⟨(Vg (V rfl) hg), rfl⟩, Z⟩)) (fun hg => contains_ct ((orderSt ((insSt l p c ah).1) ⟨(k : Int), (l.getD k default).uses⟩).1) p.pl) <| Ug (Gn rfl rfl) (fun hg => q_neqb (Vg (V rfl) hg) (Vg (V rfl) hg) Un4) <| U (Qr (V rfl) (fun h => Vg (V rfl) (notT h))) <| Nt <| Cd (V rfl) (fun hc5 => ?_) (fun hc5 => ?_)
      ·have hc5s := hc5; try simp only [BL] at hc5s
       exact absurd hc5 (ff (movesA MM hbe))
       --done
      ·have hc5s := hc5; try simp only [BL] at hc5s
       refine Sk <| Sq <| Rq <| O (Mv (V rfl)) <| O (FlB _ _ (V rfl) Un26 rfl 0 Sz3) <| O (LdB (V rfl) rfl Ga3 (by decide)) <| CQ en62 (by exact ⟨⟨(V rfl), rfl⟩, ⟨(V rfl), rfl⟩, Z⟩) (index_ct ((orderSt ((insSt l p c ah).1) ⟨(k : Int), (l.getD k default).uses⟩).1) c.pl) <| O (As (V rfl)) <| Nq <| Sq <| Rqd (by kernel_rfl) (by kernel_rfl) <| O (Mv (V rfl)) <| O (Mv (V rfl)) <| Og (Gy rfl rfl) (fun hg => Mv (V rfl)) <| Og (Gy rfl rfl) (fun hg => Mv (V rfl)) <| Og (Gy rfl rfl) (fun hg => Mv (V rfl)) <| Og (Gy rfl rfl) (fun hg => Ld (V rfl) Ga33 (by show 0 < 1; decide)) <| Og (Gy rfl rfl) (fun hg => Ln (Vg (V rfl) hg) ts33) <| Og (Gy rfl rfl) (fun hg => Ad (Vg (V rfl) hg) (Vg (V rfl) hg) (by have hq := hg; simp only [BL] at hq; have hms := moves_s MM hbe hq; omega)) <| Og (Gy rfl rfl) (fun hg => q_slT ts33 te33 (Vg (V rfl) hg) (Vg (V rfl) hg) (Vg (V rfl) hg) (by have hq := hg; simp only [BL] at hq; have hms := moves_s MM hbe hq; omega) (by have hq := hg; simp only [BL] at hq; have hms := moves_s MM hbe hq; omega) (by have hq := hg; simp only [BL] at hq; have hms := moves_s MM hbe hq; omega)) <| Og (Gy rfl rfl) (fun hg => Ld (V rfl) Ga33 (by show 0 < 1; decide)) <| CQg (Gy rfl rfl) en26 (fun hg => (by exact ⟨⟨(Vg (V rfl) hg), rfl⟩, ⟨(Vg (V rfl) hg), rfl⟩, Z⟩)) (fun hg => equal_ct ((((orderSt ((insSt l p c ah).1) ⟨(k : Int), (l.getD k default).uses⟩).1).take (Int.toNat ((idxI ((orderSt ((insSt l p c ah).1) ⟨(k : Int), (l.getD k default).uses⟩).1) c.pl) + ((((orderSt l c).1).length : Int))))).drop (Int.toNat (idxI ((orderSt ((insSt l p c ah).1) ⟨(k : Int), (l.getD k default).uses⟩).1) c.pl))) ((orderSt l c).1)) <| Og (Gy rfl rfl) (fun hg => Qo (Vg (V rfl) hg)) <| O (Qa (V rfl) (fun h => Vg (V rfl) h)) <| Nq <| Cd (V rfl) (fun hc6 => ?_) (fun hc6 => ?_)
       ·have hc6s := hc6; try simp only [BL] at hc6s
        exact absurd hc6 (ff (movesB MM hbe))
        --done
       ·have hc6s := hc6; try simp only [BL] at hc6s
        refine Sk <| Rq <| O (Ad (V rfl) K (by omega)) <| O (Mv (V rfl)) <| Nq <| Nx (k + 1) (by show (k + 1) ≤ l.length; first | omega | (simp; done) | (refine ⟨?_, ?_⟩ <;> first | omega | (simp; done))) (by show l.length - (k + 1) < l.length - k; omega) (We (ow := [(1, Own.box 1 (stG l) 24), (2, Own.box 2 (hdCell p) 26), (3, Own.box 2 (hdCell c) 26), (4, Own.box 1 (stG ((insSt l p c ah).1)) 24)]) (Vs rfl) (by exact ⟨⟨_, rfl, rfl, rfl, (An rfl)⟩, ⟨_, rfl, rfl, rfl, (An rfl)⟩, ⟨_, rfl, rfl, rfl, (An rfl)⟩, ⟨_, rfl, rfl, rfl, (An rfl)⟩, Z⟩))
    ·have hc3s := hc3; try simp only [BL] at hc3s
     exact Ex <| Sq <| Rq <| O (As K) <| Nq <| Rx <| R1 rfl (V rfl) rfl (by show bv (true) = bv true; rfl)
end Go.Proofs.Ytmcdamcedemdiaa
